/-
  The walk of ParseBlanks.
-/
import Derived.Test.YtkjoohnndobjeaaGreatDoorPhB
import Derived.Test.YtkjoohnndobjeaaGreatDoorPhC
import Derived.Test.YtkjoohnndobjeaaGreatDoorPbO
import Derived.Test.YtkjoohnndobjeaaGreatDoorQZ
import Derived.Test.YtkjoohnndobjeaaGreatDoorQY
set_option linter.unusedVariables false
set_option maxHeartbeats 4000000
set_option maxRecDepth 100000
namespace Go.Proofs.YtkjoohnndobjeaaGreatDoor
open Go.RowKit Go.Lib Go.Fl Go.Fl.Lx Go.Fl.Nm Go.Fl.Fm Go.Fl.Rt Go.Fl.Pa
open List (setIfInBounds_toArray set_cons_zero set_cons_succ getElem_toArray getElem_cons_zero getElem_cons_succ)
theorem split_t (s : ByteArray) (w : World) (hs : s.size ≤ maxLen) : Calls Tryz.prog 30 #[.string s] w fun e w' => ∃ (A : Option Addr) (len cap ln co er : Nat), e = .returned (.tuple #[.slice A len cap, .agg #[.int .i64 ln, .int .i64 co], .int .i64 er]) ∧ Hid (Below w.heap.size w w') ∧ Hid (er = 0 → ∃ ts, lexRes s.data.toList = .ok ts ∧ len = ts.length ∧ TsAt w' A len cap ts) :=
  (split_any s w hs).mono (by
    rintro e w' ⟨hb, h⟩
    cases hl : lexRes s.data.toList with
    | error p =>
      obtain ⟨ln, co, er⟩ := p
      rw [hl] at h
      exact ⟨none, 0, 0, ln, co, er, h, hb, fun e => absurd e (lexRes_err hl).1⟩
    | ok ts =>
      rw [hl] at h
      obtain ⟨v, he, ho⟩ := h
      obtain ⟨_, A, len, cap, rfl, hlen, hT, _⟩ := ts_of hl ho
      exact ⟨A, len, cap, 0, 0, 0, he, hb, fun _ => ⟨ts, rfl, hlen, hT⟩⟩)
theorem no10 {c : ByteArray} (h : decide (0 ≤ Lib.indexByte c.data.toList 10) = false) : (10 : UInt8) ∉ c.data.toList := by
 rw [decide_eq_false_iff_not, indexByte_nonneg] at h
 exact h
theorem nt_nil {n : List UInt8} {ts : List Tok} (h : ts.flatMap (noteT n) = []) : ts = [] := by
 cases ts with
 | nil => rfl
 | cons t ts =>
  rw [List.flatMap_cons] at h
  have h2 := (List.append_eq_nil_iff.1 h).1
  unfold noteT at h2
  simp at h2
theorem texts2 {l n nt : List UInt8} {ts : List Tok} {J : ByteArray} (h : lexRes l = .ok ts) (hl : l.length ≤ 4000) (hJ : J.data.toList = joinP (ts.map tiOf)) (hnt : nt = ts.flatMap (noteT n)) (hn : (10 : UInt8) ∉ n) (hb : nt.length ≤ 65536) :
 ∀ j : Nat, j < 2 → ∃ U : ByteArray, [Value.string J, Value.string ⟨nt.toArray⟩][j]? = some (.string U) ∧ U.size ≤ maxLen ∧ exE U.data.toList = exE l ∧ pbE U.data.toList = pbE l ∧ exT U.data.toList = exT l ∧ pbT U.data.toList = pbT l := by
 have go : ∀ U : ByteArray, U.data.toList.length ≤ 65536 → (∃ vs, lexRes U.data.toList = .ok vs ∧ zs vs = zs ts) → U.size ≤ maxLen ∧ exE U.data.toList = exE l ∧ pbE U.data.toList = pbE l ∧ exT U.data.toList = exT l ∧ pbT U.data.toList = pbT l := by
  rintro U hu ⟨vs, h1, h2⟩
  have x := expr_z h h1 h2
  have p := prob_zz h h1 h2
  exact ⟨Nat.le_trans (show U.data.toList.length ≤ 65536 from hu) (by decide), x.1, p.1, exT_eq x.1 x.2, pbT_eq p.1 p.2⟩
 obtain ⟨_, j2, j3⟩ := join_zs h hl
 intro j hj
 rcases (show j = 0 ∨ j = 1 by omega) with rfl | rfl
 ·
  exact ⟨J, rfl, go J (by rw [hJ]; omega) (by rw [hJ]; exact j3)⟩
 exact ⟨⟨nt.toArray⟩, rfl, go ⟨nt.toArray⟩ hb (by subst hnt; exact note_zs h hn hb)⟩

theorem parseBlanks_any (a0 a1 : ByteArray) (w : World) (w0 : a0.size ≤ maxLen) (w1 : a1.size ≤ maxLen) (hR : RX w) (hX : FX w) : Calls Tryz.prog 9 #[.string a0, .string a1] w (RetB (.bool true) w) := by
 have HR := hI hR
 have HX := hI hX
 clear hR hX
 have ch := hI (Below.refl w.heap.size w)
 go_enter Tryz.func9, Tryz.ntmps9
 go_wp2_with fail
 refine (awake14_any w HR.out HX.out).mono ?_
 rintro e ww1 ⟨rfl, ah⟩
 have S := ch.out.t ah
 have V := HR.out.b9 ah
 have W := HX.out.b9 ah
 by_cases h0 : a0.size ≤ 4000
 case neg =>
  have d0 : decide ((4000 : Int) < (a0.size : Int)) = true := decide_eq_true (by omega); have e0 : decide (4000 < a0.size) = true := decide_eq_true (by omega)
  go_wp2_with fail
  refine (awake14_any ww1 V.out W.out).mono ?_
  rintro e ww2 ⟨rfl, ci⟩
  go_wp2_with fail
  go_ret
  exact ⟨rfl, (S.out.t ci)⟩
 have d0 : decide ((4000 : Int) < (a0.size : Int)) = false := decide_eq_false (by omega)
 have e0 : decide (4000 < a0.size) = false := decide_eq_false (by omega)
 by_cases h1 : a1.size ≤ 100
 case neg =>
  have x : decide ((100 : Int) < (a1.size : Int)) = true := decide_eq_true (by omega); have e1 : decide (100 < a1.size) = true := decide_eq_true (by omega)
  go_wp2_with fail
  refine (awake14_any ww1 V.out W.out).mono ?_
  rintro e ww3 ⟨rfl, aj⟩
  go_wp2_with fail
  go_ret
  exact ⟨rfl, (S.out.t aj)⟩
 have x : decide ((100 : Int) < (a1.size : Int)) = false := decide_eq_false (by omega)
 have e1 : decide (100 < a1.size) = false := decide_eq_false (by omega)
 go_wp2_with fail
 refine (Tryz.strings_Contains_one a1 10 _).mono ?_
 obtain ⟨c, hc⟩ : ∃ c, decide (0 ≤ Lib.indexByte a1.data.toList 10) = c := ⟨_, rfl⟩
 rw [hc]
 rintro e w' ⟨rfl, N⟩
 rw [N]
 clear N
 cases c with
 | true =>
  clear hc
  go_wp2_with fail
  refine (awake14_any ww1 V.out W.out).mono ?_
  rintro e ww4 ⟨rfl, cj⟩
  go_wp2_with fail
  go_ret
  exact ⟨rfl, (S.out.t cj)⟩
 | false =>
  have N1 := hI (no10 hc); clear hc d0 x e0 e1
  go_wp2_with fail
  refine (split_t a0 ww1 w0).mono ?_
  rintro e ww5 ⟨A, ff, ck, ln, co, er, rfl, ak, bh⟩; have cn := S.out.t ak; have HM := hI (Below.refl ww5.heap.size ww5)
  go_upto_region 4 with (fail)
  obtain ⟨i, b, X, _⟩ := aX ww5 40 #[.int .i64 (ln : Nat), .int .i64 (co : Nat)]; rw [← b]; clear b; have al := cn.out.t X; have bj := hI ((V.out.belowW ak.out).belowW X.out); have bk := hI ((W.out.belowW ak.out).belowW X.out)
  by_cases hz : er = 0
  case neg =>
   have x : (((er : Nat) : Int) != 0) = true := by rw [bne_iff_ne]; omega
   go_wp2_with fail
   go_ret
   exact ⟨rfl, al⟩
  subst hz; obtain ⟨g, bl, cp, bm⟩ := bh.out rfl; subst cp; have H := hI bl; have Y := hI (bm.belowW (HM.out.trans (X.out.mono HM.out.size))); clear bl bm bh
  go_upto_region 7 with (fail)
  obtain ⟨wb, Z, bn, _⟩ := aX i 87 #[.pointer none, .slice none 0 0]; have bo := hI (show Bd i.heap.size i.heap.size [] wb by rw [Z]; exact Bd.fresh _); have bp := hI (show i.heap.size < wb.heap.size by rw [Z]; simp); rw [← Z]; clear Z; obtain ⟨B, hB⟩ := eX (i.heap.size); rw [← hB] at bo bn bp ⊢; have ao := hI hB; clear hB; have HN := hI (show g.length ≤ 100000 from Y.out.hs); have aq := hI (show ∀ t ∈ g, t.text.length ≤ 100 from fun t h => (Y.out.ht t h).1)
  go_wp2_with fail
  go_loopg [52] g.length (fun k iv wr => ∃ j : Nat, iv = .int .i64 j ∧ j ≤ g.length ∧ k = g.length - j ∧ Hid (Bd B B ((g.take j).flatMap (noteT a1.data.toList)) wr) ∧ Hid (Kept B B wb wr))
  case atStart => exact ⟨0, rfl, by omega, by omega, bo, Kept.refl _ _ _⟩
  obtain ⟨j, rfl, hj, rfl, aa, HL⟩ := hrel; have ar := hI (show Below i.heap.size i wr by have h := bn.out.trans HL.out.below; rwa [ao.out] at h); have fh := HL.out.size; have au : B ≤ wr.heap.size := (by rw [ao.out]; exact ar.out.size)
  have av : ((g.take j).flatMap (noteT a1.data.toList)).length ≤ 20500000 := by
   have h1 := flat_len (noteT a1.data.toList) (g.take j) 205 (fun t ht => by
    have h2 := aq.out t (List.mem_of_mem_take ht); have h3 : a1.data.toList.length ≤ 100 := h1
    unfold noteT
    simp only [List.length_append, List.length_cons, List.length_nil]
    omega)
   have h2 := take_le g j; have h3 := HN.out
   omega
  by_cases hlt : j < g.length
  case pos =>
   obtain ⟨bb, o, rfl, D⟩ := (Y.out.belowW ar.out).at_ j hlt; have aw := tk_at hlt; have cr := aq.out _ (List.mem_of_getElem? aw); have ax := hI (flat_snoc (noteT a1.data.toList) g j _ aw); obtain ⟨T, hT⟩ := eX (Pa.tk g j); rw [← hT] at D cr ax; have fi := D.lt; have x0 : wr.cell? ⟨bb, o + j * 4, none⟩ = some (.int .i64 T.kind) := D.c 0 _ rfl; have x1 : wr.cell? ⟨bb, o + j * 4 + 1, none⟩ = some (.string ⟨T.text.toArray⟩) := D.c 1 _ rfl; have x2 : wr.cell? ⟨bb, o + j * 4 + 2, none⟩ = some (.int .i64 T.line) := D.c 2 _ rfl; have x3 : wr.cell? ⟨bb, o + j * 4 + 3, none⟩ = some (.int .i64 T.col) := D.c 3 _ rfl; obtain ⟨cw, bs⟩ := eX ((g.take j).flatMap (noteT a1.data.toList)); rw [← bs] at av aa ax; have x : decide ((j : Int) < (g.length : Int)) = true := decide_eq_true (by omega); clear aw D hT bs
   go_upto_region 10 with (fail)
   obtain ⟨w1, bt, ay, F1⟩ := aX wr 58 #[.int .i64 T.kind, .string ⟨T.text.toArray⟩, .int .i64 T.line, .int .i64 T.col]; rw [← bt]; clear bt x0 x1 x2 x3 x; obtain ⟨p0, p1, p2, p3⟩ := F1.out.all4'; have bu : (⟨T.text.toArray⟩ : ByteArray).size = T.text.length := rfl; have s1 : ¬ 9223372036854775807 < T.text.length + 4 := (by omega); have s2 : ¬ 9223372036854775807 < T.text.length + 4 + a1.size := (by omega); have s3 : ¬ 9223372036854775807 < T.text.length + 4 + a1.size + 1 := (by omega)
   go_wp2_with fail
   refine (ws_any B B cw _ w1 (aa.out.belowW ay.out) (by
    simp only [ByteArray.size_append]; rw [show (⟨#[32, 9, 35, 32]⟩ : ByteArray).size = 4 from rfl, show (⟨#[10]⟩ : ByteArray).size = 1 from rfl, bu]
    omega) (Nat.le_trans au ay.out.size)).mono ?_
   rintro e w3 ⟨rfl, aj, c6⟩; clear p0 p1 p2 p3 s1 s2 s3 bu; have hN := HN.out
   go_wp2_with fail
   go_roundg (g.length - (j + 1))
   case measure => omega
   refine ⟨j + 1, by go_num, by omega, rfl, ?_, (hI (HL.out.trans ((Kept.of ay.out au).trans c6.out)))⟩
   have h := aj.out; simp only [data_app] at h
   unfold Hid
   rw [ax.out]; rw [show noteT a1.data.toList T = T.text ++ ([32, 9, 35, 32] ++ a1.data.toList ++ [10]) from rfl]
   simpa only [List.append_assoc] using h
  have az : j = g.length := (by omega); subst az; have HF := hI (show Bd B B (g.flatMap (noteT a1.data.toList)) wr by have := aa.out; rwa [List.take_length] at this); have x : decide ((g.length : Int) < (g.length : Int)) = false := decide_eq_false (by omega); rw [List.take_length] at av; obtain ⟨l, a2⟩ := eX (g.flatMap (noteT a1.data.toList)); rw [← a2] at HF av; have ae := hI a2; clear a2 aa hlt
  go_wp2_with fail
  refine (blen_any B B l wr HF.out).mono ?_
  rintro e w' ⟨rfl, N⟩; rw [N]; clear N x; have O := hI (show Below i.heap.size i wr from ar.out); have bv := bj.out.b9 O; have bw := bk.out.b9 O
  by_cases hbig : 65536 < l.length
  case pos =>
   have d2 : decide ((65536 : Int) < (l.length : Int)) = true := decide_eq_true (by omega); have d3 : decide (65536 < l.length) = true := decide_eq_true hbig
   go_wp2_with fail
   go_ret
   exact ⟨rfl, (al.out.t O)⟩
  have d2 : decide ((65536 : Int) < (l.length : Int)) = false := decide_eq_false (by omega); have d3 : decide (65536 < l.length) = false := decide_eq_false hbig; have da := hI (Below.refl wr.heap.size wr)
  go_wp2_with fail
  refine (pExpr_t a0 wr w0 bv.out bw.out).mono ?_
  rintro e ww7 ⟨v, db, dc, rfl, P, dd⟩; have bx := da.out.t P; have de := O.out.t P
  go_upto_region 15 with (fail)
  obtain ⟨af, b⟩ := eX (((ww7.alloc (Obj.cells #[.int .i64 v.h.kind, .int .i64 v.h.n, .int .i64 v.h.d, .string v.h.name, .int .i64 v.h.k, .slice v.A v.len v.cap] 29)).alloc (Obj.cells #[.int .i64 (db : Nat), .int .i64 (dc : Nat)] 40))); have I := hI (show Below ww7.heap.size ww7 af by rw [b]; exact (below_box _ _).trans ((below_box _ _).mono (by simp))); have df := hI (show Blk af (ww7.heap.size) 29 #[.int .i64 v.h.kind, .int .i64 v.h.n, .int .i64 v.h.d, .string v.h.name, .int .i64 v.h.k, .slice v.A v.len v.cap] by rw [b]; exact Blk.belowW (Blk.new ww7 29 #[.int .i64 v.h.kind, .int .i64 v.h.n, .int .i64 v.h.d, .string v.h.name, .int .i64 v.h.k, .slice v.A v.len v.cap]) (below_box _ _)); rw [← b]; clear b; have bz := bx.out.t I; have dg := de.out.t I
  go_wp2_with fail
  refine (pProb_t a0 af w0 ((bv.out.belowW P.out).belowW I.out) ((bw.out.belowW P.out).belowW I.out)).mono ?_
  rintro e ww9 ⟨a, dh, di, rfl, Q, dj⟩; have b0 := bz.out.t Q; have dk := dg.out.t Q
  go_upto_region 16 with (fail)
  obtain ⟨a3, b⟩ := eX (((ww9.alloc (Obj.cells #[.slice a.A a.n a.c, .slice a.B a.m a.d, .slice a.C a.k a.e, .int .i64 a.t, .int .i64 a.u] 68)).alloc (Obj.cells #[.int .i64 (dh : Nat), .int .i64 (di : Nat)] 40))); have L := hI (show Below ww9.heap.size ww9 a3 by rw [b]; exact (below_box _ _).trans ((below_box _ _).mono (by simp))); have dl := hI (show Blk a3 (ww9.heap.size) 68 #[.slice a.A a.n a.c, .slice a.B a.m a.d, .slice a.C a.k a.e, .int .i64 a.t, .int .i64 a.u] by rw [b]; exact Blk.belowW (Blk.new ww9 68 #[.slice a.A a.n a.c, .slice a.B a.m a.d, .slice a.C a.k a.e, .int .i64 a.t, .int .i64 a.u]) (below_box _ _)); rw [← b]; clear b; have dm := b0.out.t L; have b1 := dk.out.t L
  have b2 := hI (show ∀ t ∈ g.map tiOf, t.text.length ≤ 60 from fun t h => by
   obtain ⟨u, hu, rfl⟩ := List.mem_map.1 h; have h4 := tok_len ((lex_facts H.out).2.2 u hu).1
   unfold tiOf
   show u.text.length ≤ 60
   omega)
  have hN := HN.out
  go_upto_region 16 with (fail)
  go_wp2_with fail
  refine (join_long A g.length ck (g.map tiOf) a3 (by simp) (by rw [tiCells_of]; exact (((((Y.out.belowW O.out).belowW P.out).belowW I.out).belowW Q.out).belowW L.out).hr) (lex_facts H.out).2.1 b2.out).mono ?_
  rintro e ww11 ⟨J, rfl, HJ, M⟩; have b4 := dm.out.t M; have dp : B ≤ ww11.heap.size := Nat.le_trans au b4.out.size; have dq : B < wr.heap.size := (by have h := HL.out.size; have h2 := bp.out; omega)
  go_wp2_with fail
  refine (bstr_t B B l wr ww11 HF.out b4.out dp dq).mono ?_
  rintro e ws ⟨rfl, b5, b6, b7, a4⟩; have JE := hI (show Below i.heap.size i ws by have h := b5.out; rw [ao.out] at h; exact (b1.out.trans (M.out.mono b1.out.size)).trans h); have Jl := al.out.t JE; have Jn := hI (b6.out _ _ _ (Nat.le_refl _) (fun h => ex_nil (by rw [H.out]; rw [ae.out] at h; rw [nt_nil h])) ((((dd.out.belowW I.out).belowW Q.out).belowW L.out).belowW M.out)); have Jz := hI (b7.out _ _ _ (show wr.heap.size ≤ af.heap.size from bz.out.size) (fun h => pb_nil (by rw [H.out]; rw [ae.out] at h; rw [nt_nil h])) ((dj.out.belowW L.out).belowW M.out)); have Jb := hI (a4.out _ _ _ (show wr.heap.size ≤ ww7.heap.size from bx.out.size) (by decide) (((df.out.belowW Q.out).belowW L.out).belowW M.out)); have Ju := hI (a4.out _ _ _ (show wr.heap.size ≤ ww9.heap.size from b0.out.size) (by decide) (dl.out.belowW M.out)); clear b6 b7 a4 b5
  go_upto_region 17 with (fail)
  obtain ⟨a6, b, E, _⟩ := aX ws 9 #[.string J, .string ⟨l.toArray⟩]; have dw := hI (show Blk a6 (ws.heap.size) 9 #[.string J, .string ⟨l.toArray⟩] by rw [b]; exact Blk.new ws 9 #[.string J, .string ⟨l.toArray⟩]); rw [← b]; clear b; have dx := Jl.out.t E; have HU := hI (show ∀ j : Nat, j < 2 → ∃ U : ByteArray, [Value.string J, Value.string ⟨l.toArray⟩][j]? = some (.string U) ∧ U.size ≤ maxLen ∧ exE U.data.toList = exE a0.data.toList ∧ pbE U.data.toList = pbE a0.data.toList ∧ exT U.data.toList = exT a0.data.toList ∧ pbT U.data.toList = pbT a0.data.toList from texts2 H.out h0 HJ.out ae.out N1.out (Nat.le_of_not_lt hbig)); clear H HJ ae N1 aq b2 HF
  go_wp2_with fail
  go_loopg [83] 2 (fun k iv wr => ∃ j : Nat, iv = .int .i64 j ∧ j ≤ 2 ∧ k = 2 - j ∧ Hid (Below a6.heap.size a6 wr))
  case atStart => exact ⟨0, rfl, by omega, by omega, Below.refl _ _⟩
  obtain ⟨j, rfl, fk, rfl, p⟩ := hrel
  by_cases hlt : j < 2
  case neg =>
   have az : j = 2 := (by omega); subst az
   go_wp2_with fail
   go_ret
   exact ⟨rfl, (dx.out.t p)⟩
  obtain ⟨U, hU, ca, e1, e2, e3, e4⟩ := HU.out j hlt; have E3 := hI e3; have E4 := hI e4; have c0 : wr.cell? ⟨ws.heap.size, j, none⟩ = some (.string U) := (by have h := ((dw.out.belowW p.out).cell j); rw [h]; simpa using hU); clear e3 e4 hU; have cd := hI (((bj.out.belowW JE.out).belowW E.out).belowW p.out); have ce := hI (((bk.out.belowW JE.out).belowW E.out).belowW p.out)
  go_upto_region 19 with (fail)
  clear c0
  go_wp2_with fail
  refine (pExpr_t U wr ca cd.out ce.out).mono ?_
  rintro e ww14 ⟨y, d6, d7, rfl, F, HY⟩; have d9 := p.out.t F
  go_upto_region 20 with (fail)
  obtain ⟨a7, b⟩ := eX (((ww14.alloc (Obj.cells #[.int .i64 y.h.kind, .int .i64 y.h.n, .int .i64 y.h.d, .string y.h.name, .int .i64 y.h.k, .slice y.A y.len y.cap] 29)).alloc (Obj.cells #[.int .i64 (d6 : Nat), .int .i64 (d7 : Nat)] 40))); have r := hI (show Below ww14.heap.size ww14 a7 by rw [b]; exact (below_box _ _).trans ((below_box _ _).mono (by simp))); have ea := hI (show Blk a7 (ww14.heap.size) 29 #[.int .i64 y.h.kind, .int .i64 y.h.n, .int .i64 y.h.d, .string y.h.name, .int .i64 y.h.k, .slice y.A y.len y.cap] by rw [b]; exact Blk.belowW (Blk.new ww14 29 #[.int .i64 y.h.kind, .int .i64 y.h.n, .int .i64 y.h.d, .string y.h.name, .int .i64 y.h.k, .slice y.A y.len y.cap]) (below_box _ _)); rw [← b]; clear b; have eb := d9.out.t r
  go_wp2_with fail
  refine (pProb_t U a7 ca ((cd.out.belowW F.out).belowW r.out) ((ce.out.belowW F.out).belowW r.out)).mono ?_
  rintro e ww16 ⟨q, ec, ed, rfl, G, HV⟩; have ef := eb.out.t G
  go_upto_region 21 with (fail)
  obtain ⟨ag, b⟩ := eX (((ww16.alloc (Obj.cells #[.slice q.A q.n q.c, .slice q.B q.m q.d, .slice q.C q.k q.e, .int .i64 q.t, .int .i64 q.u] 68)).alloc (Obj.cells #[.int .i64 (ec : Nat), .int .i64 (ed : Nat)] 40))); have s := hI (show Below ww16.heap.size ww16 ag by rw [b]; exact (below_box _ _).trans ((below_box _ _).mono (by simp))); have eg := hI (show Blk ag (ww16.heap.size) 68 #[.slice q.A q.n q.c, .slice q.B q.m q.d, .slice q.C q.k q.e, .int .i64 q.t, .int .i64 q.u] by rw [b]; exact Blk.belowW (Blk.new ww16 68 #[.slice q.A q.n q.c, .slice q.B q.m q.d, .slice q.C q.k q.e, .int .i64 q.t, .int .i64 q.u]) (below_box _ _)); rw [← b]; clear b; have eh := ef.out.t s; obtain ⟨ei, _, ej, _, ek, _, el, _, em, _, en, _⟩ := ((((((Jb.out.belowW E.out).belowW p.out).belowW F.out).belowW r.out).belowW G.out).belowW s.out).all6; obtain ⟨eo, _, ep, _, eq, _, es, _, et, _, eu, _⟩ := ((ea.out.belowW G.out).belowW s.out).all6
  go_wp2_with fail
  refine (show Calls Tryz.prog 17 #[.agg #[.int .i64 v.h.kind, .int .i64 v.h.n, .int .i64 v.h.d, .string v.h.name, .int .i64 v.h.k, .slice v.A v.len v.cap], .agg #[.int .i64 y.h.kind, .int .i64 y.h.n, .int .i64 y.h.d, .string y.h.name, .int .i64 y.h.k, .slice y.A y.len y.cap]] ag _ from same_any _ (exT a0.data.toList) (Nat.le_refl _) (exT U.data.toList) v y ag ((((((Jn.out.belowW E.out).belowW p.out).belowW F.out).belowW r.out).belowW G.out).belowW s.out).toE (((HY.out.belowW r.out).belowW G.out).belowW s.out).toE).mono ?_
  rintro e ww18 ⟨rs, rfl, ew, R⟩; have cf := hI (((((((Jz.out.belowW E.out).belowW p.out).belowW F.out).belowW r.out).belowW G.out).belowW s.out).belowW R.out); have ex := eh.out.t R; have cg := hI ((HV.out.belowW s.out).belowW R.out); clear ei ej ek el em en eo ep eq es et eu; obtain rfl : rs = true := ew.out.2 E3.out.symm; obtain ⟨ey, _, ez, _, e5, _, e6, _, e7, _⟩ := (((((((Ju.out.belowW E.out).belowW p.out).belowW F.out).belowW r.out).belowW G.out).belowW s.out).belowW R.out).all5; obtain ⟨e8, _, e9, _, fa, _, fb, _, fc, _⟩ := (eg.out.belowW R.out).all5
  go_wp2_with fail
  refine (show Calls Tryz.prog 39 #[.agg #[.slice a.A a.n a.c, .slice a.B a.m a.d, .slice a.C a.k a.e, .int .i64 a.t, .int .i64 a.u], .agg #[.slice q.A q.n q.c, .slice q.B q.m q.d, .slice q.C q.k q.e, .int .i64 q.t, .int .i64 q.u]] ww18 _ from probs_any a q ww18 cf.out.z.toP cg.out.z.toP).mono ?_
  rintro e ww19 ⟨rq, rfl, fe, a8⟩; clear ey ez e5 e6 e7 e8 e9 fa fb fc; obtain rfl : rq = true := fe.out.2 ((cf.out.belowW a8.out).pl.trans (E4.out.symm.trans (cg.out.belowW a8.out).pl.symm))
  go_wp2_with fail
  go_roundg (2 - (j + 1))
  case measure => omega
  case rel => exact ⟨j + 1, by go_num, by omega, rfl, (ex.out.t a8)⟩
end Go.Proofs.YtkjoohnndobjeaaGreatDoor
