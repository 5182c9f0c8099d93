/-
  The walk of FormatReads.
-/
import Derived.Test.YtkjoohnndobjeaaGreatDoorPbH
import Derived.Test.YtkjoohnndobjeaaGreatDoorPbI
import Derived.Test.YtkjoohnndobjeaaGreatDoorQT
import Derived.Test.YtkjoohnndobjeaaGreatDoorQb
import Derived.Test.YtkjoohnndobjeaaGreatDoorQa
import Derived.Test.YtkjoohnndobjeaaGreatDoorQN
import Derived.Test.YtkjoohnndobjeaaGreatDoorQZ
set_option linter.unusedVariables false
set_option maxHeartbeats 4000000
set_option maxRecDepth 100000
namespace Go.Proofs.YtkjoohnndobjeaaGreatDoor
open Go.RowKit Go.Fl Go.Fl.Lx Go.Fl.Nm Go.Fl.Fm Go.Fl.Rt Go.Fl.Pa
open List (setIfInBounds_toArray set_cons_zero set_cons_succ getElem_toArray getElem_cons_zero getElem_cons_succ)
/-! What is read from the texts. -/
theorem run_ok {α : Type} {l : List UInt8} {ts : List Tok} {rd : List Tok → PR α} {v : α → Bool} {T : α} (h3 : lexRes l = .ok ts) (h4 : rd ts = .ok T ts.length) (h : v T = true) : runR l rd v = ((0, 0, 0), some T) := by
 unfold runR
 rw [h3]
 show runS ts v (rd ts) = _
 rw [h4]
 show (if ts.length < ts.length then (((tk ts ts.length).line, (tk ts ts.length).col, 3), none) else if v T then ((0, 0, 0), some T) else ((0, 0, 5), some T)) = _
 rw [if_neg (Nat.lt_irrefl _), if_pos h]
theorem range_txt {a b c d : Int} (h : (vB a b && vB c d) = true) : rangeR (rangeT a b c d) = ((0, 0, 0), some ⟨(a, b), (c, d)⟩) := by
 obtain ⟨ts, h1, h2⟩ := range_text h
 exact run_ok h1 h2 rfl
theorem prob_txt {p : PbP} (h : p.ok = true) (hl : p.txt.length ≤ 65536) : probR p.txt = ((0, 0, 0), some p) := by
 obtain ⟨ts, h1, h2⟩ := prob_text h hl
 exact run_ok h1 h2 h
theorem flat_map {Z Y B : Type} (f : Z → Y) (g : Z → List B) (k : Y → List B) (l : List Z) (h : ∀ z, g z = k (f z)) : l.flatMap g = (l.map f).flatMap k := by
 induction l with
 | nil => rfl
 | cons z l ih => rw [List.flatMap_cons, List.map_cons, List.flatMap_cons, h z, ih]
theorem resT_pl (l : List EqN) : resT l = rlT (l.map EqN.pl) := by
 cases l with
 | nil => rfl
 | cons x l =>
  show [32, 119, 105, 116, 104, 32] ++ x.rt ++ l.flatMap (fun y => [44, 32] ++ y.rt) = [32, 119, 105, 116, 104, 32] ++ x.pl.rt ++ (l.map EqN.pl).flatMap (fun y => [44, 32] ++ y.rt)
  rw [flat_map EqN.pl (fun y => [44, 32] ++ y.rt) (fun y => [44, 32] ++ y.rt) l (fun z => rfl)]
  rfl
theorem EdN.txt_pl (x : EdN) : x.txt = x.pl.txt := by
 unfold EdN.txt EdP.txt
 rw [resT_pl]
 rfl
theorem MdN.txt_pl (x : MdN) : x.txt = x.pl.txt := by
 unfold MdN.txt MdP.txt
 rw [flat_map EqN.pl EqN.ft EqP.ft x.fl (fun z => rfl), flat_map EdN.pl EdN.txt EdP.txt x.ed EdN.txt_pl]
 rfl
theorem PbN.txt_pl (x : PbN) : x.txt = x.pl.txt := by
 unfold PbN.txt PbP.txt
 rw [flat_map DcN.pl stT (dcW kState) x.st (fun z => rfl), flat_map DcN.pl paT (dcW kParam) x.pa (fun z => rfl), flat_map MdN.pl MdN.txt MdP.txt x.ms MdN.txt_pl]
 rfl
theorem PbN.ans_eq {w w' : World} {x y : PbN} (hx : InP w x) (hy : InP w' y) (h : y.pl = x.pl) : y.ans = x.ans := by
 unfold PbN.ans
 rw [PbN.ok_pl hx, PbN.ok_pl hy, PbN.txt_pl, PbN.txt_pl, h]
theorem PbN.ans_yes {x : PbN} (h : x.ans.2 = 0) : x.ok = true ∧ x.txt.length ≤ 65536 ∧ x.ans = (x.txt, 0) := by
 unfold PbN.ans at h ⊢
 by_cases h1 : x.ok = true
 ·
  rw [if_pos h1] at h ⊢
  by_cases h2 : 65536 < x.txt.length
  ·
   rw [if_pos h2] at h; cases h
  rw [if_neg h2]; exact ⟨h1, by omega, rfl⟩
 rw [if_neg h1] at h; cases h
theorem run_neq_rng (w : World) (a b c d a' b' c' d' : Int) :
 (binOp .neq 62 (.agg #[.int .i64 a, .int .i64 b, .int .i64 c, .int .i64 d]) (.agg #[.int .i64 a', .int .i64 b', .int .i64 c', .int .i64 d'])).run Tryz.prog w = .ok (.bool (!((a == a') && ((b == b') && ((c == c') && (d == d')))))) w := by
 simp [go_sem]
 by_cases h4 : a = a' <;> by_cases h5 : b = b' <;> by_cases h6 : c = c' <;> by_cases h7 : d = d' <;> simp_all

theorem formatReads_any (x0 : PbN) (a b c d : Int) (w : World) (hin : InP w x0) (hr : R4 a b c d) (hR : RX w) (hX : FX w) : Calls Tryz.prog 10 #[x0.val, .agg #[.int .i64 a, .int .i64 b, .int .i64 c, .int .i64 d]] w (RetB (.bool true) w) := by
 have b2 := hI hin
 have HR := hI hR
 have HX := hI hX
 have a9 := hI hr
 clear hin hR hX hr
 have b5 := hI (Below.refl w.heap.size w)
 go_enter Tryz.func10, Tryz.ntmps10
 go_upto_region 1 with (fail)
 obtain ⟨ae, g⟩ := eX (((w.alloc (Obj.cells #[.slice x0.A x0.n x0.c, .slice x0.B x0.m x0.d, .slice x0.C x0.k x0.e, .int .i64 x0.t, .int .i64 x0.u] 68)).alloc (Obj.cells #[.int .i64 a, .int .i64 b, .int .i64 c, .int .i64 d] 62)))
 have af := hI (show Below w.heap.size w ae by rw [g]; exact (below_box _ _).trans ((below_box _ _).mono (by simp)))
 have b6 := hI (show Blk ae (w.heap.size) 68 #[.slice x0.A x0.n x0.c, .slice x0.B x0.m x0.d, .slice x0.C x0.k x0.e, .int .i64 x0.t, .int .i64 x0.u] by rw [g]; exact Blk.belowW (Blk.new w 68 #[.slice x0.A x0.n x0.c, .slice x0.B x0.m x0.d, .slice x0.C x0.k x0.e, .int .i64 x0.t, .int .i64 x0.u]) (below_box _ _))
 have b7 := hI (show Blk ae (w.heap.size + 1) 62 #[.int .i64 a, .int .i64 b, .int .i64 c, .int .i64 d] by rw [g]; exact (by have := Blk.new (w.alloc (Obj.cells #[.slice x0.A x0.n x0.c, .slice x0.B x0.m x0.d, .slice x0.C x0.k x0.e, .int .i64 x0.t, .int .i64 x0.u] 68)) 62 #[.int .i64 a, .int .i64 b, .int .i64 c, .int .i64 d]; simpa using this))
 rw [← g]
 clear g
 have b8 := b5.out.t af
 have ba := HR.out.b9 af
 go_wp2_with fail
 refine (fAwake_any ae ba.out.1).mono ?_
 rintro e ww2 ⟨rfl, L⟩
 have ca := b8.out.t L
 have bb := hI ((b2.out.belowW af.out).belowW L.out)
 have bc := b6.out.b9 L
 obtain ⟨j, _, l, _, o, _, p, _, q, _⟩ := bc.out.all5
 go_wp2_with fail
 refine (great_any x0 ww2 bb.out).mono ?_
 rintro e ww3 ⟨gb, rfl, M⟩
 have aq := ca.out.t M
 have bd := bb.out.b9 M
 have ar := hI ((ba.out.belowW L.out).belowW M.out)
 have be := hI (((HX.out.belowW af.out).belowW L.out).belowW M.out)
 have bf := bc.out.b9 M
 have bg := hI ((b7.out.belowW L.out).belowW M.out)
 clear j l o p q
 cases gb with
 | true =>
  go_wp2_with fail
  go_ret
  exact ⟨rfl, aq⟩
 | false =>
  obtain ⟨ag, _, ah, _, ai, _, aj, _⟩ := bg.out.all4; have cv := run_neq_rng
  cases hv : (vB a b && vB c d) with
  | false =>
   go_wp2_with fail
   refine (range_no a b c d ww3 a9.out hv).mono ?_
   rintro e ww4 ⟨S0, rfl, al, Q⟩; have cc := aq.out.t Q; have bh := bd.out.b9 Q; have bi := ar.out.b9 Q; have bj := bf.out.b9 Q; clear ag ah ai aj
   go_upto_region 10 with (fail)
   obtain ⟨j, _, l, _, o, _, p, _, q, _⟩ := bj.out.all5
   go_wp2_with fail
   refine (fproblem_p x0 ww4 bh.out bi.out.1).mono ?_
   rintro e ww5 ⟨S, rfl, r, R⟩; have bk := cc.out.t R; have bl := bh.out.b9 R; have bm := bi.out.b9 R; clear j l o p q
   by_cases hz : x0.ans.2 = 0
   case neg =>
    have d1 : (x0.ans.2 != 0) = true := (by rw [bne_iff_ne]; exact hz); clear hz
    go_wp2_with fail
    go_ret
    exact ⟨rfl, bk⟩
   obtain ⟨s, x, T⟩ := PbN.ans_yes hz; have U := hI s; have V := hI T; rw [V.out] at r ⊢; have au : S.size ≤ maxLen := Nat.le_trans (show S.data.toList.length ≤ 65536 by rw [r.out]; exact x) (by decide)
   have W := hI (show probR S.data.toList = ((0, 0, 0), some x0.pl) by
    have h := r.out; rw [show ((x0.txt, (0 : Int)).1 : List UInt8) = x0.txt from rfl, PbN.txt_pl] at h; rw [h]
    exact prob_txt (by rw [← PbN.ok_pl bl.out]; exact s) (by rw [← PbN.txt_pl]; exact x))
   clear hz s x T
   go_wp2_with fail
   refine (pProblemX S ww5 au bm.out ((be.out.belowW Q.out).belowW R.out)).mono ?_
   rintro e ww6 ⟨v, rfl, am, i⟩; have ce := bk.out.t am; rw [W.out] at i; rw [W.out]; obtain ⟨T2, y, D⟩ := i.2 rfl; injection y with y; subst y; have E := hI D.pl; have HZ := hI D.z.toP; clear i D
   go_upto_region 14 with (fail)
   obtain ⟨an, g⟩ := eX (((ww6.alloc (Obj.cells #[.slice v.A v.n v.c, .slice v.B v.m v.d, .slice v.C v.k v.e, .int .i64 v.t, .int .i64 v.u] 68)).alloc (Obj.cells #[.int .i64 0, .int .i64 0] 40))); have X := hI (show Below ww6.heap.size ww6 an by rw [g]; exact (below_box _ _).trans ((below_box _ _).mono (by simp))); have bn := hI (show Blk an (ww6.heap.size) 68 #[.slice v.A v.n v.c, .slice v.B v.m v.d, .slice v.C v.k v.e, .int .i64 v.t, .int .i64 v.u] by rw [g]; exact Blk.belowW (Blk.new ww6 68 #[.slice v.A v.n v.c, .slice v.B v.m v.d, .slice v.C v.k v.e, .int .i64 v.t, .int .i64 v.u]) (below_box _ _)); rw [← g]; clear g; have cg := ce.out.t X; have bo := HZ.out.b9 X; obtain ⟨F, _, G, _, H, _, I, _, J, _⟩ := bn.out.all5
   go_wp2_with fail
   refine (show Calls Tryz.prog 42 #[.agg #[.slice v.A v.n v.c, .slice v.B v.m v.d, .slice v.C v.k v.e, .int .i64 v.t, .int .i64 v.u]] an _ from fproblem_p v an bo.out ((bm.out.belowW am.out).belowW X.out).1).mono ?_
   rintro e ww8 ⟨S2, rfl, Y, Z⟩; have ch := cg.out.t Z; have ax := hI (((bl.out.belowW am.out).belowW X.out).belowW Z.out); have ay := bo.out.b9 Z; clear F G H I J; have aa := PbN.ans_eq ax.out ay.out E.out; rw [aa, V.out] at Y ⊢; clear aa; have az : S2 = S := bytes_ext (Y.out.trans r.out.symm); subst az; obtain ⟨F, _, G, _, H, _, I, _, J, _⟩ := (bn.out.belowW Z.out).all5; obtain ⟨j, _, l, _, o, _, p, _, q, _⟩ := ((((bj.out.belowW R.out).belowW am.out).belowW X.out).belowW Z.out).all5
   go_wp2_with fail
   refine (show Calls Tryz.prog 43 #[.agg #[.slice x0.A x0.n x0.c, .slice x0.B x0.m x0.d, .slice x0.C x0.k x0.e, .int .i64 x0.t, .int .i64 x0.u], .agg #[.slice v.A v.n v.c, .slice v.B v.m v.d, .slice v.C v.k v.e, .int .i64 v.t, .int .i64 v.u]] ww8 _ from tsame_any x0 v ww8 ax.out ay.out).mono ?_
   rintro e ww9 ⟨rs, rfl, a1, a2⟩; clear F G H I J j l o p q; have a3 : rs = true := a1.out.2 ⟨U.out, (PbN.ok_pl (ay.out.belowW a2.out)).trans ((congrArg PbP.ok E.out).trans ((PbN.ok_pl (ax.out.belowW a2.out)).symm.trans U.out)), E.out.symm⟩; subst a3
   go_wp2_with fail
   go_ret
   exact ⟨ret_bool (by simp), (ch.out.t a2)⟩
  | true =>
   go_wp2_with fail
   refine (range_yes a b c d ww3 a9.out ar.out.1 hv).mono ?_
   rintro e ww10 ⟨S0, rfl, al, N⟩; have ci := aq.out.t N; have bp := ar.out.b9 N; have bq := be.out.b9 N; clear ag ah ai aj; have br := hI (range_txt hv); have cj : S0.size ≤ maxLen := Nat.le_trans (show S0.data.toList.length ≤ 90 by rw [al.out]; exact range_len hv) (by decide); clear hv
   go_wp2_with fail
   refine (pRangeX S0 ww10 cj bp.out bq.out).mono ?_
   rintro e ww11 ⟨v, rfl, O, i⟩; have ck := ci.out.t O; rw [al.out, br.out] at i; rw [al.out, br.out]; obtain ⟨T1, a4, bs⟩ := i.2 rfl; injection a4 with a4; subst a4; have cl := bs.pl; subst cl; clear i bs
   go_upto_region 8 with (fail)
   obtain ⟨a5, g⟩ := eX (((ww11.alloc (Obj.cells #[.int .i64 a, .int .i64 b, .int .i64 c, .int .i64 d] 62)).alloc (Obj.cells #[.int .i64 0, .int .i64 0] 40))); have P := hI (show Below ww11.heap.size ww11 a5 by rw [g]; exact (below_box _ _).trans ((below_box _ _).mono (by simp))); have cm := hI (show Blk a5 (ww11.heap.size) 62 #[.int .i64 a, .int .i64 b, .int .i64 c, .int .i64 d] by rw [g]; exact Blk.belowW (Blk.new ww11 62 #[.int .i64 a, .int .i64 b, .int .i64 c, .int .i64 d]) (below_box _ _)); rw [← g]; clear g; have cn := ck.out.t P; have bt := hI (((bd.out.belowW N.out).belowW O.out).belowW P.out); have bu := hI ((bp.out.belowW O.out).belowW P.out); have bv := hI (((bf.out.belowW N.out).belowW O.out).belowW P.out); obtain ⟨co, _, cp, _, cq, _, cr, _⟩ := cm.out.all4; obtain ⟨ag, _, ah, _, ai, _, aj, _⟩ := (((bg.out.belowW N.out).belowW O.out).belowW P.out).all4
   go_upto_region 10 with (fail)
   clear co cp cq cr ag ah ai aj; obtain ⟨j, _, l, _, o, _, p, _, q, _⟩ := bv.out.all5
   go_wp2_with fail
   refine (fproblem_p x0 a5 bt.out bu.out.1).mono ?_
   rintro e ww13 ⟨S, rfl, r, ab⟩; have bw := cn.out.t ab; have bx := bt.out.b9 ab; have bz := bu.out.b9 ab; clear j l o p q
   by_cases hz : x0.ans.2 = 0
   case neg =>
    have d1 : (x0.ans.2 != 0) = true := (by rw [bne_iff_ne]; exact hz); clear hz
    go_wp2_with fail
    go_ret
    exact ⟨rfl, bw⟩
   obtain ⟨s, x, T⟩ := PbN.ans_yes hz; have U := hI s; have V := hI T; rw [V.out] at r ⊢; have au : S.size ≤ maxLen := Nat.le_trans (show S.data.toList.length ≤ 65536 by rw [r.out]; exact x) (by decide)
   have W := hI (show probR S.data.toList = ((0, 0, 0), some x0.pl) by
    have h := r.out; rw [show ((x0.txt, (0 : Int)).1 : List UInt8) = x0.txt from rfl, PbN.txt_pl] at h; rw [h]
    exact prob_txt (by rw [← PbN.ok_pl bx.out]; exact s) (by rw [← PbN.txt_pl]; exact x))
   clear hz s x T
   go_wp2_with fail
   refine (pProblemX S ww13 au bz.out (((bq.out.belowW O.out).belowW P.out).belowW ab.out)).mono ?_
   rintro e ww14 ⟨v, rfl, ao, i⟩; have cs := bw.out.t ao; rw [W.out] at i; rw [W.out]; obtain ⟨T2, y, D⟩ := i.2 rfl; injection y with y; subst y; have E := hI D.pl; have HZ := hI D.z.toP; clear i D
   go_upto_region 14 with (fail)
   obtain ⟨ap, g⟩ := eX (((ww14.alloc (Obj.cells #[.slice v.A v.n v.c, .slice v.B v.m v.d, .slice v.C v.k v.e, .int .i64 v.t, .int .i64 v.u] 68)).alloc (Obj.cells #[.int .i64 0, .int .i64 0] 40))); have ac := hI (show Below ww14.heap.size ww14 ap by rw [g]; exact (below_box _ _).trans ((below_box _ _).mono (by simp))); have b0 := hI (show Blk ap (ww14.heap.size) 68 #[.slice v.A v.n v.c, .slice v.B v.m v.d, .slice v.C v.k v.e, .int .i64 v.t, .int .i64 v.u] by rw [g]; exact Blk.belowW (Blk.new ww14 68 #[.slice v.A v.n v.c, .slice v.B v.m v.d, .slice v.C v.k v.e, .int .i64 v.t, .int .i64 v.u]) (below_box _ _)); rw [← g]; clear g; have ct := cs.out.t ac; have b1 := HZ.out.b9 ac; obtain ⟨F, _, G, _, H, _, I, _, J, _⟩ := b0.out.all5
   go_wp2_with fail
   refine (show Calls Tryz.prog 42 #[.agg #[.slice v.A v.n v.c, .slice v.B v.m v.d, .slice v.C v.k v.e, .int .i64 v.t, .int .i64 v.u]] ap _ from fproblem_p v ap b1.out ((bz.out.belowW ao.out).belowW ac.out).1).mono ?_
   rintro e ww16 ⟨S2, rfl, Y, ad⟩; have cu := ct.out.t ad; have a6 := hI (((bx.out.belowW ao.out).belowW ac.out).belowW ad.out); have a7 := b1.out.b9 ad; clear F G H I J; have aa := PbN.ans_eq a6.out a7.out E.out; rw [aa, V.out] at Y ⊢; clear aa; have az : S2 = S := bytes_ext (Y.out.trans r.out.symm); subst az; obtain ⟨F, _, G, _, H, _, I, _, J, _⟩ := (b0.out.belowW ad.out).all5; obtain ⟨j, _, l, _, o, _, p, _, q, _⟩ := ((((bv.out.belowW ab.out).belowW ao.out).belowW ac.out).belowW ad.out).all5
   go_wp2_with fail
   refine (show Calls Tryz.prog 43 #[.agg #[.slice x0.A x0.n x0.c, .slice x0.B x0.m x0.d, .slice x0.C x0.k x0.e, .int .i64 x0.t, .int .i64 x0.u], .agg #[.slice v.A v.n v.c, .slice v.B v.m v.d, .slice v.C v.k v.e, .int .i64 v.t, .int .i64 v.u]] ww16 _ from tsame_any x0 v ww16 a6.out a7.out).mono ?_
   rintro e ww17 ⟨rs, rfl, a1, a8⟩; clear F G H I J j l o p q; have a3 : rs = true := a1.out.2 ⟨U.out, (PbN.ok_pl (a7.out.belowW a8.out)).trans ((congrArg PbP.ok E.out).trans ((PbN.ok_pl (a6.out.belowW a8.out)).symm.trans U.out)), E.out.symm⟩; subst a3
   go_wp2_with fail
   go_ret
   exact ⟨ret_bool (by simp), (cu.out.t a8)⟩
end Go.Proofs.YtkjoohnndobjeaaGreatDoor
