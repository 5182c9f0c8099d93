/-
  The walk of the parser's problems.
-/
import Derived.Test.YtkjoohnndobjeaaGreatDoorPbE
set_option linter.unusedVariables false
set_option maxHeartbeats 4000000
set_option maxRecDepth 100000
namespace Go.Proofs.YtkjoohnndobjeaaGreatDoor
open Go.RowKit Go.Fl Go.Fl.Lx Go.Fl.Nm Go.Fl.Fm Go.Fl.Rt Go.Fl.Pa
open List (setIfInBounds_toArray set_cons_zero set_cons_succ getElem_toArray getElem_cons_zero getElem_cons_succ)
def AllR {α : Type} (P : α → Prop) (r : PR α) : Prop := ∀ a k, r = .ok a k → P a
theorem allR_bind {α β : Type} {Q : α → Prop} {P : β → Prop} {r : PR α} {f : α → Nat → PR β} (h1 : AllR Q r) (h2 : ∀ a k, Q a → AllR P (f a k)) : AllR P (r.bind f) := fun b k h => by
 cases r with
 | ok a k1 => exact h2 a k1 (h1 a k1 rfl) b k h
 | bad l c e => cases h
 | out => cases h
theorem allR_ok {α : Type} {P : α → Prop} {a : α} {k : Nat} (h : P a) : AllR P (.ok a k) := fun b k1 e => by
 injection e with e _
 rw [← e]
 exact h
theorem allR_any {α : Type} (r : PR α) : AllR (fun _ => True) r := fun _ _ _ => trivial
def Sm (a : Int × Int) : Prop := -4611686018427387904 ≤ a.1 ∧ a.1 ≤ 4611686018427387904 ∧ -4611686018427387904 ≤ a.2 ∧ a.2 ≤ 4611686018427387904
theorem val_sm (ts : List Tok) (k : Nat) : AllR Sm (valP ts k) := fun a k1 h => by
 unfold valP at h
 split at h
 ·
  exact quotP_small h
 exact numP_small2 h
theorem span_sm (ts : List Tok) (k : Nat) : AllR (fun r => Sm r.lo ∧ Sm r.hi) (spanP ts k) := by
 unfold spanP
 split
 ·
  exact allR_bind (val_sm _ _) (fun lo k1 h1 => allR_bind (allR_any _) (fun _ k2 _ => allR_bind (val_sm _ _) (fun hi k3 h3 => allR_bind (allR_any _) (fun _ k4 _ => allR_ok ⟨h1, h3⟩))))
 exact allR_bind (val_sm _ _) (fun v k1 h1 => allR_ok ⟨h1, h1⟩)
theorem decl_sm (ts : List Tok) (k : Nat) : AllR (fun d => d.s.length ≤ 20 ∧ Sm d.r.lo ∧ Sm d.r.hi) (declP nameP ts k) := by
 unfold declP
 exact allR_bind (Q := fun n => n.length ≤ 20) (fun n k1 h => nmR_len h) (fun n k1 h1 => allR_bind (allR_any _) (fun _ k2 _ => allR_bind (span_sm _ _) (fun r k3 h3 => allR_bind (allR_any _) (fun _ k4 _ => allR_ok ⟨h1, h3⟩))))
def dcN (d : DcP) : DcN := ⟨⟨d.s.toArray⟩, d.r.lo.1, d.r.lo.2, d.r.hi.1, d.r.hi.2⟩
theorem decl_in {ts : List Tok} {k k1 : Nat} {d : DcP} (h : declP nameP ts k = .ok d k1) (w : World) : InD w (dcN d) := by
 obtain ⟨h1, ⟨a1, a2, a3, a4⟩, b1, b2, b3, b4⟩ := decl_sm ts k d k1 h
 refine ⟨?_, ?_⟩
 ·
  show R4 d.r.lo.1 d.r.lo.2 d.r.hi.1 d.r.hi.2
  constructor <;> omega
 show d.s.toArray.size ≤ maxLen
 rw [List.size_toArray]
 unfold maxLen
 omega
theorem pst34 {w : World} {g : Nat} {t : TypeId} {a b c d e : Value} (hB : Blk w g t #[a, b, c, d, e]) (d' e' : Value) :
 (w.setCell ⟨g, 3, none⟩ d').setCell ⟨g, 4, none⟩ e' = putB w g t #[a, b, c, d', e'] := by
 rw [show w.setCell ⟨g, 3, none⟩ d' = putB w g t #[a, b, c, d', e] from hB.setCell_eq 3 d']
 have h4 := hB.put #[a, b, c, d', e]
 rw [show (putB w g t #[a, b, c, d', e]).setCell ⟨g, 4, none⟩ e' = putB (putB w g t #[a, b, c, d', e]) g t #[a, b, c, d', e'] from h4.setCell_eq 4 e', putB_putB]
theorem pst_5_0 {w : World} {g : Nat} {t : TypeId} {a b c d e : Value} (hB : Blk w g t #[a, b, c, d, e]) (x : Value) : w.setCell ⟨g, 0, none⟩ x = putB w g t #[x, b, c, d, e] := hB.setCell_eq 0 x
theorem pst_5_1 {w : World} {g : Nat} {t : TypeId} {a b c d e : Value} (hB : Blk w g t #[a, b, c, d, e]) (x : Value) : w.setCell ⟨g, 1, none⟩ x = putB w g t #[a, x, c, d, e] := hB.setCell_eq 1 x
theorem pst_5_2 {w : World} {g : Nat} {t : TypeId} {a b c d e : Value} (hB : Blk w g t #[a, b, c, d, e]) (x : Value) : w.setCell ⟨g, 2, none⟩ x = putB w g t #[a, b, x, d, e] := hB.setCell_eq 2 x
theorem Tryz.infoDecl : (Tryz.prog.info? 76).map (fun i => (i.zero, i.size, i.bytes)) = some (some (.agg #[.string ⟨#[]⟩, .int .i64 0, .int .i64 0, .int .i64 0, .int .i64 0]), 5, 48) := by kernel_rfl
theorem Tryz.infoMode : (Tryz.prog.info? 74).map (fun i => (i.zero, i.size, i.bytes)) = some (some (.agg #[.string ⟨#[]⟩, .slice none 0 0, .slice none 0 0]), 3, 64) := by kernel_rfl
def PbN.pl (x : PbN) : PbP := ⟨x.st.map DcN.pl, x.pa.map DcN.pl, x.ms.map MdN.pl, (x.t, x.u)⟩
structure PzP (P : Nat → Prop) (w : World) (x : PbN) : Prop where
  hs : LiL 5 DcN.cells PzD P w x.A x.n x.c x.st
  hp : LiL 5 DcN.cells PzD P w x.B x.m x.d x.pa
  hm : LiL 3 MdN.cells PzM P w x.C x.k x.e x.ms
  t1 : -9223372036854775808 ≤ x.t
  t2 : x.t ≤ 9223372036854775807
  u1 : -9223372036854775808 ≤ x.u
  u2 : x.u ≤ 9223372036854775807
theorem pzP : PzOk PzP := ⟨fun h hr hg => ⟨h.hs.mv pzD hr hg, h.hp.mv pzD hr hg, h.hm.mv pzM hr hg, h.t1, h.t2, h.u1, h.u2⟩, fun h hC => ⟨h.hs.weaken pzD hC, h.hp.weaken pzD hC, h.hm.weaken pzM hC, h.t1, h.t2, h.u1, h.u2⟩, fun h => ⟨h.hs.lt pzD, h.hp.lt pzD, h.hm.lt pzM, h.t1, h.t2, h.u1, h.u2⟩⟩
theorem PzP.toP {P : Nat → Prop} {w : World} {x : PbN} (h : PzP P w x) : InP w x := ⟨inl_mono h.hs.il (fun z _ hz => hz), inl_mono h.hp.il (fun z _ hz => hz), inl_mono h.hm.il (fun z _ hz => PzM.toM hz), h.t1, h.t2, h.u1, h.u2⟩
def PbV (d : PbP) (w : World) (e : Ending) (w' : World) : Prop := ∃ x : PbN, e = .returned x.val ∧ x.pl = d ∧ Hid (PzP (fun b => w.heap.size ≤ b) w' x)

theorem pProblem {w0 w : World} {g : Nat} {A : Option Addr} {len cap : Nat} {ts : List Tok} {k : Nat} (h : Env w0 g A len cap ts k 0 w) (hkl : k ≤ ts.length) (hR : RX w0) (hX : FX w0) (hD : DigTs ts) : Calls Tryz.prog 69 #[.pointer (some ⟨g, 0, none⟩)] w (PRP PbV w0 g A len cap ts 0 (probP nameP ts k) w) := by
 obtain ⟨RR, ev⟩ := eX (probP nameP ts k)
 have im := hI ev
 rw [← ev]
 clear ev
 have jr : ts.length ≤ 100000 := by have := h.t.hl; have := h.t.hs; omega
 go_enter Tryz.func69, Tryz.ntmps69
 go_upto_region 1 with (fail)
 obtain ⟨w1, f4, O1, F1⟩ := aX w 68 #[.slice none 0 0, .slice none 0 0, .slice none 0 0, .int .i64 0, .int .i64 0]
 rw [← f4]
 clear f4
 have a4 := hI (show some w.heap.size ≠ some g from fun e => by have := h.gl; injection e with e; omega)
 have io : w.heap.size ≠ g := fun e => a4.out (by rw [e])
 have bb : w0.heap.size ≤ w.heap.size := h.b.size
 have ew := hI (h.belowW O1.out)
 clear h
 go_upto_block 0 with (fail)
 obtain ⟨js, i, ex, f7⟩ := aX w1 68 #[.slice none 0 0, .slice none 0 0, .slice none 0 0, .int .i64 0, .int .i64 0]
 rw [← i]
 clear i
 obtain ⟨j, ee⟩ := eX (w1.heap.size)
 have X := hI (show some j ≠ some g from fun e => by have := ew.out.gl; injection e with e; omega)
 have ab : w.heap.size < j := by rw [ee]; exact F1.out.lt
 rw [← ee] at f7 ⊢
 have jt : g < j := by rw [ee]; exact ew.out.gl
 clear ee
 go_wp2_with fail
 go_loopg [] (ts.length + 1) (fun fu wr => ∃ (Z : Nat) (q y : List DcN) (J L : Value), Hid (RR = (declsP nameP ts fu Z (q.map DcN.pl) (y.map DcN.pl)).bind fun d k11 => (modesP nameP ts (ts.length + 1) k11 []).bind fun ms k12 => (wantP ts true kTime k12).bind fun _ k13 => (valP ts k13).bind fun tm k14 => (wantP ts false [59] k14).bind fun _ k15 => .ok ⟨d.1, d.2, ms, tm⟩ k15) ∧ Z ≤ ts.length ∧ ts.length < fu + Z ∧ q.length ≤ Z ∧ y.length ≤ Z ∧ Hid (Env w0 g A len cap ts Z 0 wr) ∧ Hid (w.grownBy wr (some g)) ∧ Hid (Blk wr w.heap.size 68 #[.slice none 0 0, .slice none 0 0, .slice none 0 0, .int .i64 0, .int .i64 0]) ∧ Hid (Blk wr j 68 #[J, L, .slice none 0 0, .int .i64 0, .int .i64 0]) ∧ Hid (Mk2 76 5 DcN.cells PzD 76 5 DcN.cells PzD (j + 1) wr J q L y))
 case atStart => exact ⟨k, [], [], .slice none 0 0, .slice none 0 0, (hI (show RR = (declsP nameP ts (ts.length + 1) k [] []).bind fun d k11 => (modesP nameP ts (ts.length + 1) k11 []).bind fun ms k12 => (wantP ts true kTime k12).bind fun _ k13 => (valP ts k13).bind fun tm k14 => (wantP ts false [59] k14).bind fun _ k15 => .ok ⟨d.1, d.2, ms, tm⟩ k15 from im.out)), hkl, by omega, by simp, by simp, (ew.out.b9 ex), (hI (grown_tr (grown_of (some g) O1.out) (grown_of (some g) ex.out))), (F1.out.b9 ex), f7, hI (Mk2.nil _ _ _ _ _ _ _ _ _ _)⟩
 obtain ⟨Z, q, y, J, L, HQ, ju, jv, jw, jx, ip, f8, f9, ez, cv⟩ := hrel
 cases gk with
 | zero => exfalso; omega
 | succ fu =>
  have ga := hI (World.grownBy.refl wr (some g)); have cw : j < wr.heap.size := ez.out.lt
  have b0 : ∀ kb, J.ownBlock = some kb → j + 1 ≤ kb ∧ kb < wr.heap.size := fun kb h => cv.out.a.own.lt kb h
  have b1 : ∀ kb, L.ownBlock = some kb → j + 1 ≤ kb ∧ kb < wr.heap.size := fun kb h => cv.out.b.own.lt kb h
  have db := hI (pAccept ip.out (by omega) ⟨#[115, 116, 97, 116, 101]⟩); rw [show kwP (⟨#[115, 116, 97, 116, 101]⟩ : ByteArray).data.toList = true by decide, show (⟨#[115, 116, 97, 116, 101]⟩ : ByteArray).data.toList = kState from rfl] at db
  cases hb61 : isS true ts Z kState with
  | true =>
   have jy := isS_lt hb61; rw [hb61] at db; have b2 := hI (show RR = (declP nameP ts (Z + 1)).bind fun d9 k9 => (declsP nameP ts fu k9 (q.map DcN.pl ++ [d9]) (y.map DcN.pl)).bind fun d k11 => (modesP nameP ts (ts.length + 1) k11 []).bind fun ms k12 => (wantP ts true kTime k12).bind fun _ k13 => (valP ts k13).bind fun tm k14 => (wantP ts false [59] k14).bind fun _ k15 => .ok ⟨d.1, d.2, ms, tm⟩ k15 by rw [HQ.out, declsP, hb61, if_pos rfl]; exact bind_assoc' _ _ _); clear hb61
   go_wp2_with fail
   refine db.out.mono ?_
   rintro e wa61 ⟨rfl, bs, cx⟩; simp only [if_true] at cx; have dc := hI (grown_tr f8.out bs.out); have dd := hI (ez.out.grown bs.out X.out); have de := hI (grown_tr ga.out bs.out); have df := hI (cv.out.moved pzD pzD (.inr ⟨g, rfl, by omega⟩) de.out)
   have z : ∀ b, J.ownBlock = some b → j + 1 ≤ b := fun b h => (b0 b h).1
   go_upto_region 3 with (fail)
   obtain ⟨ln, co, er, M⟩ | ⟨d9, k9, M⟩ := pr_cases (decl_no (nm := nameP) (ts := ts) (Z + 1))
   ·
    have HE := hI (show RR = .bad ln co er by rw [b2.out, M] <;> rfl); have H := hI (fun (w' : World) (h' : Env w0 g A len cap ts (Z + 1) 0 w') => by have h9 := pDecl h' (by omega) hR; rw [M] at h9; exact h9); clear M; have ef := hI (below_dr wa61); have gb := cx.out.b9 ef; have gc := hI (grown_tr dc.out (grown_of (some g) ef.out)); have gd := dd.out.b9 ef
    refine wp_region_held_drew (S := fun w' => cz5 w' j (J) (L) (.slice none 0 0) (.int .i64 0) (.int .i64 0)) (by kernel_rfl) gd.out.cz5 fun hHeld => ?_
    obtain ⟨iq, ag⟩ := eX (wa61.drew); rw [← ag] at ef gb gc gd hHeld ⊢; clear ag
    refine tkW 0 ?_
    refine tkW 1 ?_
    refine tkW 2 ?_
    refine wr1 3 fun K hK => ?_
    go_simp
    (with_reducible refine (H.out iq gb.out).mono ?_)
    rintro e w1462 ⟨rfl, bg⟩; clear hHeld
    go_wp2_with fail
    rw [HE.out]
    exact ⟨rfl, prp_bad (hI (grown_tr gc.out bg.out))⟩
   have jz := (decl_fw (nm := nameP) (ts := ts) (Z + 1)) _ _ M; have e0 := hI (show RR = (declsP nameP ts fu k9 (q.map DcN.pl ++ [d9]) (y.map DcN.pl)).bind fun d k11 => (modesP nameP ts (ts.length + 1) k11 []).bind fun ms k12 => (wantP ts true kTime k12).bind fun _ k13 => (valP ts k13).bind fun tm k14 => (wantP ts false [59] k14).bind fun _ k15 => .ok ⟨d.1, d.2, ms, tm⟩ k15 by rw [b2.out, M] <;> rfl); have a8 := hI (decl_in M w); have H := hI (fun (w' : World) (h' : Env w0 g A len cap ts (Z + 1) 0 w') => by have h9 := pDecl h' (by omega) hR; rw [M] at h9; exact h9); clear M; have cn := hI (below_dr wa61); have e1 := cx.out.b9 cn; have e2 := hI (grown_tr dc.out (grown_of (some g) cn.out)); have dg := hI ((f9.out.grown bs.out a4.out).belowW cn.out); have eg := dd.out.b9 cn; have e3 := hI (df.out.belowW pzD pzD cn.out); have e4 := hI (Nat.le_trans (show wr.heap.size ≤ wa61.heap.size from de.out.size) cn.out.size)
   refine wp_region_held_drew (S := fun w' => w'.cell? ⟨w.heap.size, 0, none⟩ = some (.slice none 0 0)) (by kernel_rfl) (dg.out.cell 0) fun hHeld => ?_
   obtain ⟨ge, ag⟩ := eX (wa61.drew); rw [← ag] at cn e1 e2 dg eg e3 e4 hHeld ⊢; clear ag
   refine tkW 0 ?_
   refine tkW 2 ?_
   refine wpAnyH_ready (rs := [1, 3]) (by kernel_rfl) (by simp) ?_
   refine (AllReadyH.cons rfl (fun K hK => ?_) (AllReadyH.cons rfl (fun K hK => ?_) AllReadyH.nil))
   ·
    obtain ⟨ah, ai, aj, ak, al, am, an, ao, ap, aq⟩ := eg.out.all5
    go_simp
    clear ah ai aj ak al am an ao ap aq; clear hHeld
    refine hK.out _ _ (dg.out.cell 0) fun hHeld => ?_
    clear hK K
    try simp only [setIfInBounds_toArray, set_cons_zero, set_cons_succ]
    refine wr1 3 fun K hK => ?_
    go_simp
    (with_reducible refine (H.out ge e1.out).mono ?_)
    rintro e bt ⟨rfl, a9, bh⟩; have cy := hI (dg.out.grown a9.out a4.out); have eh := hI (e3.out.moved pzD pzD (.inr ⟨g, rfl, by omega⟩) a9.out); have e6 := hI (show PzD (fun b => wr.heap.size ≤ b ∧ b < bt.heap.size) bt (dcN d9) from ⟨a8.out.r, a8.out.hs⟩)
    go_wp2_with fail
    clear hHeld
    refine hK.out _ _ (cy.out.cell 0) fun hHeld => ?_
    clear hK K
    try simp only [setIfInBounds_toArray, set_cons_zero, set_cons_succ]
    refine wr1 4 fun K hK => ?_
    go_simp
    obtain ⟨cp, I, a5, _⟩ := aX bt 76 #[.string ⟨d9.s.toArray⟩, .int .i64 d9.r.lo.1, .int .i64 d9.r.lo.2, .int .i64 d9.r.hi.1, .int .i64 d9.r.hi.2]; have dh := cy.out.b9 a5; have di := hI (eh.out.belowW pzD pzD a5.out); have dj := hI (Nat.le_trans (Nat.le_trans e4.out a9.out.size) a5.out.size); have e7 := hI (show PzD (fun b => wr.heap.size ≤ b ∧ b < cp.heap.size) cp (dcN d9) from pzD.weaken (pzD.lt (pzD.mv e6.out (fun b hb e => by cases e) (grown_none (Nat.le_refl _) a5.out))) (fun b hb => ⟨hb.1.1, hb.2⟩)); have e8 := hI (show Blk cp bt.heap.size 76 (DcN.cells (dcN d9)).toArray by rw [I]; exact Blk.new _ _ _); rw [← I]; clear I; clear hHeld
    refine hK.out _ _ (dh.out.cell 0) fun hHeld => ?_
    clear hK K
    try simp only [setIfInBounds_toArray, set_cons_zero, set_cons_succ]
    refine wr1 5 fun K hK => ?_
    obtain ⟨N, O, P, Q, R⟩ := info_parts Tryz.infoDecl; have T : ∀ u ∈ DcN.cells (dcN d9), u.oneCell' = true := (by simp [DcN.cells, Value.oneCell'])
    refine if_wanted (by rfl) ?_
    refine oper_append_mk _ _ _ rfl (avd_ok pzD) DcN.len5 rfl di.out.a (show Avd (Own L) PzD _ _ _ from pzD.weaken e7.out (fun b hb => ⟨⟨by omega, hb.2, fun e => by have := b0 b e.symm; omega⟩, fun e => by have := b1 b e; omega⟩)) N _ 48 Tryz.underlying65 O P Q R rfl (by omega) (by omega) (by omega) bt.heap.size _ rfl e8.out T (Nat.le_trans cw dj.out) ?_
    intro v9 w1475 hmk hgr hob
    have U := hI hmk; have ac := hI hgr; have bi := hI hob; clear hmk hgr hob O P Q R N T; obtain ⟨l, o, V, _⟩ := U.out.lies (avd_ok pzD); obtain ⟨p, W⟩ := eX ((q ++ [dcN d9]).length); rw [← W] at V; clear W; subst V
    try simp only [Act.put, setIfInBounds_toArray]
    have dk := hI (env_row ((bh.out).belowW a5.out) ac.out (fun b h => by have := z b h; omega)); have dl := hI (grown_row (grown_tr (grown_tr e2.out a9.out) (grown_of (some g) a5.out)) ac.out (fun b h => by have := z b h; omega)); have b3 := hI (dh.out.grown ac.out (fun e => by have := z _ e.symm; omega)); have bj := hI (((eg.out.grown a9.out X.out).belowW a5.out).grown ac.out (fun e => by have := z _ e.symm; omega)); clear hHeld
    refine hK.out _ _ (b3.out.cell 0) fun hHeld => ?_
    clear hK K
    try simp only [setIfInBounds_toArray, set_cons_zero, set_cons_succ]
    refine tkW 6 ?_
    refine wr1 7 fun K hK => ?_
    obtain ⟨ar, au, av, aw, ax, ay, az, a0, a1, a2⟩ := bj.out.all5
    go_simp
    rw [pst_5_0 bj.out]; clear ar au av aw ax ay az a0 a1 a2; have b4 := hI (dk.out.far (r := j) (fun e => X.out (by rw [e])) (Nat.le_trans bb (Nat.le_of_lt ab)) 68 #[.slice l p o, L, .slice none 0 0, .int .i64 0, .int .i64 0]); have b5 := hI (grown_new dl.out (Nat.le_of_lt ab) 68 #[.slice l p o, L, .slice none 0 0, .int .i64 0, .int .i64 0]); have bk := hI (b3.out.far (g' := j) (t' := 68) (by omega) #[.slice l p o, L, .slice none 0 0, .int .i64 0, .int .i64 0]); have b6 := hI ((Mk2.pushed pzD di.out U.out ac.out bi.out).moved pzD pzD (.inr ⟨j, rfl, by omega⟩) (putB_grown w1475 j 68 #[.slice l p o, L, .slice none 0 0, .int .i64 0, .int .i64 0])); have dm := hI (show wr.heap.size ≤ (putB w1475 j 68 #[.slice l p o, L, .slice none 0 0, .int .i64 0, .int .i64 0]).heap.size by rw [putB_size]; exact (Nat.le_trans dj.out ac.out.size)); have b7 := hI (bj.out.put #[.slice l p o, L, .slice none 0 0, .int .i64 0, .int .i64 0]); obtain ⟨gf, i⟩ := eX (putB w1475 (j) 68 #[.slice l p o, L, .slice none 0 0, .int .i64 0, .int .i64 0])
    try rw [← i] at b4
    try rw [← i] at b5
    try rw [← i] at bk
    try rw [← i] at b6
    try rw [← i] at dm
    try rw [← i] at b7
    rw [← i]; clear i hHeld
    refine hK.out _ _ (bk.out.cell 0) fun hHeld => ?_
    clear hK K
    try simp only [setIfInBounds_toArray, set_cons_zero, set_cons_succ]
    refine wpAnyH_done (by kernel_rfl) ?_ _
    go_wp2_with fail
    go_roundg fu
    case measure => omega
    case rel => exact ⟨k9, q ++ [dcN d9], y, .slice l p o, L, hI (by rw [e0.out, List.map_append]; rfl), by omega, by omega, by rw [List.length_append]; show q.length + 1 ≤ _; omega, by omega, b4, b5, bk, b7, b6⟩
   go_simp
   (with_reducible refine (H.out ge e1.out).mono ?_)
   rintro e w1472 ⟨rfl, dn, bh⟩; have gg := hI (bh.out); have gh := hI (grown_tr e2.out dn.out); have ei := hI (dg.out.grown dn.out a4.out); have e9 := hI (eg.out.grown dn.out X.out); have gi := hI (e3.out.moved pzD pzD (.inr ⟨g, rfl, by omega⟩) dn.out); have gj := hI (Nat.le_trans e4.out dn.out.size); have gm := hI (show PzD (fun b => wr.heap.size ≤ b ∧ b < w1472.heap.size) w1472 (dcN d9) from ⟨a8.out.r, a8.out.hs⟩)
   go_wp2_with fail
   clear hHeld
   refine hK.out _ _ (ei.out.cell 0) fun hHeld => ?_
   clear hK K
   try simp only [setIfInBounds_toArray, set_cons_zero, set_cons_succ]
   refine wpAnyH_ready (rs := [1, 4]) (by kernel_rfl) (by simp) ?_
   refine (AllReadyH.cons rfl (fun K hK => ?_) (AllReadyH.cons rfl (fun K hK => ?_) AllReadyH.nil))
   ·
    obtain ⟨ah, ai, aj, ak, al, am, an, ao, ap, aq⟩ := e9.out.all5
    go_simp
    clear ah ai aj ak al am an ao ap aq; clear hHeld
    refine hK.out _ _ (ei.out.cell 0) fun hHeld => ?_
    clear hK K
    try simp only [setIfInBounds_toArray, set_cons_zero, set_cons_succ]
    refine wr1 4 fun K hK => ?_
    go_simp
    obtain ⟨cp, I, a5, _⟩ := aX w1472 76 #[.string ⟨d9.s.toArray⟩, .int .i64 d9.r.lo.1, .int .i64 d9.r.lo.2, .int .i64 d9.r.hi.1, .int .i64 d9.r.hi.2]; have dh := ei.out.b9 a5; have di := hI (gi.out.belowW pzD pzD a5.out); have dj := hI (Nat.le_trans gj.out a5.out.size); have e7 := hI (show PzD (fun b => wr.heap.size ≤ b ∧ b < cp.heap.size) cp (dcN d9) from pzD.weaken (pzD.lt (pzD.mv gm.out (fun b hb e => by cases e) (grown_none (Nat.le_refl _) a5.out))) (fun b hb => ⟨hb.1.1, hb.2⟩)); have e8 := hI (show Blk cp w1472.heap.size 76 (DcN.cells (dcN d9)).toArray by rw [I]; exact Blk.new _ _ _); rw [← I]; clear I; clear hHeld
    refine hK.out _ _ (dh.out.cell 0) fun hHeld => ?_
    clear hK K
    try simp only [setIfInBounds_toArray, set_cons_zero, set_cons_succ]
    refine wr1 5 fun K hK => ?_
    obtain ⟨N, O, P, Q, R⟩ := info_parts Tryz.infoDecl; have T : ∀ u ∈ DcN.cells (dcN d9), u.oneCell' = true := (by simp [DcN.cells, Value.oneCell'])
    refine if_wanted (by rfl) ?_
    refine oper_append_mk _ _ _ rfl (avd_ok pzD) DcN.len5 rfl di.out.a (show Avd (Own L) PzD _ _ _ from pzD.weaken e7.out (fun b hb => ⟨⟨by omega, hb.2, fun e => by have := b0 b e.symm; omega⟩, fun e => by have := b1 b e; omega⟩)) N _ 48 Tryz.underlying65 O P Q R rfl (by omega) (by omega) (by omega) w1472.heap.size _ rfl e8.out T (Nat.le_trans cw dj.out) ?_
    intro v9 w1475 hmk hgr hob
    have U := hI hmk; have ac := hI hgr; have bi := hI hob; clear hmk hgr hob O P Q R N T; obtain ⟨l, o, V, _⟩ := U.out.lies (avd_ok pzD); obtain ⟨p, W⟩ := eX ((q ++ [dcN d9]).length); rw [← W] at V; clear W; subst V
    try simp only [Act.put, setIfInBounds_toArray]
    have dk := hI (env_row (gg.out.belowW a5.out) ac.out (fun b h => by have := z b h; omega)); have dl := hI (grown_row (grown_tr gh.out (grown_of (some g) a5.out)) ac.out (fun b h => by have := z b h; omega)); have b3 := hI (dh.out.grown ac.out (fun e => by have := z _ e.symm; omega)); have bj := hI ((e9.out.belowW a5.out).grown ac.out (fun e => by have := z _ e.symm; omega)); clear hHeld
    refine hK.out _ _ (b3.out.cell 0) fun hHeld => ?_
    clear hK K
    try simp only [setIfInBounds_toArray, set_cons_zero, set_cons_succ]
    refine tkW 6 ?_
    refine wr1 7 fun K hK => ?_
    obtain ⟨ar, au, av, aw, ax, ay, az, a0, a1, a2⟩ := bj.out.all5
    go_simp
    rw [pst_5_0 bj.out]; clear ar au av aw ax ay az a0 a1 a2; have b4 := hI (dk.out.far (r := j) (fun e => X.out (by rw [e])) (Nat.le_trans bb (Nat.le_of_lt ab)) 68 #[.slice l p o, L, .slice none 0 0, .int .i64 0, .int .i64 0]); have b5 := hI (grown_new dl.out (Nat.le_of_lt ab) 68 #[.slice l p o, L, .slice none 0 0, .int .i64 0, .int .i64 0]); have bk := hI (b3.out.far (g' := j) (t' := 68) (by omega) #[.slice l p o, L, .slice none 0 0, .int .i64 0, .int .i64 0]); have b6 := hI ((Mk2.pushed pzD di.out U.out ac.out bi.out).moved pzD pzD (.inr ⟨j, rfl, by omega⟩) (putB_grown w1475 j 68 #[.slice l p o, L, .slice none 0 0, .int .i64 0, .int .i64 0])); have dm := hI (show wr.heap.size ≤ (putB w1475 j 68 #[.slice l p o, L, .slice none 0 0, .int .i64 0, .int .i64 0]).heap.size by rw [putB_size]; exact (Nat.le_trans dj.out ac.out.size)); have b7 := hI (bj.out.put #[.slice l p o, L, .slice none 0 0, .int .i64 0, .int .i64 0]); obtain ⟨gf, i⟩ := eX (putB w1475 (j) 68 #[.slice l p o, L, .slice none 0 0, .int .i64 0, .int .i64 0])
    try rw [← i] at b4
    try rw [← i] at b5
    try rw [← i] at bk
    try rw [← i] at b6
    try rw [← i] at dm
    try rw [← i] at b7
    rw [← i]; clear i hHeld
    refine hK.out _ _ (bk.out.cell 0) fun hHeld => ?_
    clear hK K
    try simp only [setIfInBounds_toArray, set_cons_zero, set_cons_succ]
    refine wpAnyH_done (by kernel_rfl) ?_ _
    go_wp2_with fail
    go_roundg fu
    case measure => omega
    case rel => exact ⟨k9, q ++ [dcN d9], y, .slice l p o, L, hI (by rw [e0.out, List.map_append]; rfl), by omega, by omega, by rw [List.length_append]; show q.length + 1 ≤ _; omega, by omega, b4, b5, bk, b7, b6⟩
   go_simp
   obtain ⟨bt, I, a9, _⟩ := aX w1472 76 #[.string ⟨d9.s.toArray⟩, .int .i64 d9.r.lo.1, .int .i64 d9.r.lo.2, .int .i64 d9.r.hi.1, .int .i64 d9.r.hi.2]; have cy := ei.out.b9 a9; have gn := e9.out.b9 a9; have eh := hI (gi.out.belowW pzD pzD a9.out); have go := hI (Nat.le_trans gj.out a9.out.size); have e6 := hI (show PzD (fun b => wr.heap.size ≤ b ∧ b < bt.heap.size) bt (dcN d9) from pzD.weaken (pzD.lt (pzD.mv gm.out (fun b hb e => by cases e) (grown_none (Nat.le_refl _) a9.out))) (fun b hb => ⟨hb.1.1, hb.2⟩)); have ir := hI (show Blk bt w1472.heap.size 76 (DcN.cells (dcN d9)).toArray by rw [I]; exact Blk.new _ _ _); rw [← I]; clear I; clear hHeld
   refine hK.out _ _ (cy.out.cell 0) fun hHeld => ?_
   clear hK K
   try simp only [setIfInBounds_toArray, set_cons_zero, set_cons_succ]
   refine wr1 1 fun K hK => ?_
   obtain ⟨ah, ai, aj, ak, al, am, an, ao, ap, aq⟩ := gn.out.all5
   go_simp
   clear ah ai aj ak al am an ao ap aq; clear hHeld
   refine hK.out _ _ (cy.out.cell 0) fun hHeld => ?_
   clear hK K
   try simp only [setIfInBounds_toArray, set_cons_zero, set_cons_succ]
   refine wr1 5 fun K hK => ?_
   obtain ⟨N, O, P, Q, R⟩ := info_parts Tryz.infoDecl; have T : ∀ u ∈ DcN.cells (dcN d9), u.oneCell' = true := (by simp [DcN.cells, Value.oneCell'])
   refine if_wanted (by rfl) ?_
   refine oper_append_mk _ _ _ rfl (avd_ok pzD) DcN.len5 rfl eh.out.a (show Avd (Own L) PzD _ _ _ from pzD.weaken e6.out (fun b hb => ⟨⟨by omega, hb.2, fun e => by have := b0 b e.symm; omega⟩, fun e => by have := b1 b e; omega⟩)) N _ 48 Tryz.underlying65 O P Q R rfl (by omega) (by omega) (by omega) w1472.heap.size _ rfl ir.out T (Nat.le_trans cw go.out) ?_
   intro v9 w1475 hmk hgr hob
   have U := hI hmk; have ac := hI hgr; have bi := hI hob; clear hmk hgr hob O P Q R N T; obtain ⟨l, o, V, _⟩ := U.out.lies (avd_ok pzD); obtain ⟨p, W⟩ := eX ((q ++ [dcN d9]).length); rw [← W] at V; clear W; subst V
   try simp only [Act.put, setIfInBounds_toArray]
   have dk := hI (env_row (gg.out.belowW a9.out) ac.out (fun b h => by have := z b h; omega)); have dl := hI (grown_row (grown_tr gh.out (grown_of (some g) a9.out)) ac.out (fun b h => by have := z b h; omega)); have b3 := hI (cy.out.grown ac.out (fun e => by have := z _ e.symm; omega)); have bj := hI (gn.out.grown ac.out (fun e => by have := z _ e.symm; omega)); clear hHeld
   refine hK.out _ _ (b3.out.cell 0) fun hHeld => ?_
   clear hK K
   try simp only [setIfInBounds_toArray, set_cons_zero, set_cons_succ]
   refine tkW 6 ?_
   refine wr1 7 fun K hK => ?_
   obtain ⟨ar, au, av, aw, ax, ay, az, a0, a1, a2⟩ := bj.out.all5
   go_simp
   rw [pst_5_0 bj.out]; clear ar au av aw ax ay az a0 a1 a2; have b4 := hI (dk.out.far (r := j) (fun e => X.out (by rw [e])) (Nat.le_trans bb (Nat.le_of_lt ab)) 68 #[.slice l p o, L, .slice none 0 0, .int .i64 0, .int .i64 0]); have b5 := hI (grown_new dl.out (Nat.le_of_lt ab) 68 #[.slice l p o, L, .slice none 0 0, .int .i64 0, .int .i64 0]); have bk := hI (b3.out.far (g' := j) (t' := 68) (by omega) #[.slice l p o, L, .slice none 0 0, .int .i64 0, .int .i64 0]); have b6 := hI ((Mk2.pushed pzD eh.out U.out ac.out bi.out).moved pzD pzD (.inr ⟨j, rfl, by omega⟩) (putB_grown w1475 j 68 #[.slice l p o, L, .slice none 0 0, .int .i64 0, .int .i64 0])); have dm := hI (show wr.heap.size ≤ (putB w1475 j 68 #[.slice l p o, L, .slice none 0 0, .int .i64 0, .int .i64 0]).heap.size by rw [putB_size]; exact (Nat.le_trans go.out ac.out.size)); have b7 := hI (bj.out.put #[.slice l p o, L, .slice none 0 0, .int .i64 0, .int .i64 0]); obtain ⟨gf, i⟩ := eX (putB w1475 (j) 68 #[.slice l p o, L, .slice none 0 0, .int .i64 0, .int .i64 0])
   try rw [← i] at b4
   try rw [← i] at b5
   try rw [← i] at bk
   try rw [← i] at b6
   try rw [← i] at dm
   try rw [← i] at b7
   rw [← i]; clear i hHeld
   refine hK.out _ _ (bk.out.cell 0) fun hHeld => ?_
   clear hK K
   try simp only [setIfInBounds_toArray, set_cons_zero, set_cons_succ]
   refine wpAnyH_done (by kernel_rfl) ?_ _
   go_wp2_with fail
   go_roundg fu
   case measure => omega
   case rel => exact ⟨k9, q ++ [dcN d9], y, .slice l p o, L, hI (by rw [e0.out, List.map_append]; rfl), by omega, by omega, by rw [List.length_append]; show q.length + 1 ≤ _; omega, by omega, b4, b5, bk, b7, b6⟩
  | false =>
   rw [hb61] at db; have ej := hb61; clear hb61
   go_wp2_with fail
   refine db.out.mono ?_
   rintro e wa61 ⟨rfl, bs, cx⟩; simp only [Bool.false_eq_true, if_false] at cx; have dc := hI (grown_tr f8.out bs.out); have gp := hI (f9.out.grown bs.out a4.out); have dd := hI (ez.out.grown bs.out X.out); have de := hI (grown_tr ga.out bs.out); have dp := hI (pAccept cx.out (by omega) ⟨#[112, 97, 114, 97, 109]⟩); rw [show kwP (⟨#[112, 97, 114, 97, 109]⟩ : ByteArray).data.toList = true by decide, show (⟨#[112, 97, 114, 97, 109]⟩ : ByteArray).data.toList = kParam from rfl] at dp
   cases hb63 : isS true ts Z kParam with
   | true =>
    have j0 := isS_lt hb63; rw [hb63] at dp; have b2 := hI (show RR = (declP nameP ts (Z + 1)).bind fun d9 k9 => (declsP nameP ts fu k9 (q.map DcN.pl) (y.map DcN.pl ++ [d9])).bind fun d k11 => (modesP nameP ts (ts.length + 1) k11 []).bind fun ms k12 => (wantP ts true kTime k12).bind fun _ k13 => (valP ts k13).bind fun tm k14 => (wantP ts false [59] k14).bind fun _ k15 => .ok ⟨d.1, d.2, ms, tm⟩ k15 by rw [HQ.out, declsP, ej, if_neg (by decide), hb63, if_pos rfl]; exact bind_assoc' _ _ _); clear hb63
    go_wp2_with fail
    refine dp.out.mono ?_
    rintro e wa63 ⟨rfl, bu, cz⟩; simp only [if_true] at cz; have gq := hI (grown_tr dc.out bu.out); have dq := hI (dd.out.grown bu.out X.out); have gr := hI (grown_tr de.out bu.out); clear ej; have df := hI (cv.out.moved pzD pzD (.inr ⟨g, rfl, by omega⟩) gr.out)
    have z : ∀ b, L.ownBlock = some b → j + 1 ≤ b := fun b h => (b1 b h).1
    go_upto_region 5 with (fail)
    obtain ⟨ln, co, er, M⟩ | ⟨d9, k9, M⟩ := pr_cases (decl_no (nm := nameP) (ts := ts) (Z + 1))
    ·
     have HE := hI (show RR = .bad ln co er by rw [b2.out, M] <;> rfl); have H := hI (fun (w' : World) (h' : Env w0 g A len cap ts (Z + 1) 0 w') => by have h9 := pDecl h' (by omega) hR; rw [M] at h9; exact h9); clear M; have ek := hI (below_dr wa63); have gs := cz.out.b9 ek; have gt := hI (grown_tr gq.out (grown_of (some g) ek.out)); have gu := dq.out.b9 ek
     refine wp_region_held_drew (S := fun w' => cz5 w' j (J) (L) (.slice none 0 0) (.int .i64 0) (.int .i64 0)) (by kernel_rfl) gu.out.cz5 fun hHeld => ?_
     obtain ⟨is, ag⟩ := eX (wa63.drew); rw [← ag] at ek gs gt gu hHeld ⊢; clear ag
     refine tkW 0 ?_
     refine tkW 1 ?_
     refine tkW 2 ?_
     refine wr1 3 fun K hK => ?_
     go_simp
     (with_reducible refine (H.out is gs.out).mono ?_)
     rintro e w1502 ⟨rfl, bg⟩; clear hHeld
     go_wp2_with fail
     rw [HE.out]
     exact ⟨rfl, prp_bad (hI (grown_tr gt.out bg.out))⟩
    have j1 := (decl_fw (nm := nameP) (ts := ts) (Z + 1)) _ _ M; have fa := hI (show RR = (declsP nameP ts fu k9 (q.map DcN.pl) (y.map DcN.pl ++ [d9])).bind fun d k11 => (modesP nameP ts (ts.length + 1) k11 []).bind fun ms k12 => (wantP ts true kTime k12).bind fun _ k13 => (valP ts k13).bind fun tm k14 => (wantP ts false [59] k14).bind fun _ k15 => .ok ⟨d.1, d.2, ms, tm⟩ k15 by rw [b2.out, M] <;> rfl); have a8 := hI (decl_in M w); have H := hI (fun (w' : World) (h' : Env w0 g A len cap ts (Z + 1) 0 w') => by have h9 := pDecl h' (by omega) hR; rw [M] at h9; exact h9); clear M; have cq := hI (below_dr wa63); have fb := cz.out.b9 cq; have fc := hI (grown_tr gq.out (grown_of (some g) cq.out)); have dr := hI ((gp.out.grown bu.out a4.out).belowW cq.out); have el := dq.out.b9 cq; have fd := hI (df.out.belowW pzD pzD cq.out); have fe := hI (Nat.le_trans (show wr.heap.size ≤ wa63.heap.size from gr.out.size) cq.out.size)
    refine wp_region_held_drew (S := fun w' => w'.cell? ⟨w.heap.size, 0, none⟩ = some (.slice none 0 0)) (by kernel_rfl) (dr.out.cell 0) fun hHeld => ?_
    obtain ⟨gv, ag⟩ := eX (wa63.drew); rw [← ag] at cq fb fc dr el fd fe hHeld ⊢; clear ag
    refine tkW 0 ?_
    refine tkW 2 ?_
    refine wpAnyH_ready (rs := [1, 3]) (by kernel_rfl) (by simp) ?_
    refine (AllReadyH.cons rfl (fun K hK => ?_) (AllReadyH.cons rfl (fun K hK => ?_) AllReadyH.nil))
    ·
     obtain ⟨ah, ai, aj, ak, al, am, an, ao, ap, aq⟩ := el.out.all5
     go_simp
     clear ah ai aj ak al am an ao ap aq; clear hHeld
     refine hK.out _ _ (dr.out.cell 0) fun hHeld => ?_
     clear hK K
     try simp only [setIfInBounds_toArray, set_cons_zero, set_cons_succ]
     refine wr1 3 fun K hK => ?_
     go_simp
     (with_reducible refine (H.out gv fb.out).mono ?_)
     rintro e bv ⟨rfl, ba, bh⟩; have c0 := hI (dr.out.grown ba.out a4.out); have em := hI (fd.out.moved pzD pzD (.inr ⟨g, rfl, by omega⟩) ba.out); have ff := hI (show PzD (fun b => wr.heap.size ≤ b ∧ b < bv.heap.size) bv (dcN d9) from ⟨a8.out.r, a8.out.hs⟩)
     go_wp2_with fail
     clear hHeld
     refine hK.out _ _ (c0.out.cell 0) fun hHeld => ?_
     clear hK K
     try simp only [setIfInBounds_toArray, set_cons_zero, set_cons_succ]
     refine wr1 4 fun K hK => ?_
     go_simp
     obtain ⟨cr, I, a6, _⟩ := aX bv 76 #[.string ⟨d9.s.toArray⟩, .int .i64 d9.r.lo.1, .int .i64 d9.r.lo.2, .int .i64 d9.r.hi.1, .int .i64 d9.r.hi.2]; have ds := c0.out.b9 a6; have dt := hI (em.out.belowW pzD pzD a6.out); have du := hI (Nat.le_trans (Nat.le_trans fe.out ba.out.size) a6.out.size); have fg := hI (show PzD (fun b => wr.heap.size ≤ b ∧ b < cr.heap.size) cr (dcN d9) from pzD.weaken (pzD.lt (pzD.mv ff.out (fun b hb e => by cases e) (grown_none (Nat.le_refl _) a6.out))) (fun b hb => ⟨hb.1.1, hb.2⟩)); have fh := hI (show Blk cr bv.heap.size 76 (DcN.cells (dcN d9)).toArray by rw [I]; exact Blk.new _ _ _); rw [← I]; clear I; clear hHeld
     refine hK.out _ _ (ds.out.cell 0) fun hHeld => ?_
     clear hK K
     try simp only [setIfInBounds_toArray, set_cons_zero, set_cons_succ]
     refine wr1 5 fun K hK => ?_
     obtain ⟨N, O, P, Q, R⟩ := info_parts Tryz.infoDecl; have T : ∀ u ∈ DcN.cells (dcN d9), u.oneCell' = true := (by simp [DcN.cells, Value.oneCell'])
     refine if_wanted (by rfl) ?_
     refine oper_append_mk _ _ _ rfl (avd_ok pzD) DcN.len5 rfl dt.out.b (show Avd (Own J) PzD _ _ _ from pzD.weaken fg.out (fun b hb => ⟨⟨by omega, hb.2, fun e => by have := b1 b e.symm; omega⟩, fun e => by have := b0 b e; omega⟩)) N _ 48 Tryz.underlying65 O P Q R rfl (by omega) (by omega) (by omega) bv.heap.size _ rfl fh.out T (Nat.le_trans cw du.out) ?_
     intro v9 w1515 hmk hgr hob
     have U := hI hmk; have ad := hI hgr; have bi := hI hob; clear hmk hgr hob O P Q R N T; obtain ⟨l, o, V, _⟩ := U.out.lies (avd_ok pzD); obtain ⟨p, W⟩ := eX ((y ++ [dcN d9]).length); rw [← W] at V; clear W; subst V
     try simp only [Act.put, setIfInBounds_toArray]
     have dv := hI (env_row ((bh.out).belowW a6.out) ad.out (fun b h => by have := z b h; omega)); have dw := hI (grown_row (grown_tr (grown_tr fc.out ba.out) (grown_of (some g) a6.out)) ad.out (fun b h => by have := z b h; omega)); have b8 := hI (ds.out.grown ad.out (fun e => by have := z _ e.symm; omega)); have bl := hI (((el.out.grown ba.out X.out).belowW a6.out).grown ad.out (fun e => by have := z _ e.symm; omega)); clear hHeld
     refine hK.out _ _ (b8.out.cell 0) fun hHeld => ?_
     clear hK K
     try simp only [setIfInBounds_toArray, set_cons_zero, set_cons_succ]
     refine tkW 6 ?_
     refine wr1 7 fun K hK => ?_
     obtain ⟨ar, au, av, aw, ax, ay, az, a0, a1, a2⟩ := bl.out.all5
     go_simp
     rw [pst_5_1 bl.out]; clear ar au av aw ax ay az a0 a1 a2; have ca := hI (dv.out.far (r := j) (fun e => X.out (by rw [e])) (Nat.le_trans bb (Nat.le_of_lt ab)) 68 #[J, .slice l p o, .slice none 0 0, .int .i64 0, .int .i64 0]); have cb := hI (grown_new dw.out (Nat.le_of_lt ab) 68 #[J, .slice l p o, .slice none 0 0, .int .i64 0, .int .i64 0]); have bm := hI (b8.out.far (g' := j) (t' := 68) (by omega) #[J, .slice l p o, .slice none 0 0, .int .i64 0, .int .i64 0]); have cc := hI (((Mk2.pushed pzD dt.out.swap U.out ad.out bi.out).swap).moved pzD pzD (.inr ⟨j, rfl, by omega⟩) (putB_grown w1515 j 68 #[J, .slice l p o, .slice none 0 0, .int .i64 0, .int .i64 0])); have dx := hI (show wr.heap.size ≤ (putB w1515 j 68 #[J, .slice l p o, .slice none 0 0, .int .i64 0, .int .i64 0]).heap.size by rw [putB_size]; exact (Nat.le_trans du.out ad.out.size)); have cd := hI (bl.out.put #[J, .slice l p o, .slice none 0 0, .int .i64 0, .int .i64 0]); obtain ⟨gw, i⟩ := eX (putB w1515 (j) 68 #[J, .slice l p o, .slice none 0 0, .int .i64 0, .int .i64 0])
     try rw [← i] at ca
     try rw [← i] at cb
     try rw [← i] at bm
     try rw [← i] at cc
     try rw [← i] at dx
     try rw [← i] at cd
     rw [← i]; clear i hHeld
     refine hK.out _ _ (bm.out.cell 0) fun hHeld => ?_
     clear hK K
     try simp only [setIfInBounds_toArray, set_cons_zero, set_cons_succ]
     refine wpAnyH_done (by kernel_rfl) ?_ _
     go_wp2_with fail
     go_roundg fu
     case measure => omega
     case rel => exact ⟨k9, q, y ++ [dcN d9], J, .slice l p o, hI (by rw [fa.out, List.map_append]; rfl), by omega, by omega, by omega, by rw [List.length_append]; show y.length + 1 ≤ _; omega, ca, cb, bm, cd, cc⟩
    go_simp
    (with_reducible refine (H.out gv fb.out).mono ?_)
    rintro e w1512 ⟨rfl, dy, bh⟩; have gy := hI (bh.out); have gz := hI (grown_tr fc.out dy.out); have en := hI (dr.out.grown dy.out a4.out); have fi := hI (el.out.grown dy.out X.out); have g0 := hI (fd.out.moved pzD pzD (.inr ⟨g, rfl, by omega⟩) dy.out); have g1 := hI (Nat.le_trans fe.out dy.out.size); have g2 := hI (show PzD (fun b => wr.heap.size ≤ b ∧ b < w1512.heap.size) w1512 (dcN d9) from ⟨a8.out.r, a8.out.hs⟩)
    go_wp2_with fail
    clear hHeld
    refine hK.out _ _ (en.out.cell 0) fun hHeld => ?_
    clear hK K
    try simp only [setIfInBounds_toArray, set_cons_zero, set_cons_succ]
    refine wpAnyH_ready (rs := [1, 4]) (by kernel_rfl) (by simp) ?_
    refine (AllReadyH.cons rfl (fun K hK => ?_) (AllReadyH.cons rfl (fun K hK => ?_) AllReadyH.nil))
    ·
     obtain ⟨ah, ai, aj, ak, al, am, an, ao, ap, aq⟩ := fi.out.all5
     go_simp
     clear ah ai aj ak al am an ao ap aq; clear hHeld
     refine hK.out _ _ (en.out.cell 0) fun hHeld => ?_
     clear hK K
     try simp only [setIfInBounds_toArray, set_cons_zero, set_cons_succ]
     refine wr1 4 fun K hK => ?_
     go_simp
     obtain ⟨cr, I, a6, _⟩ := aX w1512 76 #[.string ⟨d9.s.toArray⟩, .int .i64 d9.r.lo.1, .int .i64 d9.r.lo.2, .int .i64 d9.r.hi.1, .int .i64 d9.r.hi.2]; have ds := en.out.b9 a6; have dt := hI (g0.out.belowW pzD pzD a6.out); have du := hI (Nat.le_trans g1.out a6.out.size); have fg := hI (show PzD (fun b => wr.heap.size ≤ b ∧ b < cr.heap.size) cr (dcN d9) from pzD.weaken (pzD.lt (pzD.mv g2.out (fun b hb e => by cases e) (grown_none (Nat.le_refl _) a6.out))) (fun b hb => ⟨hb.1.1, hb.2⟩)); have fh := hI (show Blk cr w1512.heap.size 76 (DcN.cells (dcN d9)).toArray by rw [I]; exact Blk.new _ _ _); rw [← I]; clear I; clear hHeld
     refine hK.out _ _ (ds.out.cell 0) fun hHeld => ?_
     clear hK K
     try simp only [setIfInBounds_toArray, set_cons_zero, set_cons_succ]
     refine wr1 5 fun K hK => ?_
     obtain ⟨N, O, P, Q, R⟩ := info_parts Tryz.infoDecl; have T : ∀ u ∈ DcN.cells (dcN d9), u.oneCell' = true := (by simp [DcN.cells, Value.oneCell'])
     refine if_wanted (by rfl) ?_
     refine oper_append_mk _ _ _ rfl (avd_ok pzD) DcN.len5 rfl dt.out.b (show Avd (Own J) PzD _ _ _ from pzD.weaken fg.out (fun b hb => ⟨⟨by omega, hb.2, fun e => by have := b1 b e.symm; omega⟩, fun e => by have := b0 b e; omega⟩)) N _ 48 Tryz.underlying65 O P Q R rfl (by omega) (by omega) (by omega) w1512.heap.size _ rfl fh.out T (Nat.le_trans cw du.out) ?_
     intro v9 w1515 hmk hgr hob
     have U := hI hmk; have ad := hI hgr; have bi := hI hob; clear hmk hgr hob O P Q R N T; obtain ⟨l, o, V, _⟩ := U.out.lies (avd_ok pzD); obtain ⟨p, W⟩ := eX ((y ++ [dcN d9]).length); rw [← W] at V; clear W; subst V
     try simp only [Act.put, setIfInBounds_toArray]
     have dv := hI (env_row (gy.out.belowW a6.out) ad.out (fun b h => by have := z b h; omega)); have dw := hI (grown_row (grown_tr gz.out (grown_of (some g) a6.out)) ad.out (fun b h => by have := z b h; omega)); have b8 := hI (ds.out.grown ad.out (fun e => by have := z _ e.symm; omega)); have bl := hI ((fi.out.belowW a6.out).grown ad.out (fun e => by have := z _ e.symm; omega)); clear hHeld
     refine hK.out _ _ (b8.out.cell 0) fun hHeld => ?_
     clear hK K
     try simp only [setIfInBounds_toArray, set_cons_zero, set_cons_succ]
     refine tkW 6 ?_
     refine wr1 7 fun K hK => ?_
     obtain ⟨ar, au, av, aw, ax, ay, az, a0, a1, a2⟩ := bl.out.all5
     go_simp
     rw [pst_5_1 bl.out]; clear ar au av aw ax ay az a0 a1 a2; have ca := hI (dv.out.far (r := j) (fun e => X.out (by rw [e])) (Nat.le_trans bb (Nat.le_of_lt ab)) 68 #[J, .slice l p o, .slice none 0 0, .int .i64 0, .int .i64 0]); have cb := hI (grown_new dw.out (Nat.le_of_lt ab) 68 #[J, .slice l p o, .slice none 0 0, .int .i64 0, .int .i64 0]); have bm := hI (b8.out.far (g' := j) (t' := 68) (by omega) #[J, .slice l p o, .slice none 0 0, .int .i64 0, .int .i64 0]); have cc := hI (((Mk2.pushed pzD dt.out.swap U.out ad.out bi.out).swap).moved pzD pzD (.inr ⟨j, rfl, by omega⟩) (putB_grown w1515 j 68 #[J, .slice l p o, .slice none 0 0, .int .i64 0, .int .i64 0])); have dx := hI (show wr.heap.size ≤ (putB w1515 j 68 #[J, .slice l p o, .slice none 0 0, .int .i64 0, .int .i64 0]).heap.size by rw [putB_size]; exact (Nat.le_trans du.out ad.out.size)); have cd := hI (bl.out.put #[J, .slice l p o, .slice none 0 0, .int .i64 0, .int .i64 0]); obtain ⟨gw, i⟩ := eX (putB w1515 (j) 68 #[J, .slice l p o, .slice none 0 0, .int .i64 0, .int .i64 0])
     try rw [← i] at ca
     try rw [← i] at cb
     try rw [← i] at bm
     try rw [← i] at cc
     try rw [← i] at dx
     try rw [← i] at cd
     rw [← i]; clear i hHeld
     refine hK.out _ _ (bm.out.cell 0) fun hHeld => ?_
     clear hK K
     try simp only [setIfInBounds_toArray, set_cons_zero, set_cons_succ]
     refine wpAnyH_done (by kernel_rfl) ?_ _
     go_wp2_with fail
     go_roundg fu
     case measure => omega
     case rel => exact ⟨k9, q, y ++ [dcN d9], J, .slice l p o, hI (by rw [fa.out, List.map_append]; rfl), by omega, by omega, by omega, by rw [List.length_append]; show y.length + 1 ≤ _; omega, ca, cb, bm, cd, cc⟩
    go_simp
    obtain ⟨bv, I, ba, _⟩ := aX w1512 76 #[.string ⟨d9.s.toArray⟩, .int .i64 d9.r.lo.1, .int .i64 d9.r.lo.2, .int .i64 d9.r.hi.1, .int .i64 d9.r.hi.2]; have c0 := en.out.b9 ba; have g3 := fi.out.b9 ba; have em := hI (g0.out.belowW pzD pzD ba.out); have g4 := hI (Nat.le_trans g1.out ba.out.size); have ff := hI (show PzD (fun b => wr.heap.size ≤ b ∧ b < bv.heap.size) bv (dcN d9) from pzD.weaken (pzD.lt (pzD.mv g2.out (fun b hb e => by cases e) (grown_none (Nat.le_refl _) ba.out))) (fun b hb => ⟨hb.1.1, hb.2⟩)); have it := hI (show Blk bv w1512.heap.size 76 (DcN.cells (dcN d9)).toArray by rw [I]; exact Blk.new _ _ _); rw [← I]; clear I; clear hHeld
    refine hK.out _ _ (c0.out.cell 0) fun hHeld => ?_
    clear hK K
    try simp only [setIfInBounds_toArray, set_cons_zero, set_cons_succ]
    refine wr1 1 fun K hK => ?_
    obtain ⟨ah, ai, aj, ak, al, am, an, ao, ap, aq⟩ := g3.out.all5
    go_simp
    clear ah ai aj ak al am an ao ap aq; clear hHeld
    refine hK.out _ _ (c0.out.cell 0) fun hHeld => ?_
    clear hK K
    try simp only [setIfInBounds_toArray, set_cons_zero, set_cons_succ]
    refine wr1 5 fun K hK => ?_
    obtain ⟨N, O, P, Q, R⟩ := info_parts Tryz.infoDecl; have T : ∀ u ∈ DcN.cells (dcN d9), u.oneCell' = true := (by simp [DcN.cells, Value.oneCell'])
    refine if_wanted (by rfl) ?_
    refine oper_append_mk _ _ _ rfl (avd_ok pzD) DcN.len5 rfl em.out.b (show Avd (Own J) PzD _ _ _ from pzD.weaken ff.out (fun b hb => ⟨⟨by omega, hb.2, fun e => by have := b1 b e.symm; omega⟩, fun e => by have := b0 b e; omega⟩)) N _ 48 Tryz.underlying65 O P Q R rfl (by omega) (by omega) (by omega) w1512.heap.size _ rfl it.out T (Nat.le_trans cw g4.out) ?_
    intro v9 w1515 hmk hgr hob
    have U := hI hmk; have ad := hI hgr; have bi := hI hob; clear hmk hgr hob O P Q R N T; obtain ⟨l, o, V, _⟩ := U.out.lies (avd_ok pzD); obtain ⟨p, W⟩ := eX ((y ++ [dcN d9]).length); rw [← W] at V; clear W; subst V
    try simp only [Act.put, setIfInBounds_toArray]
    have dv := hI (env_row (gy.out.belowW ba.out) ad.out (fun b h => by have := z b h; omega)); have dw := hI (grown_row (grown_tr gz.out (grown_of (some g) ba.out)) ad.out (fun b h => by have := z b h; omega)); have b8 := hI (c0.out.grown ad.out (fun e => by have := z _ e.symm; omega)); have bl := hI (g3.out.grown ad.out (fun e => by have := z _ e.symm; omega)); clear hHeld
    refine hK.out _ _ (b8.out.cell 0) fun hHeld => ?_
    clear hK K
    try simp only [setIfInBounds_toArray, set_cons_zero, set_cons_succ]
    refine tkW 6 ?_
    refine wr1 7 fun K hK => ?_
    obtain ⟨ar, au, av, aw, ax, ay, az, a0, a1, a2⟩ := bl.out.all5
    go_simp
    rw [pst_5_1 bl.out]; clear ar au av aw ax ay az a0 a1 a2; have ca := hI (dv.out.far (r := j) (fun e => X.out (by rw [e])) (Nat.le_trans bb (Nat.le_of_lt ab)) 68 #[J, .slice l p o, .slice none 0 0, .int .i64 0, .int .i64 0]); have cb := hI (grown_new dw.out (Nat.le_of_lt ab) 68 #[J, .slice l p o, .slice none 0 0, .int .i64 0, .int .i64 0]); have bm := hI (b8.out.far (g' := j) (t' := 68) (by omega) #[J, .slice l p o, .slice none 0 0, .int .i64 0, .int .i64 0]); have cc := hI (((Mk2.pushed pzD em.out.swap U.out ad.out bi.out).swap).moved pzD pzD (.inr ⟨j, rfl, by omega⟩) (putB_grown w1515 j 68 #[J, .slice l p o, .slice none 0 0, .int .i64 0, .int .i64 0])); have dx := hI (show wr.heap.size ≤ (putB w1515 j 68 #[J, .slice l p o, .slice none 0 0, .int .i64 0, .int .i64 0]).heap.size by rw [putB_size]; exact (Nat.le_trans g4.out ad.out.size)); have cd := hI (bl.out.put #[J, .slice l p o, .slice none 0 0, .int .i64 0, .int .i64 0]); obtain ⟨gw, i⟩ := eX (putB w1515 (j) 68 #[J, .slice l p o, .slice none 0 0, .int .i64 0, .int .i64 0])
    try rw [← i] at ca
    try rw [← i] at cb
    try rw [← i] at bm
    try rw [← i] at cc
    try rw [← i] at dx
    try rw [← i] at cd
    rw [← i]; clear i hHeld
    refine hK.out _ _ (bm.out.cell 0) fun hHeld => ?_
    clear hK K
    try simp only [setIfInBounds_toArray, set_cons_zero, set_cons_succ]
    refine wpAnyH_done (by kernel_rfl) ?_ _
    go_wp2_with fail
    go_roundg fu
    case measure => omega
    case rel => exact ⟨k9, q, y ++ [dcN d9], J, .slice l p o, hI (by rw [fa.out, List.map_append]; rfl), by omega, by omega, by omega, by rw [List.length_append]; show y.length + 1 ≤ _; omega, ca, cb, bm, cd, cc⟩
   | false =>
    rw [hb63] at dp; have eo := hI (show RR = (modesP nameP ts (ts.length + 1) Z []).bind fun ms k12 => (wantP ts true kTime k12).bind fun _ k13 => (valP ts k13).bind fun tm k14 => (wantP ts false [59] k14).bind fun _ k15 => .ok ⟨q.map DcN.pl, y.map DcN.pl, ms, tm⟩ k15 by rw [HQ.out, declsP, ej, if_neg (by decide), hb63, if_neg (by decide)]; rfl); clear hb63
    go_wp2_with fail
    refine dp.out.mono ?_
    rintro e wa63 ⟨rfl, bu, cz⟩; simp only [Bool.false_eq_true, if_false] at cz; have dq := hI (dd.out.grown bu.out X.out); have dz := hI (cv.out.moved pzD pzD (.inr ⟨g, rfl, by omega⟩) (grown_tr de.out bu.out)); obtain ⟨C, D, E, F, iu, iv, g5, g6⟩ := dz.out.lies pzD pzD; obtain ⟨lo, g7⟩ := eX (wa63.heap.size); have j2 : j + 1 ≤ lo := (by rw [g7]; exact dq.out.lt); have fj := hI (g5.lt pzD); have fk := hI (g6.lt pzD); rw [← g7] at fj fk; clear g5 g6 dz cv b0 b1 ej; subst iu iv
    go_wp2_with fail
    go_loopg [] (ts.length + 1) (fun fu wr => ∃ (k6 : Nat) (ms : List MdN) (mv : Value), Hid (RR = (modesP nameP ts fu k6 (ms.map MdN.pl)).bind fun ms k12 => (wantP ts true kTime k12).bind fun _ k13 => (valP ts k13).bind fun tm k14 => (wantP ts false [59] k14).bind fun _ k15 => .ok ⟨q.map DcN.pl, y.map DcN.pl, ms, tm⟩ k15) ∧ k6 ≤ ts.length ∧ ts.length < fu + k6 ∧ ms.length ≤ k6 ∧ Hid (Env w0 g A len cap ts k6 0 wr) ∧ Hid (w.grownBy wr (some g)) ∧ Hid (Blk wr w.heap.size 68 #[.slice none 0 0, .slice none 0 0, .slice none 0 0, .int .i64 0, .int .i64 0]) ∧ Hid (Blk wr j 68 #[.slice C q.length D, .slice E y.length F, mv, .int .i64 0, .int .i64 0]) ∧ Hid (Mk 74 3 MdN.cells PzM lo wr mv ms) ∧ Hid (LiL 5 DcN.cells PzD (fun b => j + 1 ≤ b ∧ b < lo) wr C q.length D q) ∧ Hid (LiL 5 DcN.cells PzD (fun b => j + 1 ≤ b ∧ b < lo) wr E y.length F y) ∧ lo ≤ wr.heap.size)
    case atStart => exact ⟨Z, [], .slice none 0 0, eo, by omega, by omega, by simp, cz, (hI (grown_tr dc.out bu.out)), (hI (gp.out.grown bu.out a4.out)), dq, hI (Mk.nil _ _ _ _ _ _), fj, fk, by omega⟩
    clear fj fk; obtain ⟨k6, ms, mv, g8, j3, j4, j5, iw, g9, ha, fl, ep, hc, hd, c2⟩ := hrel
    cases gk with
    | zero => exfalso; omega
    | succ fu =>
     have he := hI (World.grownBy.refl wr (some g)); have j6 : j < wr.heap.size := fl.out.lt
     have d0 : ∀ kb, mv.ownBlock = some kb → lo ≤ kb ∧ kb < wr.heap.size := fun kb h => ep.out.own.lt kb h
     have d1 := hI (pAccept iw.out (by omega) ⟨#[109, 111, 100, 101]⟩); rw [show kwP (⟨#[109, 111, 100, 101]⟩ : ByteArray).data.toList = true by decide, show (⟨#[109, 111, 100, 101]⟩ : ByteArray).data.toList = kMode from rfl] at d1
     cases hb81 : isS true ts k6 kMode with
     | true =>
      have j7 := isS_lt hb81; rw [hb81] at d1; have b2 := hI (show RR = (modeP nameP ts (k6 + 1)).bind fun x k9 => (modesP nameP ts fu k9 (ms.map MdN.pl ++ [x])).bind fun ms k12 => (wantP ts true kTime k12).bind fun _ k13 => (valP ts k13).bind fun tm k14 => (wantP ts false [59] k14).bind fun _ k15 => .ok ⟨q.map DcN.pl, y.map DcN.pl, ms, tm⟩ k15 by rw [g8.out, modesP, hb81, if_pos rfl]; exact bind_assoc' _ _ _); clear hb81
      go_wp2_with fail
      refine d1.out.mono ?_
      rintro e wa81 ⟨rfl, bw, c3⟩; simp only [if_true] at c3; have d2 := hI (grown_tr g9.out bw.out); have hf := hI (fl.out.grown bw.out X.out); have ce := hI (grown_tr he.out bw.out); have df := hI (ep.out.moved pzM (.inr ⟨g, rfl, by omega⟩) ce.out)
      have z : ∀ b, mv.ownBlock = some b → lo ≤ b := fun b h => (d0 b h).1
      have ix := hI (hc.out.mv pzD (fun b hb e => by injection e with e; omega) ce.out); have iy := hI (hd.out.mv pzD (fun b hb e => by injection e with e; omega) ce.out)
      go_upto_region 7 with (fail)
      obtain ⟨ln, co, er, M⟩ | ⟨x, k9, M⟩ := pr_cases (mode_no (nm := nameP) (ts := ts) (k6 + 1))
      ·
       have HE := hI (show RR = .bad ln co er by rw [b2.out, M] <;> rfl); have H := hI (fun (w' : World) (h' : Env w0 g A len cap ts (k6 + 1) 0 w') => by have h9 := pMode h' (by omega) hR hX hD; rw [M] at h9; exact h9); clear M; have eq := hI (below_dr wa81); have hg := c3.out.b9 eq; have hh := hI (grown_tr d2.out (grown_of (some g) eq.out)); have hj := hf.out.b9 eq
       refine wp_region_held_drew (S := fun w' => cz5 w' j (.slice C q.length D) (.slice E y.length F) (mv) (.int .i64 0) (.int .i64 0)) (by kernel_rfl) hj.out.cz5 fun hHeld => ?_
       obtain ⟨iz, ag⟩ := eX (wa81.drew); rw [← ag] at eq hg hh hj hHeld ⊢; clear ag
       refine tkW 0 ?_
       refine tkW 1 ?_
       refine tkW 2 ?_
       refine wr1 3 fun K hK => ?_
       go_simp
       (with_reducible refine (H.out iz hg.out).mono ?_)
       rintro e w1862 ⟨rfl, bg⟩; clear hHeld
       go_wp2_with fail
       rw [HE.out]
       exact ⟨rfl, prp_bad (hI (grown_tr hh.out bg.out))⟩
      have i1 := (mode_fw (nm := nameP) (ts := ts) (k6 + 1)) _ _ M; have c4 := hI (show RR = (modesP nameP ts fu k9 (ms.map MdN.pl ++ [x])).bind fun ms k12 => (wantP ts true kTime k12).bind fun _ k13 => (valP ts k13).bind fun tm k14 => (wantP ts false [59] k14).bind fun _ k15 => .ok ⟨q.map DcN.pl, y.map DcN.pl, ms, tm⟩ k15 by rw [b2.out, M] <;> rfl); have H := hI (fun (w' : World) (h' : Env w0 g A len cap ts (k6 + 1) 0 w') => by have h9 := pMode h' (by omega) hR hX hD; rw [M] at h9; exact h9); clear M; have bx := hI (below_dr wa81); have fm := c3.out.b9 bx; have fn := hI (grown_tr d2.out (grown_of (some g) bx.out)); have d3 := hI ((ha.out.grown bw.out a4.out).belowW bx.out); have es := hf.out.b9 bx; have fo := hI (df.out.belowW pzM bx.out); have d4 := hI (Nat.le_trans (show wr.heap.size ≤ wa81.heap.size from ce.out.size) bx.out.size); have fp := hI (ix.out.mv pzD (fun b hb e => by cases e) (grown_none (Nat.le_refl _) bx.out)); have fq := hI (iy.out.mv pzD (fun b hb e => by cases e) (grown_none (Nat.le_refl _) bx.out))
      refine wp_region_held_drew (S := fun w' => w'.cell? ⟨w.heap.size, 0, none⟩ = some (.slice none 0 0)) (by kernel_rfl) (d3.out.cell 0) fun hHeld => ?_
      obtain ⟨hk, ag⟩ := eX (wa81.drew); rw [← ag] at bx fm fn d3 es fo d4 fp fq hHeld ⊢; clear ag
      refine tkW 0 ?_
      refine tkW 2 ?_
      refine wpAnyH_ready (rs := [1, 3]) (by kernel_rfl) (by simp) ?_
      refine (AllReadyH.cons rfl (fun K hK => ?_) (AllReadyH.cons rfl (fun K hK => ?_) AllReadyH.nil))
      ·
       obtain ⟨ah, ai, aj, ak, al, am, an, ao, ap, aq⟩ := es.out.all5
       go_simp
       clear ah ai aj ak al am an ao ap aq; clear hHeld
       refine hK.out _ _ (d3.out.cell 0) fun hHeld => ?_
       clear hK K
       try simp only [setIfInBounds_toArray, set_cons_zero, set_cons_succ]
       refine wr1 3 fun K hK => ?_
       go_simp
       (with_reducible refine (H.out hk fm.out).mono ?_)
       rintro e bz ⟨⟨G, rfl, d6, a8⟩, a3, bh⟩; have c6 := hI (d3.out.grown a3.out a4.out); have i2 := hI (fo.out.moved pzM (.inr ⟨g, rfl, by omega⟩) a3.out); have fr := hI (fp.out.mv pzD (fun b hb e => by injection e with e; omega) a3.out); have fs := hI (fq.out.mv pzD (fun b hb e => by injection e with e; omega) a3.out); have ft := hI (show PzM (fun b => wr.heap.size ≤ b ∧ b < bz.heap.size) bz (G) from pzM.weaken (pzM.lt a8.out) (fun b hb => ⟨Nat.le_trans d4.out hb.1, hb.2⟩)); have et := hI d6; clear d6
       go_wp2_with fail
       clear hHeld
       refine hK.out _ _ (c6.out.cell 0) fun hHeld => ?_
       clear hK K
       try simp only [setIfInBounds_toArray, set_cons_zero, set_cons_succ]
       refine wr1 4 fun K hK => ?_
       go_simp
       obtain ⟨ct, I, ae, _⟩ := aX bz 74 #[.string G.s, .slice G.A G.n G.c, .slice G.B G.m G.d]; have d7 := c6.out.b9 ae; have d8 := hI (Nat.le_trans (Nat.le_trans d4.out a3.out.size) ae.out.size); have fv := hI (fr.out.mv pzD (fun b hb e => by cases e) (grown_none (Nat.le_refl _) ae.out)); have fw := hI (fs.out.mv pzD (fun b hb e => by cases e) (grown_none (Nat.le_refl _) ae.out)); have fx := hI (show PzM (fun b => wr.heap.size ≤ b ∧ b < ct.heap.size) ct (G) from pzM.weaken (pzM.lt (pzM.mv ft.out (fun b hb e => by cases e) (grown_none (Nat.le_refl _) ae.out))) (fun b hb => ⟨hb.1.1, hb.2⟩)); have fy := hI (show Blk ct bz.heap.size 74 (MdN.cells (G)).toArray by rw [I]; exact Blk.new _ _ _); rw [← I]; clear I; clear hHeld
       refine hK.out _ _ (d7.out.cell 0) fun hHeld => ?_
       clear hK K
       try simp only [setIfInBounds_toArray, set_cons_zero, set_cons_succ]
       refine wr1 5 fun K hK => ?_
       obtain ⟨N, O, P, Q, R⟩ := info_parts Tryz.infoMode; have T : ∀ u ∈ MdN.cells (G), u.oneCell' = true := (by simp [MdN.cells, Value.oneCell'])
       refine if_wanted (by rfl) ?_
       refine oper_append_mk _ _ _ rfl pzM MdN.len3 rfl (i2.out.belowW pzM ae.out) (pzM.weaken fx.out (fun b hb => ⟨by omega, hb.2, fun e => by have := d0 b e.symm; omega⟩)) N _ 64 Tryz.underlying66 O P Q R rfl (by omega) (by omega) (by omega) bz.heap.size _ rfl fy.out T (Nat.le_trans c2 d8.out) ?_
       intro v9 w1875 hmk hgr hob
       have U := hI hmk; have Y := hI hgr; clear hmk hgr hob O P Q R N T; obtain ⟨l, o, V, _⟩ := U.out.lies pzM; obtain ⟨p, W⟩ := eX ((ms ++ [G]).length); rw [← W] at V; clear W; subst V
       try simp only [Act.put, setIfInBounds_toArray]
       have ea := hI (env_row ((bh.out).belowW ae.out) Y.out (fun b h => by have := z b h; omega)); have eb := hI (grown_row (grown_tr (grown_tr fn.out a3.out) (grown_of (some g) ae.out)) Y.out (fun b h => by have := z b h; omega)); have cf := hI (d7.out.grown Y.out (fun e => by have := z _ e.symm; omega)); have bn := hI (((es.out.grown a3.out X.out).belowW ae.out).grown Y.out (fun e => by have := z _ e.symm; omega)); have ec := hI (fv.out.mv pzD (fun b hb e => by have := z b e.symm; omega) Y.out); have ed := hI (fw.out.mv pzD (fun b hb e => by have := z b e.symm; omega) Y.out); clear hHeld
       refine hK.out _ _ (cf.out.cell 0) fun hHeld => ?_
       clear hK K
       try simp only [setIfInBounds_toArray, set_cons_zero, set_cons_succ]
       refine tkW 6 ?_
       refine wr1 7 fun K hK => ?_
       obtain ⟨ar, au, av, aw, ax, ay, az, a0, a1, a2⟩ := bn.out.all5
       go_simp
       rw [pst_5_2 bn.out]; clear ar au av aw ax ay az a0 a1 a2; have cg := hI (ea.out.far (r := j) (fun e => X.out (by rw [e])) (Nat.le_trans bb (Nat.le_of_lt ab)) 68 #[.slice C q.length D, .slice E y.length F, .slice l p o, .int .i64 0, .int .i64 0]); have ch := hI (grown_new eb.out (Nat.le_of_lt ab) 68 #[.slice C q.length D, .slice E y.length F, .slice l p o, .int .i64 0, .int .i64 0]); have bo := hI (cf.out.far (g' := j) (t' := 68) (by omega) #[.slice C q.length D, .slice E y.length F, .slice l p o, .int .i64 0, .int .i64 0]); have ci := hI ((U.out).moved pzM (.inr ⟨j, rfl, by omega⟩) (putB_grown w1875 j 68 #[.slice C q.length D, .slice E y.length F, .slice l p o, .int .i64 0, .int .i64 0])); have cj := hI (show wr.heap.size ≤ (putB w1875 j 68 #[.slice C q.length D, .slice E y.length F, .slice l p o, .int .i64 0, .int .i64 0]).heap.size by rw [putB_size]; exact (Nat.le_trans d8.out Y.out.size)); have ck := hI (ec.out.mv pzD (r := some j) (fun b hb e => by injection e with e; omega) (putB_grown w1875 j 68 #[.slice C q.length D, .slice E y.length F, .slice l p o, .int .i64 0, .int .i64 0])); have cl := hI (ed.out.mv pzD (r := some j) (fun b hb e => by injection e with e; omega) (putB_grown w1875 j 68 #[.slice C q.length D, .slice E y.length F, .slice l p o, .int .i64 0, .int .i64 0])); have cm := hI (bn.out.put #[.slice C q.length D, .slice E y.length F, .slice l p o, .int .i64 0, .int .i64 0]); obtain ⟨hm, i⟩ := eX (putB w1875 (j) 68 #[.slice C q.length D, .slice E y.length F, .slice l p o, .int .i64 0, .int .i64 0])
       try rw [← i] at cg
       try rw [← i] at ch
       try rw [← i] at bo
       try rw [← i] at ci
       try rw [← i] at cj
       try rw [← i] at ck
       try rw [← i] at cl
       try rw [← i] at cm
       rw [← i]; clear i hHeld
       refine hK.out _ _ (bo.out.cell 0) fun hHeld => ?_
       clear hK K
       try simp only [setIfInBounds_toArray, set_cons_zero, set_cons_succ]
       refine wpAnyH_done (by kernel_rfl) ?_ _
       go_wp2_with fail
       go_roundg fu
       case measure => omega
       case rel => exact ⟨k9, ms ++ [G], .slice l p o, hI (by rw [c4.out, List.map_append, ← et.out]; rfl), by omega, by omega, by rw [List.length_append]; show ms.length + 1 ≤ _; omega, cg, ch, bo, cm, ci, ck, cl, Nat.le_trans c2 cj.out⟩
      go_simp
      (with_reducible refine (H.out hk fm.out).mono ?_)
      rintro e w1872 ⟨⟨G, rfl, d6, a8⟩, cu, bh⟩; have ho := hI (bh.out); have hp := hI (grown_tr fn.out cu.out); have eu := hI (d3.out.grown cu.out a4.out); have fz := hI (es.out.grown cu.out X.out); have hq := hI (fo.out.moved pzM (.inr ⟨g, rfl, by omega⟩) cu.out); have hr := hI (Nat.le_trans d4.out cu.out.size); have ht := hI (fp.out.mv pzD (fun b hb e => by injection e with e; omega) cu.out); have hu := hI (fq.out.mv pzD (fun b hb e => by injection e with e; omega) cu.out); have hv := hI (show PzM (fun b => wr.heap.size ≤ b ∧ b < w1872.heap.size) w1872 (G) from pzM.weaken (pzM.lt a8.out) (fun b hb => ⟨Nat.le_trans d4.out hb.1, hb.2⟩)); have et := hI d6; clear d6
      go_wp2_with fail
      clear hHeld
      refine hK.out _ _ (eu.out.cell 0) fun hHeld => ?_
      clear hK K
      try simp only [setIfInBounds_toArray, set_cons_zero, set_cons_succ]
      refine wpAnyH_ready (rs := [1, 4]) (by kernel_rfl) (by simp) ?_
      refine (AllReadyH.cons rfl (fun K hK => ?_) (AllReadyH.cons rfl (fun K hK => ?_) AllReadyH.nil))
      ·
       obtain ⟨ah, ai, aj, ak, al, am, an, ao, ap, aq⟩ := fz.out.all5
       go_simp
       clear ah ai aj ak al am an ao ap aq; clear hHeld
       refine hK.out _ _ (eu.out.cell 0) fun hHeld => ?_
       clear hK K
       try simp only [setIfInBounds_toArray, set_cons_zero, set_cons_succ]
       refine wr1 4 fun K hK => ?_
       go_simp
       obtain ⟨ct, I, ae, _⟩ := aX w1872 74 #[.string G.s, .slice G.A G.n G.c, .slice G.B G.m G.d]; have d7 := eu.out.b9 ae; have d8 := hI (Nat.le_trans hr.out ae.out.size); have fv := hI (ht.out.mv pzD (fun b hb e => by cases e) (grown_none (Nat.le_refl _) ae.out)); have fw := hI (hu.out.mv pzD (fun b hb e => by cases e) (grown_none (Nat.le_refl _) ae.out)); have fx := hI (show PzM (fun b => wr.heap.size ≤ b ∧ b < ct.heap.size) ct (G) from pzM.weaken (pzM.lt (pzM.mv hv.out (fun b hb e => by cases e) (grown_none (Nat.le_refl _) ae.out))) (fun b hb => ⟨hb.1.1, hb.2⟩)); have fy := hI (show Blk ct w1872.heap.size 74 (MdN.cells (G)).toArray by rw [I]; exact Blk.new _ _ _); rw [← I]; clear I; clear hHeld
       refine hK.out _ _ (d7.out.cell 0) fun hHeld => ?_
       clear hK K
       try simp only [setIfInBounds_toArray, set_cons_zero, set_cons_succ]
       refine wr1 5 fun K hK => ?_
       obtain ⟨N, O, P, Q, R⟩ := info_parts Tryz.infoMode; have T : ∀ u ∈ MdN.cells (G), u.oneCell' = true := (by simp [MdN.cells, Value.oneCell'])
       refine if_wanted (by rfl) ?_
       refine oper_append_mk _ _ _ rfl pzM MdN.len3 rfl (hq.out.belowW pzM ae.out) (pzM.weaken fx.out (fun b hb => ⟨by omega, hb.2, fun e => by have := d0 b e.symm; omega⟩)) N _ 64 Tryz.underlying66 O P Q R rfl (by omega) (by omega) (by omega) w1872.heap.size _ rfl fy.out T (Nat.le_trans c2 d8.out) ?_
       intro v9 w1875 hmk hgr hob
       have U := hI hmk; have Y := hI hgr; clear hmk hgr hob O P Q R N T; obtain ⟨l, o, V, _⟩ := U.out.lies pzM; obtain ⟨p, W⟩ := eX ((ms ++ [G]).length); rw [← W] at V; clear W; subst V
       try simp only [Act.put, setIfInBounds_toArray]
       have ea := hI (env_row (ho.out.belowW ae.out) Y.out (fun b h => by have := z b h; omega)); have eb := hI (grown_row (grown_tr hp.out (grown_of (some g) ae.out)) Y.out (fun b h => by have := z b h; omega)); have cf := hI (d7.out.grown Y.out (fun e => by have := z _ e.symm; omega)); have bn := hI ((fz.out.belowW ae.out).grown Y.out (fun e => by have := z _ e.symm; omega)); have ec := hI (fv.out.mv pzD (fun b hb e => by have := z b e.symm; omega) Y.out); have ed := hI (fw.out.mv pzD (fun b hb e => by have := z b e.symm; omega) Y.out); clear hHeld
       refine hK.out _ _ (cf.out.cell 0) fun hHeld => ?_
       clear hK K
       try simp only [setIfInBounds_toArray, set_cons_zero, set_cons_succ]
       refine tkW 6 ?_
       refine wr1 7 fun K hK => ?_
       obtain ⟨ar, au, av, aw, ax, ay, az, a0, a1, a2⟩ := bn.out.all5
       go_simp
       rw [pst_5_2 bn.out]; clear ar au av aw ax ay az a0 a1 a2; have cg := hI (ea.out.far (r := j) (fun e => X.out (by rw [e])) (Nat.le_trans bb (Nat.le_of_lt ab)) 68 #[.slice C q.length D, .slice E y.length F, .slice l p o, .int .i64 0, .int .i64 0]); have ch := hI (grown_new eb.out (Nat.le_of_lt ab) 68 #[.slice C q.length D, .slice E y.length F, .slice l p o, .int .i64 0, .int .i64 0]); have bo := hI (cf.out.far (g' := j) (t' := 68) (by omega) #[.slice C q.length D, .slice E y.length F, .slice l p o, .int .i64 0, .int .i64 0]); have ci := hI ((U.out).moved pzM (.inr ⟨j, rfl, by omega⟩) (putB_grown w1875 j 68 #[.slice C q.length D, .slice E y.length F, .slice l p o, .int .i64 0, .int .i64 0])); have cj := hI (show wr.heap.size ≤ (putB w1875 j 68 #[.slice C q.length D, .slice E y.length F, .slice l p o, .int .i64 0, .int .i64 0]).heap.size by rw [putB_size]; exact (Nat.le_trans d8.out Y.out.size)); have ck := hI (ec.out.mv pzD (r := some j) (fun b hb e => by injection e with e; omega) (putB_grown w1875 j 68 #[.slice C q.length D, .slice E y.length F, .slice l p o, .int .i64 0, .int .i64 0])); have cl := hI (ed.out.mv pzD (r := some j) (fun b hb e => by injection e with e; omega) (putB_grown w1875 j 68 #[.slice C q.length D, .slice E y.length F, .slice l p o, .int .i64 0, .int .i64 0])); have cm := hI (bn.out.put #[.slice C q.length D, .slice E y.length F, .slice l p o, .int .i64 0, .int .i64 0]); obtain ⟨hm, i⟩ := eX (putB w1875 (j) 68 #[.slice C q.length D, .slice E y.length F, .slice l p o, .int .i64 0, .int .i64 0])
       try rw [← i] at cg
       try rw [← i] at ch
       try rw [← i] at bo
       try rw [← i] at ci
       try rw [← i] at cj
       try rw [← i] at ck
       try rw [← i] at cl
       try rw [← i] at cm
       rw [← i]; clear i hHeld
       refine hK.out _ _ (bo.out.cell 0) fun hHeld => ?_
       clear hK K
       try simp only [setIfInBounds_toArray, set_cons_zero, set_cons_succ]
       refine wpAnyH_done (by kernel_rfl) ?_ _
       go_wp2_with fail
       go_roundg fu
       case measure => omega
       case rel => exact ⟨k9, ms ++ [G], .slice l p o, hI (by rw [c4.out, List.map_append, ← et.out]; rfl), by omega, by omega, by rw [List.length_append]; show ms.length + 1 ≤ _; omega, cg, ch, bo, cm, ci, ck, cl, Nat.le_trans c2 cj.out⟩
      go_simp
      obtain ⟨bz, I, a3, _⟩ := aX w1872 74 #[.string G.s, .slice G.A G.n G.c, .slice G.B G.m G.d]; have c6 := eu.out.b9 a3; have hy := fz.out.b9 a3; have hz := hI (Nat.le_trans hr.out a3.out.size); have fr := hI (ht.out.mv pzD (fun b hb e => by cases e) (grown_none (Nat.le_refl _) a3.out)); have fs := hI (hu.out.mv pzD (fun b hb e => by cases e) (grown_none (Nat.le_refl _) a3.out)); have ft := hI (show PzM (fun b => wr.heap.size ≤ b ∧ b < bz.heap.size) bz (G) from pzM.weaken (pzM.lt (pzM.mv hv.out (fun b hb e => by cases e) (grown_none (Nat.le_refl _) a3.out))) (fun b hb => ⟨hb.1.1, hb.2⟩)); have i3 := hI (show Blk bz w1872.heap.size 74 (MdN.cells (G)).toArray by rw [I]; exact Blk.new _ _ _); rw [← I]; clear I; clear hHeld
      refine hK.out _ _ (c6.out.cell 0) fun hHeld => ?_
      clear hK K
      try simp only [setIfInBounds_toArray, set_cons_zero, set_cons_succ]
      refine wr1 1 fun K hK => ?_
      obtain ⟨ah, ai, aj, ak, al, am, an, ao, ap, aq⟩ := hy.out.all5
      go_simp
      clear ah ai aj ak al am an ao ap aq; clear hHeld
      refine hK.out _ _ (c6.out.cell 0) fun hHeld => ?_
      clear hK K
      try simp only [setIfInBounds_toArray, set_cons_zero, set_cons_succ]
      refine wr1 5 fun K hK => ?_
      obtain ⟨N, O, P, Q, R⟩ := info_parts Tryz.infoMode; have T : ∀ u ∈ MdN.cells (G), u.oneCell' = true := (by simp [MdN.cells, Value.oneCell'])
      refine if_wanted (by rfl) ?_
      refine oper_append_mk _ _ _ rfl pzM MdN.len3 rfl (hq.out.belowW pzM a3.out) (pzM.weaken ft.out (fun b hb => ⟨by omega, hb.2, fun e => by have := d0 b e.symm; omega⟩)) N _ 64 Tryz.underlying66 O P Q R rfl (by omega) (by omega) (by omega) w1872.heap.size _ rfl i3.out T (Nat.le_trans c2 hz.out) ?_
      intro v9 w1875 hmk hgr hob
      have U := hI hmk; have Y := hI hgr; clear hmk hgr hob O P Q R N T; obtain ⟨l, o, V, _⟩ := U.out.lies pzM; obtain ⟨p, W⟩ := eX ((ms ++ [G]).length); rw [← W] at V; clear W; subst V
      try simp only [Act.put, setIfInBounds_toArray]
      have ea := hI (env_row (ho.out.belowW a3.out) Y.out (fun b h => by have := z b h; omega)); have eb := hI (grown_row (grown_tr hp.out (grown_of (some g) a3.out)) Y.out (fun b h => by have := z b h; omega)); have cf := hI (c6.out.grown Y.out (fun e => by have := z _ e.symm; omega)); have bn := hI (hy.out.grown Y.out (fun e => by have := z _ e.symm; omega)); have ec := hI (fr.out.mv pzD (fun b hb e => by have := z b e.symm; omega) Y.out); have ed := hI (fs.out.mv pzD (fun b hb e => by have := z b e.symm; omega) Y.out); clear hHeld
      refine hK.out _ _ (cf.out.cell 0) fun hHeld => ?_
      clear hK K
      try simp only [setIfInBounds_toArray, set_cons_zero, set_cons_succ]
      refine tkW 6 ?_
      refine wr1 7 fun K hK => ?_
      obtain ⟨ar, au, av, aw, ax, ay, az, a0, a1, a2⟩ := bn.out.all5
      go_simp
      rw [pst_5_2 bn.out]; clear ar au av aw ax ay az a0 a1 a2; have cg := hI (ea.out.far (r := j) (fun e => X.out (by rw [e])) (Nat.le_trans bb (Nat.le_of_lt ab)) 68 #[.slice C q.length D, .slice E y.length F, .slice l p o, .int .i64 0, .int .i64 0]); have ch := hI (grown_new eb.out (Nat.le_of_lt ab) 68 #[.slice C q.length D, .slice E y.length F, .slice l p o, .int .i64 0, .int .i64 0]); have bo := hI (cf.out.far (g' := j) (t' := 68) (by omega) #[.slice C q.length D, .slice E y.length F, .slice l p o, .int .i64 0, .int .i64 0]); have ci := hI ((U.out).moved pzM (.inr ⟨j, rfl, by omega⟩) (putB_grown w1875 j 68 #[.slice C q.length D, .slice E y.length F, .slice l p o, .int .i64 0, .int .i64 0])); have cj := hI (show wr.heap.size ≤ (putB w1875 j 68 #[.slice C q.length D, .slice E y.length F, .slice l p o, .int .i64 0, .int .i64 0]).heap.size by rw [putB_size]; exact (Nat.le_trans hz.out Y.out.size)); have ck := hI (ec.out.mv pzD (r := some j) (fun b hb e => by injection e with e; omega) (putB_grown w1875 j 68 #[.slice C q.length D, .slice E y.length F, .slice l p o, .int .i64 0, .int .i64 0])); have cl := hI (ed.out.mv pzD (r := some j) (fun b hb e => by injection e with e; omega) (putB_grown w1875 j 68 #[.slice C q.length D, .slice E y.length F, .slice l p o, .int .i64 0, .int .i64 0])); have cm := hI (bn.out.put #[.slice C q.length D, .slice E y.length F, .slice l p o, .int .i64 0, .int .i64 0]); obtain ⟨hm, i⟩ := eX (putB w1875 (j) 68 #[.slice C q.length D, .slice E y.length F, .slice l p o, .int .i64 0, .int .i64 0])
      try rw [← i] at cg
      try rw [← i] at ch
      try rw [← i] at bo
      try rw [← i] at ci
      try rw [← i] at cj
      try rw [← i] at ck
      try rw [← i] at cl
      try rw [← i] at cm
      rw [← i]; clear i hHeld
      refine hK.out _ _ (bo.out.cell 0) fun hHeld => ?_
      clear hK K
      try simp only [setIfInBounds_toArray, set_cons_zero, set_cons_succ]
      refine wpAnyH_done (by kernel_rfl) ?_ _
      go_wp2_with fail
      go_roundg fu
      case measure => omega
      case rel => exact ⟨k9, ms ++ [G], .slice l p o, hI (by rw [c4.out, List.map_append, ← et.out]; rfl), by omega, by omega, by rw [List.length_append]; show ms.length + 1 ≤ _; omega, cg, ch, bo, cm, ci, ck, cl, Nat.le_trans c2 cj.out⟩
     | false =>
      rw [hb81] at d1; have eo := hI (show RR = (wantP ts true kTime k6).bind fun _ k13 => (valP ts k13).bind fun tm k14 => (wantP ts false [59] k14).bind fun _ k15 => .ok ⟨q.map DcN.pl, y.map DcN.pl, ms.map MdN.pl, tm⟩ k15 by rw [g8.out, modesP, hb81, if_neg (by decide)]; rfl); clear hb81
      go_wp2_with fail
      refine d1.out.mono ?_
      rintro e wa81 ⟨rfl, bw, c3⟩; simp only [Bool.false_eq_true, if_false] at c3; have d2 := hI (grown_tr g9.out bw.out); have ce := hI (grown_tr he.out bw.out); have dz := hI (ep.out.moved pzM (.inr ⟨g, rfl, by omega⟩) ce.out); obtain ⟨C5, e5, i4, h0⟩ := dz.out.lies pzM; have i5 := hI h0; have i6 := hI (hc.out.mv pzD (fun b hb e => by injection e with e; omega) ce.out); have i7 := hI (hd.out.mv pzD (fun b hb e => by injection e with e; omega) ce.out); clear h0 dz ep d0; subst i4; have H := hI (pWant c3.out (by omega) kTime true (by decide))
      cases hn83 : wantP ts true kTime k6 with
      | out =>
       rw [hn83] at H; clear hn83
       go_wp2_with fail
       refine H.out.mono ?_
       rintro e w9 hx
       exact hx.elim
      | bad ln co er =>
       rw [hn83] at H; have HE := hI (show RR = .bad ln co er by rw [eo.out, hn83] <;> rfl); clear hn83
       go_wp2_with fail
       refine H.out.mono ?_
       rintro e w9 ⟨rfl, bg⟩
       go_wp2_with fail
       rw [HE.out]
       exact ⟨rfl, prp_bad (hI (grown_tr d2.out bg.out))⟩
      | ok u3 k13 =>
       rw [hn83] at H; have i1 := (want_fw (ts := ts) true kTime k6) _ _ hn83; have c4 := hI (show RR = (valP ts k13).bind fun tm k14 => (wantP ts false [59] k14).bind fun _ k15 => .ok ⟨q.map DcN.pl, y.map DcN.pl, ms.map MdN.pl, tm⟩ k15 by rw [eo.out, hn83] <;> rfl); clear hn83
       go_wp2_with fail
       refine H.out.mono ?_
       rintro e wq83 ⟨hx, c7, i8⟩
       cases hx
       have h1 := hI (grown_tr d2.out c7.out); have i9 := hI (i6.out.mv pzD (fun b hb e => by injection e with e; omega) c7.out); have ja := hI (i7.out.mv pzD (fun b hb e => by injection e with e; omega) c7.out); have jb := hI (i5.out.mv pzM (fun b hb e => by injection e with e; omega) c7.out); have H := hI (pValue i8.out (by omega) hR)
       cases hn84 : valP ts k13 with
       | out =>
        rw [hn84] at H; clear hn84
        go_wp2_with fail
        refine H.out.mono ?_
        rintro e w9 hx
        exact hx.elim
       | bad ln co er =>
        rw [hn84] at H; have HE := hI (show RR = .bad ln co er by rw [c4.out, hn84] <;> rfl); clear hn84
        go_wp2_with fail
        refine H.out.mono ?_
        rintro e w9 ⟨rfl, bg⟩
        go_wp2_with fail
        rw [HE.out]
        exact ⟨rfl, prp_bad (hI (grown_tr h1.out bg.out))⟩
       | ok tm k14 =>
        rw [hn84] at H; have j8 := (val_fw (ts := ts) k13) _ _ hn84; have h2 := hI (show RR = (wantP ts false [59] k14).bind fun _ k15 => .ok ⟨q.map DcN.pl, y.map DcN.pl, ms.map MdN.pl, tm⟩ k15 by rw [c4.out, hn84] <;> rfl); obtain ⟨j9, ka, kc, kd⟩ := val_sm ts k13 tm k14 hn84; clear hn84
        go_wp2_with fail
        refine H.out.mono ?_
        rintro e wq84 ⟨hx, c8, jc⟩
        cases hx
        have f0 := hI (((fl.out.grown bw.out X.out).grown c7.out X.out).grown c8.out X.out); have jd := hI (i9.out.mv pzD (fun b hb e => by injection e with e; omega) c8.out); have je := hI (ja.out.mv pzD (fun b hb e => by injection e with e; omega) c8.out); have jf := hI (jb.out.mv pzM (fun b hb e => by injection e with e; omega) c8.out); obtain ⟨h3, h4, h5, h6, h7, h8, ia, ib, ic, id⟩ := f0.out.all5
        go_upto_region 10 with (fail)
        rw [pst34 f0.out]; have ie := hI (f0.out.put #[.slice C q.length D, .slice E y.length F, .slice C5 ms.length e5, .int .i64 tm.1, .int .i64 tm.2]); have f1 := hI (grown_new (grown_tr h1.out c8.out) (Nat.le_of_lt ab) 68 #[.slice C q.length D, .slice E y.length F, .slice C5 ms.length e5, .int .i64 tm.1, .int .i64 tm.2]); have ig := hI (jc.out.far (r := j) (fun e => X.out (by rw [e])) (Nat.le_trans bb (Nat.le_of_lt ab)) 68 #[.slice C q.length D, .slice E y.length F, .slice C5 ms.length e5, .int .i64 tm.1, .int .i64 tm.2]); have ii := hI ((((ha.out.grown bw.out a4.out).grown c7.out a4.out).grown c8.out a4.out).far (g' := j) (t' := 68) (by omega) #[.slice C q.length D, .slice E y.length F, .slice C5 ms.length e5, .int .i64 tm.1, .int .i64 tm.2]); have ij := hI (jd.out.mv pzD (r := some j) (fun b hb e => by injection e with e; omega) (putB_grown wq84 j 68 #[.slice C q.length D, .slice E y.length F, .slice C5 ms.length e5, .int .i64 tm.1, .int .i64 tm.2])); have ik := hI (je.out.mv pzD (r := some j) (fun b hb e => by injection e with e; omega) (putB_grown wq84 j 68 #[.slice C q.length D, .slice E y.length F, .slice C5 ms.length e5, .int .i64 tm.1, .int .i64 tm.2])); have il := hI (jf.out.mv pzM (r := some j) (fun b hb e => by injection e with e; omega) (putB_grown wq84 j 68 #[.slice C q.length D, .slice E y.length F, .slice C5 ms.length e5, .int .i64 tm.1, .int .i64 tm.2])); obtain ⟨jg, i⟩ := eX (putB wq84 j 68 #[.slice C q.length D, .slice E y.length F, .slice C5 ms.length e5, .int .i64 tm.1, .int .i64 tm.2]); have ke : wq84.heap.size ≤ jg.heap.size := (by rw [i, putB_size]; exact Nat.le_refl _); rw [← i] at f1 ig ii ie ij ik il ⊢; clear i h3 h4 h5 h6 h7 h8 ia ib ic id; have H := hI (pWant ig.out (by omega) [59] false (by decide))
        cases hn86 : wantP ts false [59] k14 with
        | out =>
         rw [hn86] at H; clear hn86
         go_wp2_with fail
         refine H.out.mono ?_
         rintro e w9 hx
         exact hx.elim
        | bad ln co er =>
         rw [hn86] at H; have HE := hI (show RR = .bad ln co er by rw [h2.out, hn86] <;> rfl); clear hn86
         go_wp2_with fail
         refine H.out.mono ?_
         rintro e w9 ⟨rfl, bg⟩
         go_wp2_with fail
         rw [HE.out]
         exact ⟨rfl, prp_bad (hI (grown_tr f1.out bg.out))⟩
        | ok u5 k15 =>
         rw [hn86] at H; have kf := (want_fw (ts := ts) false [59] k14) _ _ hn86; have jh := hI (show RR = .ok ⟨q.map DcN.pl, y.map DcN.pl, ms.map MdN.pl, tm⟩ k15 by rw [h2.out, hn86] <;> rfl); clear hn86
         go_wp2_with fail
         refine H.out.mono ?_
         rintro e wq86 ⟨hx, da, ji⟩
         cases hx
         have f2 := hI (ii.out.grown da.out a4.out); have jj := hI (ij.out.mv pzD (fun b hb e => by injection e with e; omega) da.out); have jk := hI (ik.out.mv pzD (fun b hb e => by injection e with e; omega) da.out); have jl := hI (il.out.mv pzM (fun b hb e => by injection e with e; omega) da.out); obtain ⟨kg, kh, ki, kj, kk, kl, km, kn, ko, kp⟩ := f2.out.all5; obtain ⟨h3, h4, h5, h6, h7, h8, ia, ib, ic, id⟩ := (ie.out.grown da.out X.out).all5
         go_wp2_with fail
         rw [pst5 f2.out]; obtain ⟨z0, _, z1, _, z2, _, z3, _, z4, _⟩ := (f2.out.put #[.slice C q.length D, .slice E y.length F, .slice C5 ms.length e5, .int .i64 tm.1, .int .i64 tm.2]).all5
         refine bodyPost_ret (v := .agg #[.slice C q.length D, .slice E y.length F, .slice C5 ms.length e5, .int .i64 tm.1, .int .i64 tm.2]) (by simp [results, Tryz.results69, go_sem, z0, z1, z2, z3, z4]) rfl ?_
         rw [jh.out]
         exact ⟨⟨⟨C, q.length, D, q, E, y.length, F, y, C5, ms.length, e5, ms, tm.1, tm.2⟩, rfl, rfl, hI ⟨((jj.out.mv pzD (r := some w.heap.size) (fun b hb e => by injection e with e; omega) (putB_grown _ _ _ _)).weaken pzD (fun b hb => by omega)), ((jk.out.mv pzD (r := some w.heap.size) (fun b hb e => by injection e with e; omega) (putB_grown _ _ _ _)).weaken pzD (fun b hb => by omega)), ((jl.out.mv pzM (r := some w.heap.size) (fun b hb e => by injection e with e; omega) (putB_grown _ _ _ _)).weaken pzM (fun b hb => by omega)), by show _ ≤ tm.1; omega, by show tm.1 ≤ _; omega, by show _ ≤ tm.2; omega, by show tm.2 ≤ _; omega⟩⟩, hI (grown_new (grown_tr f1.out da.out) (Nat.le_refl _) _ _), hI (ji.out.far io bb _ _)⟩
end Go.Proofs.YtkjoohnndobjeaaGreatDoor
