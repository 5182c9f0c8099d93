/-
  The walk of the program's text of an expression, kind by kind.
-/
import Derived.Test.YtkjoohnndobjeaaGreatDoorFmM
import Derived.Test.YtkjoohnndobjeaaGreatDoorQH
set_option linter.unusedVariables false
set_option maxHeartbeats 8000000
set_option maxRecDepth 100000
namespace Go.Proofs.YtkjoohnndobjeaaGreatDoor
open Go.RowKit Go.Fl Go.Fl.Nm Go.Fl.Fm Go.Fl.Rt
open List renaming setIfInBounds_toArray → qa, set_cons_zero → qb, set_cons_succ → qc, getElem_toArray → qd, getElem_cons_zero → qe, getElem_cons_succ → qf

theorem expr_k6 (f : Nat) (ih : ExprAt f) (T : TE) (v : Nd) (w : World) (hin : InE w T v) (hg : good nameP (f + 1) T) (hl : (txt (f + 1) T).length ≤ 20000) (ht : RB w) (hk : v.h.kind = 6) :
 Calls Tryz.prog 55 #[v.val] w (StrP (txt (f + 1) T) w) := by
 have de := hg.1
 rw [hin.hd, hin.length] at de
 have cr : v.len = 2 := by rcases node_kinds de with h | h | h | h | h | h <;> omega
 have dw : T.l.length = 2 := by rw [hin.length]; exact cr
 obtain ⟨T1, T2, hT⟩ := list2 dw
 have dx : T.a = T1 := by unfold TE.a; rw [hT]; rfl
 have dy : T.b = T2 := by unfold TE.b; rw [hT]; rfl
 have dz : good nameP f T.a := hg.2 _ (by rw [dx, hT]; exact List.mem_cons_self ..)
 have d0 : good nameP f T.b := hg.2 _ (by rw [dy, hT]; exact List.mem_cons_of_mem _ (List.mem_cons_self ..))
 have cs := hI dz
 have ct := hI d0
 have HT := hI ht
 have IH := hI ih
 have d1 : T.h.kind = 6 := by rw [hin.hd]; exact hk
 obtain ⟨b, o, x, y, hA, hx, hy, ex, ey⟩ := hin.two cr
 have d5 : T.a.h = x.h := hx.hd
 have d6 : T.b.h = y.h := hy.hd
 have ay := hI (show txt (f + 1) T = par (need1 6 x.h y.h) (txt f T.a) ++ ([32, 47, 32] ++ par (need2 6 y.h) (txt f T.b)) by
  show (if _ then _ else _) = _
  rw [d1, if_neg (by decide), if_neg (by decide), if_pos (by decide), d5, d6]
  rfl)
 have HX := hI hx
 have HY := hI hy
 have EX := hI ex
 have EY := hI ey
 obtain ⟨la, cu⟩ := eX (txt f T.a)
 obtain ⟨lb, cv⟩ := eX (txt f T.b)
 obtain ⟨M, dh⟩ := eX (need1 6 x.h y.h)
 obtain ⟨nb, di⟩ := eX (need2 6 y.h)
 obtain ⟨L, hL⟩ := eX (txt (f + 1) T)
 rw [← cu, ← cv, ← dh, ← di, ← hL] at ay
 rw [← hL] at hl ⊢
 have el : (par M la).length + 3 + (par nb lb).length ≤ 20000 := by
  have h := congrArg List.length ay.out; rw [List.length_append, List.length_append] at h; simp only [List.length_cons, List.length_nil] at h
  omega
 have em := (par_len M la).1
 have cw := (par_len nb lb).1
 have c1 : ¬ (9223372036854775807 < (par M la).length + 3) := by omega
 have c2 : ¬ (9223372036854775807 < (par M la).length + 3 + (par nb lb).length) := by omega
 have cy := hI (show (txt f T.a).length ≤ 20000 by rw [← cu]; omega)
 have cz := hI (show (txt f T.b).length ≤ 20000 by rw [← cv]; omega)
 have cc := hI dh
 have c6 := hI di
 have a6 := hI cu
 have a7 := hI cv
 clear cu cv dh di hL hin hg hl ht ih hx hy ex ey dz d0 hT dx dy dw de d1 d5 d6
 obtain ⟨⟨kd, n, d, nm, k⟩, A, ep, d7⟩ := v
 simp only at hk hA cr
 subst hk hA cr
 simp only [Nd.val]
 go_enter Tryz.func55, Tryz.ntmps55
 go_upto_region 1 with (fail)
 obtain ⟨w1, c, b5, dk⟩ := aX w 29 #[.int .i64 6, .int .i64 n, .int .i64 d, .string nm, .int .i64 k, .slice (some ⟨b, o, none⟩) 2 d7]
 rw [← c]
 clear c
 have g : w1.cell? ⟨w.heap.size, 0, none⟩ = some (.int .i64 6) := dk.out.cell 0
 go_upto_region 14 with (fail)
 clear g
 go_cut [4, 5] (fun p4 p5 wx => ∃ ga gb : Nat, p4 = .pointer (some ⟨ga, 0, none⟩) ∧ p5 = .pointer (some ⟨gb, 0, none⟩) ∧ Hid (Blk wx ga 29 #[.int .i64 x.h.kind, .int .i64 x.h.n, .int .i64 x.h.d, .string x.h.name, .int .i64 x.h.k, .slice x.A x.len x.cap]) ∧ Hid (Blk wx gb 29 #[.int .i64 y.h.kind, .int .i64 y.h.n, .int .i64 y.h.d, .string y.h.name, .int .i64 y.h.k, .slice y.A y.len y.cap]) ∧ Hid (Below w1.heap.size w1 wx))
 case first =>
  have b6 := hI (below_dr w1); have U := hI ((EX.out.belowW b5.out).belowW b6.out); have V := hI ((EY.out.belowW b5.out).belowW b6.out); have a8 := dk.out.b9 b6
  refine wp_region_held_drew (S := fun w' => w'.cell? ⟨w.heap.size, 5, none⟩ = some (.slice (some ⟨b, o, none⟩) 2 d7) ∧ w'.cell? ⟨b, o, none⟩ = some (.int .i64 x.h.kind) ∧ w'.cell? ⟨b, o + 1, none⟩ = some (.int .i64 x.h.n) ∧ w'.cell? ⟨b, o + 2, none⟩ = some (.int .i64 x.h.d) ∧ w'.cell? ⟨b, o + 3, none⟩ = some (.string x.h.name) ∧ w'.cell? ⟨b, o + 4, none⟩ = some (.int .i64 x.h.k) ∧ w'.cell? ⟨b, o + 5, none⟩ = some (.slice x.A x.len x.cap) ∧ w'.cell? ⟨b, o + 6, none⟩ = some (.int .i64 y.h.kind) ∧ w'.cell? ⟨b, o + 6 + 1, none⟩ = some (.int .i64 y.h.n) ∧ w'.cell? ⟨b, o + 6 + 2, none⟩ = some (.int .i64 y.h.d) ∧ w'.cell? ⟨b, o + 6 + 3, none⟩ = some (.string y.h.name) ∧ w'.cell? ⟨b, o + 6 + 4, none⟩ = some (.int .i64 y.h.k) ∧ w'.cell? ⟨b, o + 6 + 5, none⟩ = some (.slice y.A y.len y.cap)) (by kernel_rfl) ⟨a8.out.cell 5, U.out.c0, U.out.c1, U.out.c2, U.out.c3, U.out.c4, U.out.c5, V.out.c0, V.out.c1, V.out.c2, V.out.c3, V.out.c4, V.out.c5⟩ fun hHeld => ?_
  obtain ⟨a9, d8⟩ := eX (w1.drew); rw [← d8] at b6 U V a8 hHeld ⊢; clear d8; have c7 := hI (Below.refl a9.heap.size a9)
  refine tkW 0 ?_
  refine tkW 1 ?_
  refine tkW 2 ?_
  refine tkW 3 ?_
  refine tkW 4 ?_
  refine tkW 5 ?_
  refine tkW 6 ?_
  refine tkW 7 ?_
  refine wpAnyH_ready (rs := [8, 9]) (by kernel_rfl) (by simp) ?_
  refine (AllReadyH.cons rfl (fun K hK => ?_) (AllReadyH.cons rfl (fun K hK => ?_) AllReadyH.nil))
  ·
   go_simp
   obtain ⟨w3, c, a1, ce⟩ := aX a9 29 #[.int .i64 0, .int .i64 0, .int .i64 0, .string ⟨#[]⟩, .int .i64 0, .slice none 0 0]; rw [← c]; clear c; have dl := hI c7.out.size; have O := U.out.b9 a1; have P := V.out.b9 a1; have cf := a8.out.b9 a1; have bi := c7.out.t a1; clear hHeld
   refine hK.out _ _ ⟨cf.out.cell 5, O.out.c0, O.out.c1, O.out.c2, O.out.c3, O.out.c4, O.out.c5, P.out.c0, P.out.c1, P.out.c2, P.out.c3, P.out.c4, P.out.c5⟩ fun hHeld => ?_
   clear hK K
   try simp only [qa, qb, qc]
   refine wr1 9 fun K hK => ?_
   go_simp
   obtain ⟨w4, c, ag, ch⟩ := aX w3 29 #[.int .i64 0, .int .i64 0, .int .i64 0, .string ⟨#[]⟩, .int .i64 0, .slice none 0 0]; rw [← c]; clear c; have dm := hI bi.out.size; have W := O.out.b9 ag; have X := P.out.b9 ag; have dn := ce.out.b9 ag; have d9 := hI (show a9.heap.size ≠ w3.heap.size from Nat.ne_of_lt ce.out.lt); clear hHeld
   refine hK.out _ _ ⟨(cf.out.belowW ag.out).cell 5, W.out.c0, W.out.c1, W.out.c2, W.out.c3, W.out.c4, W.out.c5, X.out.c0, X.out.c1, X.out.c2, X.out.c3, X.out.c4, X.out.c5⟩ fun hHeld => ?_
   clear hK K
   try simp only [qa, qb, qc]
   refine wr1 10 fun K hK => ?_
   obtain ⟨bj, bk, bl, bm, bn, bo, bp, bq, br, bs, bt, bu⟩ := dn.out.all6
   go_simp
   rw [store6_put dn.out]; clear bj bk bl bm bn bo bp bq br bs bt bu; have ci := hI (dn.out.put #[.int .i64 x.h.kind, .int .i64 x.h.n, .int .i64 x.h.d, .string x.h.name, .int .i64 x.h.k, .slice x.A x.len x.cap]); have a2 := hI (ch.out.far (t' := 29) (Ne.symm d9.out) #[.int .i64 x.h.kind, .int .i64 x.h.n, .int .i64 x.h.d, .string x.h.name, .int .i64 x.h.k, .slice x.A x.len x.cap]); have ah := hI ((bi.out.trans (ag.out.mono bi.out.size)).trans (putB_below w4 _ 29 #[.int .i64 x.h.kind, .int .i64 x.h.n, .int .i64 x.h.d, .string x.h.name, .int .i64 x.h.k, .slice x.A x.len x.cap] dl.out)); obtain ⟨w5, c⟩ := eX (putB w4 (a9.heap.size) 29 #[.int .i64 x.h.kind, .int .i64 x.h.n, .int .i64 x.h.d, .string x.h.name, .int .i64 x.h.k, .slice x.A x.len x.cap]); rw [← c] at ci ah a2 ⊢; clear c; have Y := U.out.b9 ah; have Z := V.out.b9 ah; clear hHeld
   refine hK.out _ _ ⟨(a8.out.belowW ah.out).cell 5, Y.out.c0, Y.out.c1, Y.out.c2, Y.out.c3, Y.out.c4, Y.out.c5, Z.out.c0, Z.out.c1, Z.out.c2, Z.out.c3, Z.out.c4, Z.out.c5⟩ fun hHeld => ?_
   clear hK K
   try simp only [qa, qb, qc]
   refine wr1 11 fun K hK => ?_
   obtain ⟨bj, bk, bl, bm, bn, bo, bp, bq, br, bs, bt, bu⟩ := a2.out.all6
   go_simp
   rw [store6_put a2.out]; clear bj bk bl bm bn bo bp bq br bs bt bu; have ck := hI (a2.out.put #[.int .i64 y.h.kind, .int .i64 y.h.n, .int .i64 y.h.d, .string y.h.name, .int .i64 y.h.k, .slice y.A y.len y.cap]); have cl := hI (ci.out.far (t' := 29) d9.out #[.int .i64 y.h.kind, .int .i64 y.h.n, .int .i64 y.h.d, .string y.h.name, .int .i64 y.h.k, .slice y.A y.len y.cap]); have ai := hI (ah.out.trans (putB_below w5 _ 29 #[.int .i64 y.h.kind, .int .i64 y.h.n, .int .i64 y.h.d, .string y.h.name, .int .i64 y.h.k, .slice y.A y.len y.cap] dm.out)); obtain ⟨w6, c⟩ := eX (putB w5 (w3.heap.size) 29 #[.int .i64 y.h.kind, .int .i64 y.h.n, .int .i64 y.h.d, .string y.h.name, .int .i64 y.h.k, .slice y.A y.len y.cap]); rw [← c] at ck ai cl ⊢; clear c; have aa := U.out.b9 ai; have ab := V.out.b9 ai; clear hHeld
   refine hK.out _ _ ⟨(a8.out.belowW ai.out).cell 5, aa.out.c0, aa.out.c1, aa.out.c2, aa.out.c3, aa.out.c4, aa.out.c5, ab.out.c0, ab.out.c1, ab.out.c2, ab.out.c3, ab.out.c4, ab.out.c5⟩ fun hHeld => ?_
   clear hK K
   try simp only [qa, qb, qc]
   refine wpAnyH_done (by kernel_rfl) ?_ _
   go_wp2_with fail
   go_meet
   exact ⟨_, _, rfl, rfl, cl, ck, (b6.out.t ai)⟩
  go_simp
  obtain ⟨w3, c, a1, ce⟩ := aX a9 29 #[.int .i64 0, .int .i64 0, .int .i64 0, .string ⟨#[]⟩, .int .i64 0, .slice none 0 0]; rw [← c]; clear c; have dl := hI c7.out.size; have O := U.out.b9 a1; have P := V.out.b9 a1; have cf := a8.out.b9 a1; have bi := c7.out.t a1; clear hHeld
  refine hK.out _ _ ⟨cf.out.cell 5, O.out.c0, O.out.c1, O.out.c2, O.out.c3, O.out.c4, O.out.c5, P.out.c0, P.out.c1, P.out.c2, P.out.c3, P.out.c4, P.out.c5⟩ fun hHeld => ?_
  clear hK K
  try simp only [qa, qb, qc]
  refine wr1 8 fun K hK => ?_
  go_simp
  obtain ⟨w4, c, ag, ch⟩ := aX w3 29 #[.int .i64 0, .int .i64 0, .int .i64 0, .string ⟨#[]⟩, .int .i64 0, .slice none 0 0]; rw [← c]; clear c; have dm := hI bi.out.size; have W := O.out.b9 ag; have X := P.out.b9 ag; have ea := hI (show a9.heap.size ≠ w3.heap.size from Nat.ne_of_lt ce.out.lt); clear hHeld
  refine hK.out _ _ ⟨(cf.out.belowW ag.out).cell 5, W.out.c0, W.out.c1, W.out.c2, W.out.c3, W.out.c4, W.out.c5, X.out.c0, X.out.c1, X.out.c2, X.out.c3, X.out.c4, X.out.c5⟩ fun hHeld => ?_
  clear hK K
  try simp only [qa, qb, qc]
  refine wr1 10 fun K hK => ?_
  obtain ⟨bj, bk, bl, bm, bn, bo, bp, bq, br, bs, bt, bu⟩ := ch.out.all6
  go_simp
  rw [store6_put ch.out]; clear bj bk bl bm bn bo bp bq br bs bt bu; have ci := hI (ch.out.put #[.int .i64 x.h.kind, .int .i64 x.h.n, .int .i64 x.h.d, .string x.h.name, .int .i64 x.h.k, .slice x.A x.len x.cap]); have a2 := hI ((ce.out.belowW ag.out).far (t' := 29) ea.out #[.int .i64 x.h.kind, .int .i64 x.h.n, .int .i64 x.h.d, .string x.h.name, .int .i64 x.h.k, .slice x.A x.len x.cap]); have ah := hI ((bi.out.trans (ag.out.mono bi.out.size)).trans (putB_below w4 _ 29 #[.int .i64 x.h.kind, .int .i64 x.h.n, .int .i64 x.h.d, .string x.h.name, .int .i64 x.h.k, .slice x.A x.len x.cap] dm.out)); obtain ⟨w5, c⟩ := eX (putB w4 (w3.heap.size) 29 #[.int .i64 x.h.kind, .int .i64 x.h.n, .int .i64 x.h.d, .string x.h.name, .int .i64 x.h.k, .slice x.A x.len x.cap]); rw [← c] at ci ah a2 ⊢; clear c; have Y := U.out.b9 ah; have Z := V.out.b9 ah; clear hHeld
  refine hK.out _ _ ⟨(a8.out.belowW ah.out).cell 5, Y.out.c0, Y.out.c1, Y.out.c2, Y.out.c3, Y.out.c4, Y.out.c5, Z.out.c0, Z.out.c1, Z.out.c2, Z.out.c3, Z.out.c4, Z.out.c5⟩ fun hHeld => ?_
  clear hK K
  try simp only [qa, qb, qc]
  refine wr1 11 fun K hK => ?_
  obtain ⟨bj, bk, bl, bm, bn, bo, bp, bq, br, bs, bt, bu⟩ := a2.out.all6
  go_simp
  rw [store6_put a2.out]; clear bj bk bl bm bn bo bp bq br bs bt bu; have ck := hI (a2.out.put #[.int .i64 y.h.kind, .int .i64 y.h.n, .int .i64 y.h.d, .string y.h.name, .int .i64 y.h.k, .slice y.A y.len y.cap]); have cl := hI (ci.out.far (t' := 29) (Ne.symm ea.out) #[.int .i64 y.h.kind, .int .i64 y.h.n, .int .i64 y.h.d, .string y.h.name, .int .i64 y.h.k, .slice y.A y.len y.cap]); have ai := hI (ah.out.trans (putB_below w5 _ 29 #[.int .i64 y.h.kind, .int .i64 y.h.n, .int .i64 y.h.d, .string y.h.name, .int .i64 y.h.k, .slice y.A y.len y.cap] dl.out)); obtain ⟨w6, c⟩ := eX (putB w5 (a9.heap.size) 29 #[.int .i64 y.h.kind, .int .i64 y.h.n, .int .i64 y.h.d, .string y.h.name, .int .i64 y.h.k, .slice y.A y.len y.cap]); rw [← c] at ck ai cl ⊢; clear c; have aa := U.out.b9 ai; have ab := V.out.b9 ai; clear hHeld
  refine hK.out _ _ ⟨(a8.out.belowW ai.out).cell 5, aa.out.c0, aa.out.c1, aa.out.c2, aa.out.c3, aa.out.c4, aa.out.c5, ab.out.c0, ab.out.c1, ab.out.c2, ab.out.c3, ab.out.c4, ab.out.c5⟩ fun hHeld => ?_
  clear hK K
  try simp only [qa, qb, qc]
  refine wpAnyH_done (by kernel_rfl) ?_ _
  go_wp2_with fail
  go_meet
  exact ⟨_, _, rfl, rfl, cl, ck, (b6.out.t ai)⟩
 obtain ⟨ga, gb, rfl, rfl, ae, af, b7⟩ := hcut
 obtain ⟨w2, c⟩ := eX (wc)
 rw [← c] at ae af b7 ⊢
 clear c
 have aj := dk.out.b9 b7
 have ek := b5.out.t b7
 have g : w2.cell? ⟨w.heap.size, 0, none⟩ = some (.int .i64 6) := aj.out.cell 0
 go_upto_region 18 with (fail)
 clear g
 go_cut [7] (fun s7 wx => s7 = .bool M ∧ Hid (Below w2.heap.size w2 wx))
 case first =>
  cases ca : sumK x.h.kind with
  | false =>
   cases cwa : whl x.h with
   | false =>
    have N := hI (show M = false by rw [cc.out]; unfold need1; rw [ca, cwa]; rfl); have a3 := hI ca; clear ca; have bv := hI cwa; clear cwa; obtain ⟨i, j, m, p, q, r⟩ := ae.out.cs6; obtain ⟨s, u, z, B, C, D⟩ := af.out.cs6; have g : w2.cell? ⟨w.heap.size, 0, none⟩ = some (.int .i64 6) := aj.out.cell 0
    go_wp2_with fail
    refine (sum_p x w2).mono ?_
    rw [a3.out]; rintro e w61 ⟨rfl, F⟩; clear g i s j u m z p B q C r D; have ak := aj.out.b9 F; have al := ae.out.b9 F; have am := af.out.b9 F; obtain ⟨i, j, m, p, q, r⟩ := al.out.cs6; obtain ⟨s, u, z, B, C, D⟩ := am.out.cs6; have g : w61.cell? ⟨w.heap.size, 0, none⟩ = some (.int .i64 6) := ak.out.cell 0
    go_wp2_with fail
    refine (whl_p x w61).mono ?_
    rw [bv.out]; rintro e w62 ⟨rfl, J⟩; clear g i s j u m z p B q C r D; obtain ⟨i, j, m, p, q, r⟩ := (al.out.belowW J.out).cs6; obtain ⟨s, u, z, B, C, D⟩ := (am.out.belowW J.out).cs6; have g : w62.cell? ⟨w.heap.size, 0, none⟩ = some (.int .i64 6) := (ak.out.belowW J.out).cell 0
    go_wp2_with fail
    go_meet
    exact ⟨by rw [N.out], (F.out.t J)⟩
   | true =>
    cases cwb : whl y.h with
    | false =>
     have N := hI (show M = false by rw [cc.out]; unfold need1; rw [ca, cwa, cwb]; rfl); have a3 := hI ca; clear ca; have bv := hI cwa; clear cwa; have cm := hI cwb; clear cwb; obtain ⟨i, j, m, p, q, r⟩ := ae.out.cs6; obtain ⟨s, u, z, B, C, D⟩ := af.out.cs6; have g : w2.cell? ⟨w.heap.size, 0, none⟩ = some (.int .i64 6) := aj.out.cell 0
     go_wp2_with fail
     refine (sum_p x w2).mono ?_
     rw [a3.out]; rintro e w61 ⟨rfl, F⟩; clear g i s j u m z p B q C r D; have ak := aj.out.b9 F; have al := ae.out.b9 F; have am := af.out.b9 F; obtain ⟨i, j, m, p, q, r⟩ := al.out.cs6; obtain ⟨s, u, z, B, C, D⟩ := am.out.cs6; have g : w61.cell? ⟨w.heap.size, 0, none⟩ = some (.int .i64 6) := ak.out.cell 0
     go_wp2_with fail
     refine (whl_p x w61).mono ?_
     rw [bv.out]; rintro e w62 ⟨rfl, J⟩; clear g i s j u m z p B q C r D; have ba := ak.out.b9 J; have bb := al.out.b9 J; have bc := am.out.b9 J; have co := F.out.t J; obtain ⟨i, j, m, p, q, r⟩ := bb.out.cs6; obtain ⟨s, u, z, B, C, D⟩ := bc.out.cs6; have g : w62.cell? ⟨w.heap.size, 0, none⟩ = some (.int .i64 6) := ba.out.cell 0
     go_wp2_with fail
     refine (whl_p y w62).mono ?_
     rw [cm.out]; rintro e w63 ⟨rfl, R⟩; clear g i s j u m z p B q C r D; obtain ⟨i, j, m, p, q, r⟩ := (bb.out.belowW R.out).cs6; obtain ⟨s, u, z, B, C, D⟩ := (bc.out.belowW R.out).cs6; have g : w63.cell? ⟨w.heap.size, 0, none⟩ = some (.int .i64 6) := (ba.out.belowW R.out).cell 0
     go_wp2_with fail
     go_meet
     exact ⟨by rw [N.out], (co.out.t R)⟩
    | true =>
     cases cn : decide (0 ≤ y.h.n) with
     | false =>
      have N := hI (show M = false by rw [cc.out]; unfold need1; rw [ca, cwa, cwb, cn]; rfl); have a3 := hI ca; clear ca; have bv := hI cwa; clear cwa; have cm := hI cwb; clear cwb; obtain ⟨i, j, m, p, q, r⟩ := ae.out.cs6; obtain ⟨s, u, z, B, C, D⟩ := af.out.cs6; have g : w2.cell? ⟨w.heap.size, 0, none⟩ = some (.int .i64 6) := aj.out.cell 0
      go_wp2_with fail
      refine (sum_p x w2).mono ?_
      rw [a3.out]; rintro e w61 ⟨rfl, F⟩; clear g i s j u m z p B q C r D; have ak := aj.out.b9 F; have al := ae.out.b9 F; have am := af.out.b9 F; obtain ⟨i, j, m, p, q, r⟩ := al.out.cs6; obtain ⟨s, u, z, B, C, D⟩ := am.out.cs6; have g : w61.cell? ⟨w.heap.size, 0, none⟩ = some (.int .i64 6) := ak.out.cell 0
      go_wp2_with fail
      refine (whl_p x w61).mono ?_
      rw [bv.out]; rintro e w62 ⟨rfl, J⟩; clear g i s j u m z p B q C r D; have ba := ak.out.b9 J; have bb := al.out.b9 J; have bc := am.out.b9 J; have co := F.out.t J; obtain ⟨i, j, m, p, q, r⟩ := bb.out.cs6; obtain ⟨s, u, z, B, C, D⟩ := bc.out.cs6; have g : w62.cell? ⟨w.heap.size, 0, none⟩ = some (.int .i64 6) := ba.out.cell 0
      go_wp2_with fail
      refine (whl_p y w62).mono ?_
      rw [cm.out]; rintro e w63 ⟨rfl, R⟩; clear g i s j u m z p B q C r D; obtain ⟨i, j, m, p, q, r⟩ := (bb.out.belowW R.out).cs6; obtain ⟨s, u, z, B, C, D⟩ := (bc.out.belowW R.out).cs6; have g : w63.cell? ⟨w.heap.size, 0, none⟩ = some (.int .i64 6) := (ba.out.belowW R.out).cell 0
      go_wp2_with fail
      go_meet
      exact ⟨by rw [N.out], (co.out.t R)⟩
     | true =>
      have N := hI (show M = true by rw [cc.out]; unfold need1; rw [ca, cwa, cwb, cn]; rfl); have a3 := hI ca; clear ca; have bv := hI cwa; clear cwa; have cm := hI cwb; clear cwb; obtain ⟨i, j, m, p, q, r⟩ := ae.out.cs6; obtain ⟨s, u, z, B, C, D⟩ := af.out.cs6; have g : w2.cell? ⟨w.heap.size, 0, none⟩ = some (.int .i64 6) := aj.out.cell 0
      go_wp2_with fail
      refine (sum_p x w2).mono ?_
      rw [a3.out]; rintro e w61 ⟨rfl, F⟩; clear g i s j u m z p B q C r D; have ak := aj.out.b9 F; have al := ae.out.b9 F; have am := af.out.b9 F; obtain ⟨i, j, m, p, q, r⟩ := al.out.cs6; obtain ⟨s, u, z, B, C, D⟩ := am.out.cs6; have g : w61.cell? ⟨w.heap.size, 0, none⟩ = some (.int .i64 6) := ak.out.cell 0
      go_wp2_with fail
      refine (whl_p x w61).mono ?_
      rw [bv.out]; rintro e w62 ⟨rfl, J⟩; clear g i s j u m z p B q C r D; have ba := ak.out.b9 J; have bb := al.out.b9 J; have bc := am.out.b9 J; have co := F.out.t J; obtain ⟨i, j, m, p, q, r⟩ := bb.out.cs6; obtain ⟨s, u, z, B, C, D⟩ := bc.out.cs6; have g : w62.cell? ⟨w.heap.size, 0, none⟩ = some (.int .i64 6) := ba.out.cell 0
      go_wp2_with fail
      refine (whl_p y w62).mono ?_
      rw [cm.out]; rintro e w63 ⟨rfl, R⟩; clear g i s j u m z p B q C r D; obtain ⟨i, j, m, p, q, r⟩ := (bb.out.belowW R.out).cs6; obtain ⟨s, u, z, B, C, D⟩ := (bc.out.belowW R.out).cs6; have g : w63.cell? ⟨w.heap.size, 0, none⟩ = some (.int .i64 6) := (ba.out.belowW R.out).cell 0
      go_wp2_with fail
      go_meet
      exact ⟨by rw [N.out], (co.out.t R)⟩
  | true =>
   have N := hI (show M = true by rw [cc.out]; unfold need1; rw [ca]; rfl); have a3 := hI ca; clear ca; obtain ⟨i, j, m, p, q, r⟩ := ae.out.cs6; obtain ⟨s, u, z, B, C, D⟩ := af.out.cs6; have g : w2.cell? ⟨w.heap.size, 0, none⟩ = some (.int .i64 6) := aj.out.cell 0
   go_wp2_with fail
   refine (sum_p x w2).mono ?_
   rw [a3.out]; rintro e w61 ⟨rfl, F⟩; clear g i s j u m z p B q C r D; obtain ⟨i, j, m, p, q, r⟩ := (ae.out.belowW F.out).cs6; obtain ⟨s, u, z, B, C, D⟩ := (af.out.belowW F.out).cs6; have g : w61.cell? ⟨w.heap.size, 0, none⟩ = some (.int .i64 6) := (aj.out.belowW F.out).cell 0
   go_wp2_with fail
   go_meet
   exact ⟨by rw [N.out], F⟩
 obtain ⟨rfl, bw⟩ := hcut
 obtain ⟨w3, c⟩ := eX (wc)
 rw [← c] at bw ⊢
 clear c
 have c8 := hI (((HT.out.belowW b5.out).belowW b7.out).belowW bw.out)
 have c9 := hI (((HX.out.belowW b5.out).belowW b7.out).belowW bw.out)
 have da := hI (((HY.out.belowW b5.out).belowW b7.out).belowW bw.out)
 have dc := ae.out.b9 bw
 have dd := af.out.b9 bw
 have bd := ek.out.t bw
 go_upto_region 19 with (fail)
 cases ds : sumK y.h.kind with
 | false =>
  cases dp : prodK y.h.kind with
  | false =>
   cases db : brok y.h with
   | false =>
    have N := hI (show nb = false by rw [c6.out]; unfold need2; rw [ds, dp, db]; rfl); rw [N.out] at c2 ay cw; have bx := hI ds; clear ds; have cp := hI dp; clear dp; have dq := hI db; clear db; have E := hI (below_dr w3); have an := c8.out.b9 E; have ao := dc.out.b9 E; have ap := dd.out.b9 E
    refine wp_region_held_drew (S := fun w' => cz6 w' ga (.int .i64 x.h.kind) (.int .i64 x.h.n) (.int .i64 x.h.d) (.string x.h.name) (.int .i64 x.h.k) (.slice x.A x.len x.cap) ∧ cz6 w' gb (.int .i64 y.h.kind) (.int .i64 y.h.n) (.int .i64 y.h.d) (.string y.h.name) (.int .i64 y.h.k) (.slice y.A y.len y.cap)) (by kernel_rfl) ⟨ao.out.cz6, ap.out.cz6⟩ fun hHeld => ?_
    refine tkW 0 ?_
    refine tkW 1 ?_
    refine tkW 3 ?_
    refine tkW 5 ?_
    refine tkW 6 ?_
    refine wr1 2 fun K hK => ?_
    go_simp
    (with_reducible refine (operand_at f IH.out T.a x _ M (c9.out.belowW E.out) cs.out cy.out an.out).mono ?_)
    rintro e w82 ⟨S1, rfl, aq, G⟩; have ar := ao.out.b9 G; have au := ap.out.b9 G; have b0 := E.out.t G; have dr : S1.size = (par M la).length := (by rw [strp_size aq.out, ← a6.out])
    go_wp2_with fail
    clear hHeld
    refine hK.out _ _ ⟨ar.out.cz6, au.out.cz6⟩ fun hHeld => ?_
    clear hK K
    try simp only [qa, qb, qc]
    refine tkW 4 ?_
    refine wr1 7 fun K hK => ?_
    go_simp
    (with_reducible refine (sum_p y _).mono ?_)
    rw [bx.out]; rintro e w83 ⟨rfl, H⟩; have av := ar.out.b9 H; have aw := au.out.b9 H; have be := b0.out.t H
    go_wp2_with fail
    clear hHeld
    refine hK.out _ _ ⟨av.out.cz6, aw.out.cz6⟩ fun hHeld => ?_
    clear hK K
    try simp only [qa, qb, qc]
    refine tkW 8 ?_
    refine tkW 9 ?_
    refine wr1 10 fun K hK => ?_
    go_simp
    (with_reducible refine (prod_p y _).mono ?_)
    rw [cp.out]; rintro e w84 ⟨rfl, I⟩; have az := av.out.b9 I; have a0 := aw.out.b9 I; have b8 := be.out.t I
    go_wp2_with fail
    clear hHeld
    refine hK.out _ _ ⟨az.out.cz6, a0.out.cz6⟩ fun hHeld => ?_
    clear hK K
    try simp only [qa, qb, qc]
    refine tkW 11 ?_
    refine tkW 12 ?_
    refine tkW 13 ?_
    refine wr1 14 fun K hK => ?_
    go_simp
    (with_reducible refine (brok_p y _).mono ?_)
    rw [dq.out]; rintro e w85 ⟨rfl, Q⟩; have b1 := az.out.b9 Q; have b2 := a0.out.b9 Q; have cq := b8.out.t Q
    go_wp2_with fail
    clear hHeld
    refine hK.out _ _ ⟨b1.out.cz6, b2.out.cz6⟩ fun hHeld => ?_
    clear hK K
    try simp only [qa, qb, qc]
    refine tkW 15 ?_
    refine wr1 16 fun K hK => ?_
    go_simp
    (with_reducible refine (operand_at f IH.out T.b y _ false (((((da.out.belowW E.out).belowW G.out).belowW H.out).belowW I.out).belowW Q.out) ct.out cz.out ((((an.out.belowW G.out).belowW H.out).belowW I.out).belowW Q.out)).mono ?_)
    rintro e w86 ⟨S2, rfl, ax, b4⟩; have dt := b1.out.b9 b4; have du := b2.out.b9 b4; have dv : S2.size = (par false lb).length := (by rw [strp_size ax.out, ← a7.out])
    go_wp2_with fail
    clear hHeld
    refine hK.out _ _ ⟨dt.out.cz6, du.out.cz6⟩ fun hHeld => ?_
    clear hK K
    try simp only [qa, qb, qc]
    refine tkW 17 ?_
    refine tkW 18 ?_
    refine wpAnyH_done (by kernel_rfl) ?_ _
    go_wp2_with fail
    go_ret
    exact ⟨_, rfl, hI (by rw [data_app, data_app, aq.out, ax.out, ← a6.out, ← a7.out, ay.out, List.append_assoc]), (hI (bd.out.trans ((cq.out.trans (b4.out.mono cq.out.size)).mono bd.out.size)))⟩
   | true =>
    have N := hI (show nb = true by rw [c6.out]; unfold need2; rw [ds, dp, db]; rfl); rw [N.out] at c2 ay cw; have bx := hI ds; clear ds; have cp := hI dp; clear dp; have dq := hI db; clear db; have E := hI (below_dr w3); have an := c8.out.b9 E; have ao := dc.out.b9 E; have ap := dd.out.b9 E
    refine wp_region_held_drew (S := fun w' => cz6 w' ga (.int .i64 x.h.kind) (.int .i64 x.h.n) (.int .i64 x.h.d) (.string x.h.name) (.int .i64 x.h.k) (.slice x.A x.len x.cap) ∧ cz6 w' gb (.int .i64 y.h.kind) (.int .i64 y.h.n) (.int .i64 y.h.d) (.string y.h.name) (.int .i64 y.h.k) (.slice y.A y.len y.cap)) (by kernel_rfl) ⟨ao.out.cz6, ap.out.cz6⟩ fun hHeld => ?_
    refine tkW 0 ?_
    refine tkW 1 ?_
    refine tkW 3 ?_
    refine tkW 5 ?_
    refine tkW 6 ?_
    refine wr1 2 fun K hK => ?_
    go_simp
    (with_reducible refine (operand_at f IH.out T.a x _ M (c9.out.belowW E.out) cs.out cy.out an.out).mono ?_)
    rintro e w82 ⟨S1, rfl, aq, G⟩; have ar := ao.out.b9 G; have au := ap.out.b9 G; have b0 := E.out.t G; have dr : S1.size = (par M la).length := (by rw [strp_size aq.out, ← a6.out])
    go_wp2_with fail
    clear hHeld
    refine hK.out _ _ ⟨ar.out.cz6, au.out.cz6⟩ fun hHeld => ?_
    clear hK K
    try simp only [qa, qb, qc]
    refine tkW 4 ?_
    refine wr1 7 fun K hK => ?_
    go_simp
    (with_reducible refine (sum_p y _).mono ?_)
    rw [bx.out]; rintro e w83 ⟨rfl, H⟩; have av := ar.out.b9 H; have aw := au.out.b9 H; have be := b0.out.t H
    go_wp2_with fail
    clear hHeld
    refine hK.out _ _ ⟨av.out.cz6, aw.out.cz6⟩ fun hHeld => ?_
    clear hK K
    try simp only [qa, qb, qc]
    refine tkW 8 ?_
    refine tkW 9 ?_
    refine wr1 10 fun K hK => ?_
    go_simp
    (with_reducible refine (prod_p y _).mono ?_)
    rw [cp.out]; rintro e w84 ⟨rfl, I⟩; have az := av.out.b9 I; have a0 := aw.out.b9 I; have b8 := be.out.t I
    go_wp2_with fail
    clear hHeld
    refine hK.out _ _ ⟨az.out.cz6, a0.out.cz6⟩ fun hHeld => ?_
    clear hK K
    try simp only [qa, qb, qc]
    refine tkW 11 ?_
    refine tkW 12 ?_
    refine tkW 13 ?_
    refine wr1 14 fun K hK => ?_
    go_simp
    (with_reducible refine (brok_p y _).mono ?_)
    rw [dq.out]; rintro e w85 ⟨rfl, Q⟩; have b1 := az.out.b9 Q; have b2 := a0.out.b9 Q; have cq := b8.out.t Q
    go_wp2_with fail
    clear hHeld
    refine hK.out _ _ ⟨b1.out.cz6, b2.out.cz6⟩ fun hHeld => ?_
    clear hK K
    try simp only [qa, qb, qc]
    refine tkW 15 ?_
    refine wr1 16 fun K hK => ?_
    go_simp
    (with_reducible refine (operand_at f IH.out T.b y _ true (((((da.out.belowW E.out).belowW G.out).belowW H.out).belowW I.out).belowW Q.out) ct.out cz.out ((((an.out.belowW G.out).belowW H.out).belowW I.out).belowW Q.out)).mono ?_)
    rintro e w86 ⟨S2, rfl, ax, b4⟩; have dt := b1.out.b9 b4; have du := b2.out.b9 b4; have dv : S2.size = (par true lb).length := (by rw [strp_size ax.out, ← a7.out])
    go_wp2_with fail
    clear hHeld
    refine hK.out _ _ ⟨dt.out.cz6, du.out.cz6⟩ fun hHeld => ?_
    clear hK K
    try simp only [qa, qb, qc]
    refine tkW 17 ?_
    refine tkW 18 ?_
    refine wpAnyH_done (by kernel_rfl) ?_ _
    go_wp2_with fail
    go_ret
    exact ⟨_, rfl, hI (by rw [data_app, data_app, aq.out, ax.out, ← a6.out, ← a7.out, ay.out, List.append_assoc]), (hI (bd.out.trans ((cq.out.trans (b4.out.mono cq.out.size)).mono bd.out.size)))⟩
  | true =>
   have N := hI (show nb = true by rw [c6.out]; unfold need2; rw [ds, dp]; rfl); rw [N.out] at c2 ay cw; have bx := hI ds; clear ds; have cp := hI dp; clear dp; have E := hI (below_dr w3); have an := c8.out.b9 E; have ao := dc.out.b9 E; have ap := dd.out.b9 E
   refine wp_region_held_drew (S := fun w' => cz6 w' ga (.int .i64 x.h.kind) (.int .i64 x.h.n) (.int .i64 x.h.d) (.string x.h.name) (.int .i64 x.h.k) (.slice x.A x.len x.cap) ∧ cz6 w' gb (.int .i64 y.h.kind) (.int .i64 y.h.n) (.int .i64 y.h.d) (.string y.h.name) (.int .i64 y.h.k) (.slice y.A y.len y.cap)) (by kernel_rfl) ⟨ao.out.cz6, ap.out.cz6⟩ fun hHeld => ?_
   refine tkW 0 ?_
   refine tkW 1 ?_
   refine tkW 3 ?_
   refine tkW 5 ?_
   refine tkW 6 ?_
   refine wr1 2 fun K hK => ?_
   go_simp
   (with_reducible refine (operand_at f IH.out T.a x _ M (c9.out.belowW E.out) cs.out cy.out an.out).mono ?_)
   rintro e w82 ⟨S1, rfl, aq, G⟩; have ar := ao.out.b9 G; have au := ap.out.b9 G; have b0 := E.out.t G; have dr : S1.size = (par M la).length := (by rw [strp_size aq.out, ← a6.out])
   go_wp2_with fail
   clear hHeld
   refine hK.out _ _ ⟨ar.out.cz6, au.out.cz6⟩ fun hHeld => ?_
   clear hK K
   try simp only [qa, qb, qc]
   refine tkW 4 ?_
   refine wr1 7 fun K hK => ?_
   go_simp
   (with_reducible refine (sum_p y _).mono ?_)
   rw [bx.out]; rintro e w83 ⟨rfl, H⟩; have av := ar.out.b9 H; have aw := au.out.b9 H; have be := b0.out.t H
   go_wp2_with fail
   clear hHeld
   refine hK.out _ _ ⟨av.out.cz6, aw.out.cz6⟩ fun hHeld => ?_
   clear hK K
   try simp only [qa, qb, qc]
   refine tkW 8 ?_
   refine tkW 9 ?_
   refine wr1 10 fun K hK => ?_
   go_simp
   (with_reducible refine (prod_p y _).mono ?_)
   rw [cp.out]; rintro e w84 ⟨rfl, I⟩; have az := av.out.b9 I; have a0 := aw.out.b9 I; have b8 := be.out.t I
   go_wp2_with fail
   clear hHeld
   refine hK.out _ _ ⟨az.out.cz6, a0.out.cz6⟩ fun hHeld => ?_
   clear hK K
   try simp only [qa, qb, qc]
   refine tkW 11 ?_
   refine tkW 12 ?_
   refine tkV 13 ?_
   refine tkV 14 ?_
   refine tkW 15 ?_
   refine wr1 16 fun K hK => ?_
   go_simp
   (with_reducible refine (operand_at f IH.out T.b y _ true ((((da.out.belowW E.out).belowW G.out).belowW H.out).belowW I.out) ct.out cz.out (((an.out.belowW G.out).belowW H.out).belowW I.out)).mono ?_)
   rintro e w85 ⟨S2, rfl, ax, Q⟩; have b1 := az.out.b9 Q; have b2 := a0.out.b9 Q; have dv : S2.size = (par true lb).length := (by rw [strp_size ax.out, ← a7.out])
   go_wp2_with fail
   clear hHeld
   refine hK.out _ _ ⟨b1.out.cz6, b2.out.cz6⟩ fun hHeld => ?_
   clear hK K
   try simp only [qa, qb, qc]
   refine tkW 17 ?_
   refine tkW 18 ?_
   refine wpAnyH_done (by kernel_rfl) ?_ _
   go_wp2_with fail
   go_ret
   exact ⟨_, rfl, hI (by rw [data_app, data_app, aq.out, ax.out, ← a6.out, ← a7.out, ay.out, List.append_assoc]), (hI (bd.out.trans ((b8.out.trans (Q.out.mono b8.out.size)).mono bd.out.size)))⟩
 | true =>
  have N := hI (show nb = true by rw [c6.out]; unfold need2; rw [ds]; rfl); rw [N.out] at c2 ay cw; have bx := hI ds; clear ds; have E := hI (below_dr w3); have an := c8.out.b9 E; have ao := dc.out.b9 E; have ap := dd.out.b9 E
  refine wp_region_held_drew (S := fun w' => cz6 w' ga (.int .i64 x.h.kind) (.int .i64 x.h.n) (.int .i64 x.h.d) (.string x.h.name) (.int .i64 x.h.k) (.slice x.A x.len x.cap) ∧ cz6 w' gb (.int .i64 y.h.kind) (.int .i64 y.h.n) (.int .i64 y.h.d) (.string y.h.name) (.int .i64 y.h.k) (.slice y.A y.len y.cap)) (by kernel_rfl) ⟨ao.out.cz6, ap.out.cz6⟩ fun hHeld => ?_
  refine tkW 0 ?_
  refine tkW 1 ?_
  refine tkW 3 ?_
  refine tkW 5 ?_
  refine tkW 6 ?_
  refine wr1 2 fun K hK => ?_
  go_simp
  (with_reducible refine (operand_at f IH.out T.a x _ M (c9.out.belowW E.out) cs.out cy.out an.out).mono ?_)
  rintro e w82 ⟨S1, rfl, aq, G⟩; have ar := ao.out.b9 G; have au := ap.out.b9 G; have b0 := E.out.t G; have dr : S1.size = (par M la).length := (by rw [strp_size aq.out, ← a6.out])
  go_wp2_with fail
  clear hHeld
  refine hK.out _ _ ⟨ar.out.cz6, au.out.cz6⟩ fun hHeld => ?_
  clear hK K
  try simp only [qa, qb, qc]
  refine tkW 4 ?_
  refine wr1 7 fun K hK => ?_
  go_simp
  (with_reducible refine (sum_p y _).mono ?_)
  rw [bx.out]; rintro e w83 ⟨rfl, H⟩; have av := ar.out.b9 H; have aw := au.out.b9 H; have be := b0.out.t H
  go_wp2_with fail
  clear hHeld
  refine hK.out _ _ ⟨av.out.cz6, aw.out.cz6⟩ fun hHeld => ?_
  clear hK K
  try simp only [qa, qb, qc]
  refine tkW 8 ?_
  refine tkV 9 ?_
  refine tkV 10 ?_
  refine tkW 11 ?_
  refine tkW 12 ?_
  refine tkV 13 ?_
  refine tkV 14 ?_
  refine tkW 15 ?_
  refine wr1 16 fun K hK => ?_
  go_simp
  (with_reducible refine (operand_at f IH.out T.b y _ true (((da.out.belowW E.out).belowW G.out).belowW H.out) ct.out cz.out ((an.out.belowW G.out).belowW H.out)).mono ?_)
  rintro e w84 ⟨S2, rfl, ax, I⟩; have az := av.out.b9 I; have a0 := aw.out.b9 I; have dv : S2.size = (par true lb).length := (by rw [strp_size ax.out, ← a7.out])
  go_wp2_with fail
  clear hHeld
  refine hK.out _ _ ⟨az.out.cz6, a0.out.cz6⟩ fun hHeld => ?_
  clear hK K
  try simp only [qa, qb, qc]
  refine tkW 17 ?_
  refine tkW 18 ?_
  refine wpAnyH_done (by kernel_rfl) ?_ _
  go_wp2_with fail
  go_ret
  exact ⟨_, rfl, hI (by rw [data_app, data_app, aq.out, ax.out, ← a6.out, ← a7.out, ay.out, List.append_assoc]), (hI (bd.out.trans ((be.out.trans (I.out.mono be.out.size)).mono bd.out.size)))⟩
end Go.Proofs.YtkjoohnndobjeaaGreatDoor
