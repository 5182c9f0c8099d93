/-
  The walk of the program's text of an expression, kind by kind.
-/
import Derived.Test.YtkjoohnndobjeaaGreatDoorQc
import Derived.Test.YtkjoohnndobjeaaGreatDoorQH
set_option linter.unusedVariables false
set_option maxHeartbeats 8000000
set_option maxRecDepth 100000
namespace Go.Proofs.YtkjoohnndobjeaaGreatDoor
open Go.RowKit Go.Fl Go.Fl.Nm Go.Fl.Fm Go.Fl.Rt
open List renaming setIfInBounds_toArray → qa, set_cons_zero → qb, set_cons_succ → qc, getElem_toArray → qd, getElem_cons_zero → qe, getElem_cons_succ → qf
theorem store6_put {w : World} {g : Nat} {t : TypeId} {a b c d e f : Value} (hB : Blk w g t #[a, b, c, d, e, f]) (a' b' c' d' e' f' : Value) :
 (((((w.setCell ⟨g, 0, none⟩ a').setCell ⟨g, 1, none⟩ b').setCell ⟨g, 2, none⟩ c').setCell ⟨g, 3, none⟩ d').setCell ⟨g, 4, none⟩ e').setCell ⟨g, 5, none⟩ f' = putB w g t #[a', b', c', d', e', f'] := by
 rw [hB.setCell_eq 0 a', (hB.put _).setCell_eq 1 b', putB_putB, (hB.put _).setCell_eq 2 c', putB_putB, (hB.put _).setCell_eq 3 d', putB_putB, (hB.put _).setCell_eq 4 e', putB_putB, (hB.put _).setCell_eq 5 f', putB_putB]
 rfl

theorem expr_k5 (f : Nat) (ih : ExprAt f) (T : TE) (v : Nd) (w : World) (hin : InE w T v) (hg : good nameP (f + 1) T) (hl : (txt (f + 1) T).length ≤ 20000) (ht : RB w) (hk : v.h.kind = 5) :
 Calls Tryz.prog 55 #[v.val] w (StrP (txt (f + 1) T) w) := by
 have ct := hg.1
 rw [hin.hd, hin.length] at ct
 have cd : v.len = 2 := by rcases node_kinds ct with h | h | h | h | h | h <;> omega
 have dg : T.l.length = 2 := by rw [hin.length]; exact cd
 obtain ⟨T1, T2, hT⟩ := list2 dg
 have dh : T.a = T1 := by unfold TE.a; rw [hT]; rfl
 have di : T.b = T2 := by unfold TE.b; rw [hT]; rfl
 have dj : good nameP f T.a := hg.2 _ (by rw [dh, hT]; exact List.mem_cons_self ..)
 have dk : good nameP f T.b := hg.2 _ (by rw [di, hT]; exact List.mem_cons_of_mem _ (List.mem_cons_self ..))
 have ce := hI dj
 have cf := hI dk
 have HT := hI ht
 have IH := hI ih
 have dl : T.h.kind = 5 := by rw [hin.hd]; exact hk
 obtain ⟨b, o, x, y, hA, hx, hy, ex, ey⟩ := hin.two cd
 have dr : T.a.h = x.h := hx.hd
 have dt : T.b.h = y.h := hy.hd
 have Z := hI (show txt (f + 1) T = par (need1 5 x.h y.h) (txt f T.a) ++ ([32, 42, 32] ++ par (need2 5 y.h) (txt f T.b)) by
  show (if _ then _ else _) = _
  rw [dl, if_neg (by decide), if_neg (by decide), if_pos (by decide), dr, dt]
  rfl)
 have HX := hI hx
 have HY := hI hy
 have EX := hI ex
 have EY := hI ey
 obtain ⟨la, cg⟩ := eX (txt f T.a)
 obtain ⟨lb, ch⟩ := eX (txt f T.b)
 obtain ⟨p, cw⟩ := eX (need1 5 x.h y.h)
 obtain ⟨nb, cx⟩ := eX (need2 5 y.h)
 obtain ⟨L, hL⟩ := eX (txt (f + 1) T)
 rw [← cg, ← ch, ← cw, ← cx, ← hL] at Z
 rw [← hL] at hl ⊢
 have d9 : (par p la).length + 3 + (par nb lb).length ≤ 20000 := by
  have h := congrArg List.length Z.out; rw [List.length_append, List.length_append] at h; simp only [List.length_cons, List.length_nil] at h
  omega
 have ea := (par_len p la).1
 have ci := (par_len nb lb).1
 have c1 : ¬ (9223372036854775807 < (par p la).length + 3) := by omega
 have c2 : ¬ (9223372036854775807 < (par p la).length + 3 + (par nb lb).length) := by omega
 have ck := hI (show (txt f T.a).length ≤ 20000 by rw [← cg]; omega)
 have cl := hI (show (txt f T.b).length ≤ 20000 by rw [← ch]; omega)
 have du := hI cw
 have cm := hI cx
 have ai := hI cg
 have aj := hI ch
 clear cg ch cw cx hL hin hg hl ht ih hx hy ex ey dj dk hT dh di dg ct dl dr dt
 obtain ⟨⟨kd, n, d, nm, k⟩, A, ed, dv⟩ := v
 simp only at hk hA cd
 subst hk hA cd
 simp only [Nd.val]
 go_enter Tryz.func55, Tryz.ntmps55
 go_upto_region 1 with (fail)
 obtain ⟨w1, c, bf, cz⟩ := aX w 29 #[.int .i64 5, .int .i64 n, .int .i64 d, .string nm, .int .i64 k, .slice (some ⟨b, o, none⟩) 2 dv]
 rw [← c]
 clear c
 have pk : w1.cell? ⟨w.heap.size, 0, none⟩ = some (.int .i64 5) := cz.out.cell 0
 go_upto_region 14 with (fail)
 clear pk
 go_cut [4, 5] (fun p4 p5 wx => ∃ ga gb : Nat, p4 = .pointer (some ⟨ga, 0, none⟩) ∧ p5 = .pointer (some ⟨gb, 0, none⟩) ∧ Hid (Blk wx ga 29 #[.int .i64 x.h.kind, .int .i64 x.h.n, .int .i64 x.h.d, .string x.h.name, .int .i64 x.h.k, .slice x.A x.len x.cap]) ∧ Hid (Blk wx gb 29 #[.int .i64 y.h.kind, .int .i64 y.h.n, .int .i64 y.h.d, .string y.h.name, .int .i64 y.h.k, .slice y.A y.len y.cap]) ∧ Hid (Below w1.heap.size w1 wx))
 case first =>
  have bg := hI (below_dr w1); have u := hI ((EX.out.belowW bf.out).belowW bg.out); have z := hI ((EY.out.belowW bf.out).belowW bg.out); have ak := cz.out.b9 bg
  refine wp_region_held_drew (S := fun w' => w'.cell? ⟨w.heap.size, 5, none⟩ = some (.slice (some ⟨b, o, none⟩) 2 dv) ∧ w'.cell? ⟨b, o, none⟩ = some (.int .i64 x.h.kind) ∧ w'.cell? ⟨b, o + 1, none⟩ = some (.int .i64 x.h.n) ∧ w'.cell? ⟨b, o + 2, none⟩ = some (.int .i64 x.h.d) ∧ w'.cell? ⟨b, o + 3, none⟩ = some (.string x.h.name) ∧ w'.cell? ⟨b, o + 4, none⟩ = some (.int .i64 x.h.k) ∧ w'.cell? ⟨b, o + 5, none⟩ = some (.slice x.A x.len x.cap) ∧ w'.cell? ⟨b, o + 6, none⟩ = some (.int .i64 y.h.kind) ∧ w'.cell? ⟨b, o + 6 + 1, none⟩ = some (.int .i64 y.h.n) ∧ w'.cell? ⟨b, o + 6 + 2, none⟩ = some (.int .i64 y.h.d) ∧ w'.cell? ⟨b, o + 6 + 3, none⟩ = some (.string y.h.name) ∧ w'.cell? ⟨b, o + 6 + 4, none⟩ = some (.int .i64 y.h.k) ∧ w'.cell? ⟨b, o + 6 + 5, none⟩ = some (.slice y.A y.len y.cap)) (by kernel_rfl) ⟨ak.out.cell 5, u.out.c0, u.out.c1, u.out.c2, u.out.c3, u.out.c4, u.out.c5, z.out.c0, z.out.c1, z.out.c2, z.out.c3, z.out.c4, z.out.c5⟩ fun hHeld => ?_
  obtain ⟨al, dw⟩ := eX (w1.drew); rw [← dw] at bg u z ak hHeld ⊢; clear dw; have cn := hI (Below.refl al.heap.size al)
  refine tkW 0 ?_
  refine tkW 1 ?_
  refine tkW 2 ?_
  refine tkW 3 ?_
  refine tkW 4 ?_
  refine tkW 5 ?_
  refine tkW 6 ?_
  refine tkW 7 ?_
  refine wpAnyH_ready (rs := [8, 9]) (by kernel_rfl) (by simp) ?_
  refine (AllReadyH.cons rfl (fun K hK => ?_) (AllReadyH.cons rfl (fun K hK => ?_) AllReadyH.nil))
  ·
   go_simp
   obtain ⟨H, c, ad, bn⟩ := aX al 29 #[.int .i64 0, .int .i64 0, .int .i64 0, .string ⟨#[]⟩, .int .i64 0, .slice none 0 0]; rw [← c]; clear c; have c6 := hI cn.out.size; have q := u.out.b9 ad; have r := z.out.b9 ad; have bo := ak.out.b9 ad; have ar := cn.out.t ad; clear hHeld
   refine hK.out _ _ ⟨bo.out.cell 5, q.out.c0, q.out.c1, q.out.c2, q.out.c3, q.out.c4, q.out.c5, r.out.c0, r.out.c1, r.out.c2, r.out.c3, r.out.c4, r.out.c5⟩ fun hHeld => ?_
   clear hK K
   try simp only [qa, qb, qc]
   refine wr1 9 fun K hK => ?_
   go_simp
   obtain ⟨w4, c, I, bq⟩ := aX H 29 #[.int .i64 0, .int .i64 0, .int .i64 0, .string ⟨#[]⟩, .int .i64 0, .slice none 0 0]; rw [← c]; clear c; have c7 := hI ar.out.size; have B := q.out.b9 I; have C := r.out.b9 I; have c8 := bn.out.b9 I; have dx := hI (show al.heap.size ≠ H.heap.size from Nat.ne_of_lt bn.out.lt); clear hHeld
   refine hK.out _ _ ⟨(bo.out.belowW I.out).cell 5, B.out.c0, B.out.c1, B.out.c2, B.out.c3, B.out.c4, B.out.c5, C.out.c0, C.out.c1, C.out.c2, C.out.c3, C.out.c4, C.out.c5⟩ fun hHeld => ?_
   clear hK K
   try simp only [qa, qb, qc]
   refine wr1 10 fun K hK => ?_
   obtain ⟨au, av, aw, ax, ay, az, a0, a1, a2, a3, a4, a5⟩ := c8.out.all6
   go_simp
   rw [store6_put c8.out]; clear au av aw ax ay az a0 a1 a2 a3 a4 a5; have br := hI (c8.out.put #[.int .i64 x.h.kind, .int .i64 x.h.n, .int .i64 x.h.d, .string x.h.name, .int .i64 x.h.k, .slice x.A x.len x.cap]); have ae := hI (bq.out.far (t' := 29) (Ne.symm dx.out) #[.int .i64 x.h.kind, .int .i64 x.h.n, .int .i64 x.h.d, .string x.h.name, .int .i64 x.h.k, .slice x.A x.len x.cap]); have J := hI ((ar.out.trans (I.out.mono ar.out.size)).trans (putB_below w4 _ 29 #[.int .i64 x.h.kind, .int .i64 x.h.n, .int .i64 x.h.d, .string x.h.name, .int .i64 x.h.k, .slice x.A x.len x.cap] c6.out)); obtain ⟨w5, c⟩ := eX (putB w4 (al.heap.size) 29 #[.int .i64 x.h.kind, .int .i64 x.h.n, .int .i64 x.h.d, .string x.h.name, .int .i64 x.h.k, .slice x.A x.len x.cap]); rw [← c] at br J ae ⊢; clear c; have D := u.out.b9 J; have E := z.out.b9 J; clear hHeld
   refine hK.out _ _ ⟨(ak.out.belowW J.out).cell 5, D.out.c0, D.out.c1, D.out.c2, D.out.c3, D.out.c4, D.out.c5, E.out.c0, E.out.c1, E.out.c2, E.out.c3, E.out.c4, E.out.c5⟩ fun hHeld => ?_
   clear hK K
   try simp only [qa, qb, qc]
   refine wr1 11 fun K hK => ?_
   obtain ⟨au, av, aw, ax, ay, az, a0, a1, a2, a3, a4, a5⟩ := ae.out.all6
   go_simp
   rw [store6_put ae.out]; clear au av aw ax ay az a0 a1 a2 a3 a4 a5; have bt := hI (ae.out.put #[.int .i64 y.h.kind, .int .i64 y.h.n, .int .i64 y.h.d, .string y.h.name, .int .i64 y.h.k, .slice y.A y.len y.cap]); have bu := hI (br.out.far (t' := 29) dx.out #[.int .i64 y.h.kind, .int .i64 y.h.n, .int .i64 y.h.d, .string y.h.name, .int .i64 y.h.k, .slice y.A y.len y.cap]); have M := hI (J.out.trans (putB_below w5 _ 29 #[.int .i64 y.h.kind, .int .i64 y.h.n, .int .i64 y.h.d, .string y.h.name, .int .i64 y.h.k, .slice y.A y.len y.cap] c7.out)); obtain ⟨w6, c⟩ := eX (putB w5 (H.heap.size) 29 #[.int .i64 y.h.kind, .int .i64 y.h.n, .int .i64 y.h.d, .string y.h.name, .int .i64 y.h.k, .slice y.A y.len y.cap]); rw [← c] at bt M bu ⊢; clear c; have F := u.out.b9 M; have G := z.out.b9 M; clear hHeld
   refine hK.out _ _ ⟨(ak.out.belowW M.out).cell 5, F.out.c0, F.out.c1, F.out.c2, F.out.c3, F.out.c4, F.out.c5, G.out.c0, G.out.c1, G.out.c2, G.out.c3, G.out.c4, G.out.c5⟩ fun hHeld => ?_
   clear hK K
   try simp only [qa, qb, qc]
   refine wpAnyH_done (by kernel_rfl) ?_ _
   go_wp2_with fail
   go_meet
   exact ⟨_, _, rfl, rfl, bu, bt, (bg.out.t M)⟩
  go_simp
  obtain ⟨H, c, ad, bn⟩ := aX al 29 #[.int .i64 0, .int .i64 0, .int .i64 0, .string ⟨#[]⟩, .int .i64 0, .slice none 0 0]; rw [← c]; clear c; have c6 := hI cn.out.size; have q := u.out.b9 ad; have r := z.out.b9 ad; have bo := ak.out.b9 ad; have ar := cn.out.t ad; clear hHeld
  refine hK.out _ _ ⟨bo.out.cell 5, q.out.c0, q.out.c1, q.out.c2, q.out.c3, q.out.c4, q.out.c5, r.out.c0, r.out.c1, r.out.c2, r.out.c3, r.out.c4, r.out.c5⟩ fun hHeld => ?_
  clear hK K
  try simp only [qa, qb, qc]
  refine wr1 8 fun K hK => ?_
  go_simp
  obtain ⟨w4, c, I, bq⟩ := aX H 29 #[.int .i64 0, .int .i64 0, .int .i64 0, .string ⟨#[]⟩, .int .i64 0, .slice none 0 0]; rw [← c]; clear c; have c7 := hI ar.out.size; have B := q.out.b9 I; have C := r.out.b9 I; have dy := hI (show al.heap.size ≠ H.heap.size from Nat.ne_of_lt bn.out.lt); clear hHeld
  refine hK.out _ _ ⟨(bo.out.belowW I.out).cell 5, B.out.c0, B.out.c1, B.out.c2, B.out.c3, B.out.c4, B.out.c5, C.out.c0, C.out.c1, C.out.c2, C.out.c3, C.out.c4, C.out.c5⟩ fun hHeld => ?_
  clear hK K
  try simp only [qa, qb, qc]
  refine wr1 10 fun K hK => ?_
  obtain ⟨au, av, aw, ax, ay, az, a0, a1, a2, a3, a4, a5⟩ := bq.out.all6
  go_simp
  rw [store6_put bq.out]; clear au av aw ax ay az a0 a1 a2 a3 a4 a5; have br := hI (bq.out.put #[.int .i64 x.h.kind, .int .i64 x.h.n, .int .i64 x.h.d, .string x.h.name, .int .i64 x.h.k, .slice x.A x.len x.cap]); have ae := hI ((bn.out.belowW I.out).far (t' := 29) dy.out #[.int .i64 x.h.kind, .int .i64 x.h.n, .int .i64 x.h.d, .string x.h.name, .int .i64 x.h.k, .slice x.A x.len x.cap]); have J := hI ((ar.out.trans (I.out.mono ar.out.size)).trans (putB_below w4 _ 29 #[.int .i64 x.h.kind, .int .i64 x.h.n, .int .i64 x.h.d, .string x.h.name, .int .i64 x.h.k, .slice x.A x.len x.cap] c7.out)); obtain ⟨w5, c⟩ := eX (putB w4 (H.heap.size) 29 #[.int .i64 x.h.kind, .int .i64 x.h.n, .int .i64 x.h.d, .string x.h.name, .int .i64 x.h.k, .slice x.A x.len x.cap]); rw [← c] at br J ae ⊢; clear c; have D := u.out.b9 J; have E := z.out.b9 J; clear hHeld
  refine hK.out _ _ ⟨(ak.out.belowW J.out).cell 5, D.out.c0, D.out.c1, D.out.c2, D.out.c3, D.out.c4, D.out.c5, E.out.c0, E.out.c1, E.out.c2, E.out.c3, E.out.c4, E.out.c5⟩ fun hHeld => ?_
  clear hK K
  try simp only [qa, qb, qc]
  refine wr1 11 fun K hK => ?_
  obtain ⟨au, av, aw, ax, ay, az, a0, a1, a2, a3, a4, a5⟩ := ae.out.all6
  go_simp
  rw [store6_put ae.out]; clear au av aw ax ay az a0 a1 a2 a3 a4 a5; have bt := hI (ae.out.put #[.int .i64 y.h.kind, .int .i64 y.h.n, .int .i64 y.h.d, .string y.h.name, .int .i64 y.h.k, .slice y.A y.len y.cap]); have bu := hI (br.out.far (t' := 29) (Ne.symm dy.out) #[.int .i64 y.h.kind, .int .i64 y.h.n, .int .i64 y.h.d, .string y.h.name, .int .i64 y.h.k, .slice y.A y.len y.cap]); have M := hI (J.out.trans (putB_below w5 _ 29 #[.int .i64 y.h.kind, .int .i64 y.h.n, .int .i64 y.h.d, .string y.h.name, .int .i64 y.h.k, .slice y.A y.len y.cap] c6.out)); obtain ⟨w6, c⟩ := eX (putB w5 (al.heap.size) 29 #[.int .i64 y.h.kind, .int .i64 y.h.n, .int .i64 y.h.d, .string y.h.name, .int .i64 y.h.k, .slice y.A y.len y.cap]); rw [← c] at bt M bu ⊢; clear c; have F := u.out.b9 M; have G := z.out.b9 M; clear hHeld
  refine hK.out _ _ ⟨(ak.out.belowW M.out).cell 5, F.out.c0, F.out.c1, F.out.c2, F.out.c3, F.out.c4, F.out.c5, G.out.c0, G.out.c1, G.out.c2, G.out.c3, G.out.c4, G.out.c5⟩ fun hHeld => ?_
  clear hK K
  try simp only [qa, qb, qc]
  refine wpAnyH_done (by kernel_rfl) ?_ _
  go_wp2_with fail
  go_meet
  exact ⟨_, _, rfl, rfl, bu, bt, (bg.out.t M)⟩
 obtain ⟨ga, gb, rfl, rfl, bh, bi, bj⟩ := hcut
 obtain ⟨w2, c⟩ := eX (wc)
 rw [← c] at bh bi bj ⊢
 clear c
 have bv := cz.out.b9 bj
 have d8 := bf.out.t bj
 have pk : w2.cell? ⟨w.heap.size, 0, none⟩ = some (.int .i64 5) := bv.out.cell 0
 go_upto_region 18 with (fail)
 clear pk
 go_cut [7] (fun s7 wx => s7 = .bool p ∧ Hid (Below w2.heap.size w2 wx))
 case first =>
  cases ca : sumK x.h.kind with
  | false =>
   have N := hI (show p = false by rw [du.out]; unfold need1; rw [ca]; rfl); have c9 := hI ca; clear ca; obtain ⟨bw, bx, bz, b0, b1, b2⟩ := bh.out.cs6; obtain ⟨b3, b4, b5, b6, b7, b8⟩ := bi.out.cs6; have pk : w2.cell? ⟨w.heap.size, 0, none⟩ = some (.int .i64 5) := bv.out.cell 0
   go_wp2_with fail
   refine (sum_p x w2).mono ?_
   rw [c9.out]; rintro e w61 ⟨rfl, af⟩; clear pk bw b3 bx b4 bz b5 b0 b6 b1 b7 b2 b8; obtain ⟨bw, bx, bz, b0, b1, b2⟩ := (bh.out.belowW af.out).cs6; obtain ⟨b3, b4, b5, b6, b7, b8⟩ := (bi.out.belowW af.out).cs6; have pk : w61.cell? ⟨w.heap.size, 0, none⟩ = some (.int .i64 5) := (bv.out.belowW af.out).cell 0
   go_wp2_with fail
   go_meet
   exact ⟨by rw [N.out], af⟩
  | true =>
   have N := hI (show p = true by rw [du.out]; unfold need1; rw [ca]; rfl); have c9 := hI ca; clear ca; obtain ⟨bw, bx, bz, b0, b1, b2⟩ := bh.out.cs6; obtain ⟨b3, b4, b5, b6, b7, b8⟩ := bi.out.cs6; have pk : w2.cell? ⟨w.heap.size, 0, none⟩ = some (.int .i64 5) := bv.out.cell 0
   go_wp2_with fail
   refine (sum_p x w2).mono ?_
   rw [c9.out]; rintro e w61 ⟨rfl, af⟩; clear pk bw b3 bx b4 bz b5 b0 b6 b1 b7 b2 b8; obtain ⟨bw, bx, bz, b0, b1, b2⟩ := (bh.out.belowW af.out).cs6; obtain ⟨b3, b4, b5, b6, b7, b8⟩ := (bi.out.belowW af.out).cs6; have pk : w61.cell? ⟨w.heap.size, 0, none⟩ = some (.int .i64 5) := (bv.out.belowW af.out).cell 0
   go_wp2_with fail
   go_meet
   exact ⟨by rw [N.out], af⟩
 obtain ⟨rfl, a7⟩ := hcut
 obtain ⟨H, c⟩ := eX (wc)
 rw [← c] at a7 ⊢
 clear c
 have co := hI (((HT.out.belowW bf.out).belowW bj.out).belowW a7.out)
 have cp := hI (((HX.out.belowW bf.out).belowW bj.out).belowW a7.out)
 have cq := hI (((HY.out.belowW bf.out).belowW bj.out).belowW a7.out)
 have cr := bh.out.b9 a7
 have cs := bi.out.b9 a7
 have am := d8.out.t a7
 go_upto_region 19 with (fail)
 cases ds : sumK y.h.kind with
 | false =>
  cases dp : prodK y.h.kind with
  | false =>
   cases db : brok y.h with
   | false =>
    have N := hI (show nb = false by rw [cm.out]; unfold need2; rw [ds, dp, db]; rfl); rw [N.out] at c2 Z ci; have a8 := hI ds; clear ds; have cb := hI dp; clear dp; have da := hI db; clear db; have g := hI (below_dr H); have O := co.out.b9 g; have P := cr.out.b9 g; have Q := cs.out.b9 g
    refine wp_region_held_drew (S := fun w' => cz6 w' ga (.int .i64 x.h.kind) (.int .i64 x.h.n) (.int .i64 x.h.d) (.string x.h.name) (.int .i64 x.h.k) (.slice x.A x.len x.cap) ∧ cz6 w' gb (.int .i64 y.h.kind) (.int .i64 y.h.n) (.int .i64 y.h.d) (.string y.h.name) (.int .i64 y.h.k) (.slice y.A y.len y.cap)) (by kernel_rfl) ⟨P.out.cz6, Q.out.cz6⟩ fun hHeld => ?_
    refine tkW 0 ?_
    refine tkW 1 ?_
    refine tkW 3 ?_
    refine tkW 5 ?_
    refine tkW 6 ?_
    refine wr1 2 fun K hK => ?_
    go_simp
    (with_reducible refine (operand_at f IH.out T.a x _ p (cp.out.belowW g.out) ce.out ck.out O.out).mono ?_)
    rintro e w82 ⟨S1, rfl, R, i⟩; have U := P.out.b9 i; have V := Q.out.b9 i; have ba := g.out.t i; have dc : S1.size = (par p la).length := (by rw [strp_size R.out, ← ai.out])
    go_wp2_with fail
    clear hHeld
    refine hK.out _ _ ⟨U.out.cz6, V.out.cz6⟩ fun hHeld => ?_
    clear hK K
    try simp only [qa, qb, qc]
    refine tkW 4 ?_
    refine wr1 7 fun K hK => ?_
    go_simp
    (with_reducible refine (sum_p y _).mono ?_)
    rw [a8.out]; rintro e w83 ⟨rfl, j⟩; have W := U.out.b9 j; have X := V.out.b9 j; have an := ba.out.t j
    go_wp2_with fail
    clear hHeld
    refine hK.out _ _ ⟨W.out.cz6, X.out.cz6⟩ fun hHeld => ?_
    clear hK K
    try simp only [qa, qb, qc]
    refine tkW 8 ?_
    refine tkW 9 ?_
    refine wr1 10 fun K hK => ?_
    go_simp
    (with_reducible refine (prod_p y _).mono ?_)
    rw [cb.out]; rintro e w84 ⟨rfl, m⟩; have aa := W.out.b9 m; have ab := X.out.b9 m; have bk := an.out.t m
    go_wp2_with fail
    clear hHeld
    refine hK.out _ _ ⟨aa.out.cz6, ab.out.cz6⟩ fun hHeld => ?_
    clear hK K
    try simp only [qa, qb, qc]
    refine tkW 11 ?_
    refine tkW 12 ?_
    refine tkW 13 ?_
    refine wr1 14 fun K hK => ?_
    go_simp
    (with_reducible refine (brok_p y _).mono ?_)
    rw [da.out]; rintro e w85 ⟨rfl, s⟩; have bb := aa.out.b9 s; have bc := ab.out.b9 s; have cc := bk.out.t s
    go_wp2_with fail
    clear hHeld
    refine hK.out _ _ ⟨bb.out.cz6, bc.out.cz6⟩ fun hHeld => ?_
    clear hK K
    try simp only [qa, qb, qc]
    refine tkW 15 ?_
    refine wr1 16 fun K hK => ?_
    go_simp
    (with_reducible refine (operand_at f IH.out T.b y _ false (((((cq.out.belowW g.out).belowW i.out).belowW j.out).belowW m.out).belowW s.out) cf.out cl.out ((((O.out.belowW i.out).belowW j.out).belowW m.out).belowW s.out)).mono ?_)
    rintro e w86 ⟨S2, rfl, Y, be⟩; have dd := bb.out.b9 be; have de := bc.out.b9 be; have df : S2.size = (par false lb).length := (by rw [strp_size Y.out, ← aj.out])
    go_wp2_with fail
    clear hHeld
    refine hK.out _ _ ⟨dd.out.cz6, de.out.cz6⟩ fun hHeld => ?_
    clear hK K
    try simp only [qa, qb, qc]
    refine tkW 17 ?_
    refine tkW 18 ?_
    refine wpAnyH_done (by kernel_rfl) ?_ _
    go_wp2_with fail
    go_ret
    exact ⟨_, rfl, hI (by rw [data_app, data_app, R.out, Y.out, ← ai.out, ← aj.out, Z.out, List.append_assoc]), (hI (am.out.trans ((cc.out.trans (be.out.mono cc.out.size)).mono am.out.size)))⟩
   | true =>
    have N := hI (show nb = true by rw [cm.out]; unfold need2; rw [ds, dp, db]; rfl); rw [N.out] at c2 Z ci; have a8 := hI ds; clear ds; have cb := hI dp; clear dp; have da := hI db; clear db; have g := hI (below_dr H); have O := co.out.b9 g; have P := cr.out.b9 g; have Q := cs.out.b9 g
    refine wp_region_held_drew (S := fun w' => cz6 w' ga (.int .i64 x.h.kind) (.int .i64 x.h.n) (.int .i64 x.h.d) (.string x.h.name) (.int .i64 x.h.k) (.slice x.A x.len x.cap) ∧ cz6 w' gb (.int .i64 y.h.kind) (.int .i64 y.h.n) (.int .i64 y.h.d) (.string y.h.name) (.int .i64 y.h.k) (.slice y.A y.len y.cap)) (by kernel_rfl) ⟨P.out.cz6, Q.out.cz6⟩ fun hHeld => ?_
    refine tkW 0 ?_
    refine tkW 1 ?_
    refine tkW 3 ?_
    refine tkW 5 ?_
    refine tkW 6 ?_
    refine wr1 2 fun K hK => ?_
    go_simp
    (with_reducible refine (operand_at f IH.out T.a x _ p (cp.out.belowW g.out) ce.out ck.out O.out).mono ?_)
    rintro e w82 ⟨S1, rfl, R, i⟩; have U := P.out.b9 i; have V := Q.out.b9 i; have ba := g.out.t i; have dc : S1.size = (par p la).length := (by rw [strp_size R.out, ← ai.out])
    go_wp2_with fail
    clear hHeld
    refine hK.out _ _ ⟨U.out.cz6, V.out.cz6⟩ fun hHeld => ?_
    clear hK K
    try simp only [qa, qb, qc]
    refine tkW 4 ?_
    refine wr1 7 fun K hK => ?_
    go_simp
    (with_reducible refine (sum_p y _).mono ?_)
    rw [a8.out]; rintro e w83 ⟨rfl, j⟩; have W := U.out.b9 j; have X := V.out.b9 j; have an := ba.out.t j
    go_wp2_with fail
    clear hHeld
    refine hK.out _ _ ⟨W.out.cz6, X.out.cz6⟩ fun hHeld => ?_
    clear hK K
    try simp only [qa, qb, qc]
    refine tkW 8 ?_
    refine tkW 9 ?_
    refine wr1 10 fun K hK => ?_
    go_simp
    (with_reducible refine (prod_p y _).mono ?_)
    rw [cb.out]; rintro e w84 ⟨rfl, m⟩; have aa := W.out.b9 m; have ab := X.out.b9 m; have bk := an.out.t m
    go_wp2_with fail
    clear hHeld
    refine hK.out _ _ ⟨aa.out.cz6, ab.out.cz6⟩ fun hHeld => ?_
    clear hK K
    try simp only [qa, qb, qc]
    refine tkW 11 ?_
    refine tkW 12 ?_
    refine tkW 13 ?_
    refine wr1 14 fun K hK => ?_
    go_simp
    (with_reducible refine (brok_p y _).mono ?_)
    rw [da.out]; rintro e w85 ⟨rfl, s⟩; have bb := aa.out.b9 s; have bc := ab.out.b9 s; have cc := bk.out.t s
    go_wp2_with fail
    clear hHeld
    refine hK.out _ _ ⟨bb.out.cz6, bc.out.cz6⟩ fun hHeld => ?_
    clear hK K
    try simp only [qa, qb, qc]
    refine tkW 15 ?_
    refine wr1 16 fun K hK => ?_
    go_simp
    (with_reducible refine (operand_at f IH.out T.b y _ true (((((cq.out.belowW g.out).belowW i.out).belowW j.out).belowW m.out).belowW s.out) cf.out cl.out ((((O.out.belowW i.out).belowW j.out).belowW m.out).belowW s.out)).mono ?_)
    rintro e w86 ⟨S2, rfl, Y, be⟩; have dd := bb.out.b9 be; have de := bc.out.b9 be; have df : S2.size = (par true lb).length := (by rw [strp_size Y.out, ← aj.out])
    go_wp2_with fail
    clear hHeld
    refine hK.out _ _ ⟨dd.out.cz6, de.out.cz6⟩ fun hHeld => ?_
    clear hK K
    try simp only [qa, qb, qc]
    refine tkW 17 ?_
    refine tkW 18 ?_
    refine wpAnyH_done (by kernel_rfl) ?_ _
    go_wp2_with fail
    go_ret
    exact ⟨_, rfl, hI (by rw [data_app, data_app, R.out, Y.out, ← ai.out, ← aj.out, Z.out, List.append_assoc]), (hI (am.out.trans ((cc.out.trans (be.out.mono cc.out.size)).mono am.out.size)))⟩
  | true =>
   have N := hI (show nb = true by rw [cm.out]; unfold need2; rw [ds, dp]; rfl); rw [N.out] at c2 Z ci; have a8 := hI ds; clear ds; have cb := hI dp; clear dp; have g := hI (below_dr H); have O := co.out.b9 g; have P := cr.out.b9 g; have Q := cs.out.b9 g
   refine wp_region_held_drew (S := fun w' => cz6 w' ga (.int .i64 x.h.kind) (.int .i64 x.h.n) (.int .i64 x.h.d) (.string x.h.name) (.int .i64 x.h.k) (.slice x.A x.len x.cap) ∧ cz6 w' gb (.int .i64 y.h.kind) (.int .i64 y.h.n) (.int .i64 y.h.d) (.string y.h.name) (.int .i64 y.h.k) (.slice y.A y.len y.cap)) (by kernel_rfl) ⟨P.out.cz6, Q.out.cz6⟩ fun hHeld => ?_
   refine tkW 0 ?_
   refine tkW 1 ?_
   refine tkW 3 ?_
   refine tkW 5 ?_
   refine tkW 6 ?_
   refine wr1 2 fun K hK => ?_
   go_simp
   (with_reducible refine (operand_at f IH.out T.a x _ p (cp.out.belowW g.out) ce.out ck.out O.out).mono ?_)
   rintro e w82 ⟨S1, rfl, R, i⟩; have U := P.out.b9 i; have V := Q.out.b9 i; have ba := g.out.t i; have dc : S1.size = (par p la).length := (by rw [strp_size R.out, ← ai.out])
   go_wp2_with fail
   clear hHeld
   refine hK.out _ _ ⟨U.out.cz6, V.out.cz6⟩ fun hHeld => ?_
   clear hK K
   try simp only [qa, qb, qc]
   refine tkW 4 ?_
   refine wr1 7 fun K hK => ?_
   go_simp
   (with_reducible refine (sum_p y _).mono ?_)
   rw [a8.out]; rintro e w83 ⟨rfl, j⟩; have W := U.out.b9 j; have X := V.out.b9 j; have an := ba.out.t j
   go_wp2_with fail
   clear hHeld
   refine hK.out _ _ ⟨W.out.cz6, X.out.cz6⟩ fun hHeld => ?_
   clear hK K
   try simp only [qa, qb, qc]
   refine tkW 8 ?_
   refine tkW 9 ?_
   refine wr1 10 fun K hK => ?_
   go_simp
   (with_reducible refine (prod_p y _).mono ?_)
   rw [cb.out]; rintro e w84 ⟨rfl, m⟩; have aa := W.out.b9 m; have ab := X.out.b9 m; have bk := an.out.t m
   go_wp2_with fail
   clear hHeld
   refine hK.out _ _ ⟨aa.out.cz6, ab.out.cz6⟩ fun hHeld => ?_
   clear hK K
   try simp only [qa, qb, qc]
   refine tkW 11 ?_
   refine tkW 12 ?_
   refine tkV 13 ?_
   refine tkV 14 ?_
   refine tkW 15 ?_
   refine wr1 16 fun K hK => ?_
   go_simp
   (with_reducible refine (operand_at f IH.out T.b y _ true ((((cq.out.belowW g.out).belowW i.out).belowW j.out).belowW m.out) cf.out cl.out (((O.out.belowW i.out).belowW j.out).belowW m.out)).mono ?_)
   rintro e w85 ⟨S2, rfl, Y, s⟩; have bb := aa.out.b9 s; have bc := ab.out.b9 s; have df : S2.size = (par true lb).length := (by rw [strp_size Y.out, ← aj.out])
   go_wp2_with fail
   clear hHeld
   refine hK.out _ _ ⟨bb.out.cz6, bc.out.cz6⟩ fun hHeld => ?_
   clear hK K
   try simp only [qa, qb, qc]
   refine tkW 17 ?_
   refine tkW 18 ?_
   refine wpAnyH_done (by kernel_rfl) ?_ _
   go_wp2_with fail
   go_ret
   exact ⟨_, rfl, hI (by rw [data_app, data_app, R.out, Y.out, ← ai.out, ← aj.out, Z.out, List.append_assoc]), (hI (am.out.trans ((bk.out.trans (s.out.mono bk.out.size)).mono am.out.size)))⟩
 | true =>
  have N := hI (show nb = true by rw [cm.out]; unfold need2; rw [ds]; rfl); rw [N.out] at c2 Z ci; have a8 := hI ds; clear ds; have g := hI (below_dr H); have O := co.out.b9 g; have P := cr.out.b9 g; have Q := cs.out.b9 g
  refine wp_region_held_drew (S := fun w' => cz6 w' ga (.int .i64 x.h.kind) (.int .i64 x.h.n) (.int .i64 x.h.d) (.string x.h.name) (.int .i64 x.h.k) (.slice x.A x.len x.cap) ∧ cz6 w' gb (.int .i64 y.h.kind) (.int .i64 y.h.n) (.int .i64 y.h.d) (.string y.h.name) (.int .i64 y.h.k) (.slice y.A y.len y.cap)) (by kernel_rfl) ⟨P.out.cz6, Q.out.cz6⟩ fun hHeld => ?_
  refine tkW 0 ?_
  refine tkW 1 ?_
  refine tkW 3 ?_
  refine tkW 5 ?_
  refine tkW 6 ?_
  refine wr1 2 fun K hK => ?_
  go_simp
  (with_reducible refine (operand_at f IH.out T.a x _ p (cp.out.belowW g.out) ce.out ck.out O.out).mono ?_)
  rintro e w82 ⟨S1, rfl, R, i⟩; have U := P.out.b9 i; have V := Q.out.b9 i; have ba := g.out.t i; have dc : S1.size = (par p la).length := (by rw [strp_size R.out, ← ai.out])
  go_wp2_with fail
  clear hHeld
  refine hK.out _ _ ⟨U.out.cz6, V.out.cz6⟩ fun hHeld => ?_
  clear hK K
  try simp only [qa, qb, qc]
  refine tkW 4 ?_
  refine wr1 7 fun K hK => ?_
  go_simp
  (with_reducible refine (sum_p y _).mono ?_)
  rw [a8.out]; rintro e w83 ⟨rfl, j⟩; have W := U.out.b9 j; have X := V.out.b9 j; have an := ba.out.t j
  go_wp2_with fail
  clear hHeld
  refine hK.out _ _ ⟨W.out.cz6, X.out.cz6⟩ fun hHeld => ?_
  clear hK K
  try simp only [qa, qb, qc]
  refine tkW 8 ?_
  refine tkV 9 ?_
  refine tkV 10 ?_
  refine tkW 11 ?_
  refine tkW 12 ?_
  refine tkV 13 ?_
  refine tkV 14 ?_
  refine tkW 15 ?_
  refine wr1 16 fun K hK => ?_
  go_simp
  (with_reducible refine (operand_at f IH.out T.b y _ true (((cq.out.belowW g.out).belowW i.out).belowW j.out) cf.out cl.out ((O.out.belowW i.out).belowW j.out)).mono ?_)
  rintro e w84 ⟨S2, rfl, Y, m⟩; have aa := W.out.b9 m; have ab := X.out.b9 m; have df : S2.size = (par true lb).length := (by rw [strp_size Y.out, ← aj.out])
  go_wp2_with fail
  clear hHeld
  refine hK.out _ _ ⟨aa.out.cz6, ab.out.cz6⟩ fun hHeld => ?_
  clear hK K
  try simp only [qa, qb, qc]
  refine tkW 17 ?_
  refine tkW 18 ?_
  refine wpAnyH_done (by kernel_rfl) ?_ _
  go_wp2_with fail
  go_ret
  exact ⟨_, rfl, hI (by rw [data_app, data_app, R.out, Y.out, ← ai.out, ← aj.out, Z.out, List.append_assoc]), (hI (am.out.trans ((an.out.trans (m.out.mono an.out.size)).mono am.out.size)))⟩
end Go.Proofs.YtkjoohnndobjeaaGreatDoor
