/-
  The walk of the program's text of an expression, kind by kind.
-/
import Derived.Test.YtkjoohnndobjeaaGreatDoorQc
import Derived.Test.YtkjoohnndobjeaaGreatDoorQH
set_option linter.unusedVariables false
set_option maxHeartbeats 8000000
set_option maxRecDepth 100000
namespace Go.Proofs.YtkjoohnndobjeaaGreatDoor
open Go.RowKit Go.Fl Go.Fl.Nm Go.Fl.Fm Go.Fl.Rt
open List renaming setIfInBounds_toArray → qa, set_cons_zero → qb, set_cons_succ → qc, getElem_toArray → qd, getElem_cons_zero → qe, getElem_cons_succ → qf

theorem expr_k8 (f : Nat) (ih : ExprAt f) (T : TE) (v : Nd) (w : World) (hin : InE w T v) (hg : good nameP (f + 1) T) (hl : (txt (f + 1) T).length ≤ 20000) (ht : RB w) (hk : v.h.kind = 8) :
 Calls Tryz.prog 55 #[v.val] w (StrP (txt (f + 1) T) w) := by
 have bh := hg.1
 rw [hin.hd, hin.length] at bh
 have bi : v.len = 1 := by rcases node_kinds bh with h | h | h | h | h | h <;> omega
 have bp : T.l.length = 1 := by rw [hin.length]; exact bi
 obtain ⟨T1, hT⟩ := list1 bp
 have bq : T.a = T1 := by unfold TE.a; rw [hT]; rfl
 have br : good nameP f T.a := hg.2 _ (by rw [bq, hT]; exact List.mem_cons_self ..)
 have aw := hI br
 have HT := hI ht
 have IH := hI ih
 have bs : T.h.kind = v.h.kind := by rw [hin.hd]
 have bt : T.h.k = v.h.k := by rw [hin.hd]
 have P := hI hin.ok
 obtain ⟨b, o, x, hA, hx, ex⟩ := hin.one bi
 have bw : T.a.h = x.h := hx.hd
 have b1 : 0 ≤ v.h.k ∧ v.h.k ≤ 16 := by rcases node_kinds bh with h | h | h | h | h | h <;> omega
 have M := hI (show txt (f + 1) T = par (needW x.h) (txt f T.a) ++ 94 :: Lib.itoa v.h.k by
  show (if _ then _ else _) = _
  rw [bs, hk, if_neg (by decide), if_neg (by decide), if_neg (by decide), if_neg (by decide), if_pos rfl, bw, bt])
 have HX := hI hx
 have EX := hI ex
 obtain ⟨la, bj⟩ := eX (txt f T.a)
 obtain ⟨L, hL⟩ := eX (txt (f + 1) T)
 rw [← bj, ← hL] at M
 rw [← hL] at hl ⊢
 obtain ⟨nd, bn⟩ := eX (needW x.h)
 rw [← bn] at M
 obtain ⟨li, bo⟩ := eX (Lib.itoa v.h.k)
 rw [← bo] at M
 have Q := hI (show Lib.itoa v.h.k = li from bo.symm)
 have b2 : (par nd la).length + 1 + li.length ≤ 20000 := by
  have h := congrArg List.length M.out; rw [List.length_append, List.length_cons] at h
  omega
 have a1 := (par_len nd la).1
 have c1 : ¬ (9223372036854775807 < (par nd la).length + 1) := by omega
 have c2 : ¬ (9223372036854775807 < (par nd la).length + 1 + li.length) := by omega
 have a4 := hI bn
 clear bn bo
 have a5 := hI (show (txt f T.a).length ≤ 20000 by rw [← bj]; omega)
 have U := hI bj
 clear bj hL hin hg hl ht ih hx ex br hT bq bp bh bs bt bw
 obtain ⟨⟨kd, n, d, nm, k⟩, A, b4, V⟩ := v
 simp only at hk hA bi P M
 subst hA bi
 simp only at Q b1
 subst hk
 simp only [Nd.val]
 cases cs : sumK x.h.kind with
 | false =>
  cases cp : prodK x.h.kind with
  | false =>
   cases c7 : (x.h.kind == 7) with
   | false =>
    cases c8 : (x.h.kind == 8) with
    | false =>
     cases cb : brok x.h with
     | false =>
      cases cw : whl x.h with
      | false =>
       have Y := hI (show nd = false by rw [a4.out]; unfold needW; rw [cs, cp, c7, c8, cb, cw]; rfl); rw [Y.out] at c1 c2 M a1; have Z := hI cs; have an := hI cp; have bc := hI cb; have bf := hI cw; clear cs cp cb cw
       go_enter Tryz.func55, Tryz.ntmps55
       go_upto_region 1 with (fail)
       obtain ⟨c, i, r, y⟩ := aX w 29 #[.int .i64 8, .int .i64 n, .int .i64 d, .string nm, .int .i64 k, .slice (some ⟨b, o, none⟩) 1 V]; rw [← i]; clear i; have g := EX.out.b9 r; have pk : c.cell? ⟨w.heap.size, 0, none⟩ = some (.int .i64 8) := y.out.cell 0; have p5 : c.cell? ⟨w.heap.size, 5, none⟩ = some (.slice (some ⟨b, o, none⟩) 1 V) := y.out.cell 5; have q0 : c.cell? ⟨b, o, none⟩ = some (.int .i64 x.h.kind) := g.out.c0; have q1 : c.cell? ⟨b, o + 1, none⟩ = some (.int .i64 x.h.n) := g.out.c1; have q2 : c.cell? ⟨b, o + 2, none⟩ = some (.int .i64 x.h.d) := g.out.c2; have q3 : c.cell? ⟨b, o + 3, none⟩ = some (.string x.h.name) := g.out.c3; have q4 : c.cell? ⟨b, o + 4, none⟩ = some (.int .i64 x.h.k) := g.out.c4; have q5 : c.cell? ⟨b, o + 5, none⟩ = some (.slice x.A x.len x.cap) := g.out.c5
       go_upto_region 25 with (fail)
       clear pk p5 q0 q1 q2 q3 q4 q5; obtain ⟨w2, i, s, aj⟩ := aX c 29 #[.int .i64 x.h.kind, .int .i64 x.h.n, .int .i64 x.h.d, .string x.h.name, .int .i64 x.h.k, .slice x.A x.len x.cap]; rw [← i]; clear i; have z := r.out.t s; have j := hI (below_dr w2); have B := hI ((y.out.belowW s.out).belowW j.out); have C := aj.out.b9 j
       refine wp_region_held_drew (S := fun w' => cz6 w' c.heap.size (.int .i64 x.h.kind) (.int .i64 x.h.n) (.int .i64 x.h.d) (.string x.h.name) (.int .i64 x.h.k) (.slice x.A x.len x.cap) ∧ w'.cell? ⟨w.heap.size, 4, none⟩ = some (.int .i64 k)) (by kernel_rfl) ⟨C.out.cz6, B.out.cell 4⟩ fun hHeld => ?_
       refine tkW 0 ?_
       refine tkW 1 ?_
       refine tkW 33 ?_
       refine tkW 34 ?_
       refine wr1 2 fun K hK => ?_
       go_simp
       (with_reducible refine (sum_p x _).mono ?_)
       rw [Z.out]; rintro e w4 ⟨rfl, m⟩; have D := B.out.b9 m; have E := C.out.b9 m; have ak := j.out.t m
       go_wp2_with fail
       clear hHeld
       refine hK.out _ _ ⟨E.out.cz6, D.out.cell 4⟩ fun hHeld => ?_
       clear hK K
       try simp only [qa, qb, qc]
       refine tkW 3 ?_
       refine tkW 4 ?_
       refine wr1 5 fun K hK => ?_
       go_simp
       (with_reducible refine (prod_p x _).mono ?_)
       rw [an.out]; rintro e w5 ⟨rfl, p⟩; have F := D.out.b9 p; have G := E.out.b9 p; have W := ak.out.t p
       go_wp2_with fail
       clear hHeld
       refine hK.out _ _ ⟨G.out.cz6, F.out.cell 4⟩ fun hHeld => ?_
       clear hK K
       try simp only [qa, qb, qc]
       refine tkW 6 ?_
       refine tkW 7 ?_
       refine tkW 8 ?_
       refine tkW 9 ?_
       refine tkW 10 ?_
       refine tkW 11 ?_
       refine tkW 12 ?_
       refine tkW 13 ?_
       refine tkW 14 ?_
       refine tkW 15 ?_
       refine tkW 16 ?_
       refine tkW 17 ?_
       refine tkW 18 ?_
       refine wr1 19 fun K hK => ?_
       go_simp
       (with_reducible refine (brok_p x _).mono ?_)
       rw [bc.out]; rintro e w6 ⟨rfl, q⟩; have N := F.out.b9 q; have J := G.out.b9 q; have X := W.out.t q
       go_wp2_with fail
       clear hHeld
       refine hK.out _ _ ⟨J.out.cz6, N.out.cell 4⟩ fun hHeld => ?_
       clear hK K
       try simp only [qa, qb, qc]
       refine tkW 20 ?_
       refine tkW 21 ?_
       refine tkW 22 ?_
       refine wr1 23 fun K hK => ?_
       go_simp
       (with_reducible refine (whl_p x _).mono ?_)
       rw [bf.out]; rintro e w7 ⟨rfl, u⟩; have a7 := hI (((((((HT.out.belowW r.out).belowW s.out).belowW j.out).belowW m.out).belowW p.out).belowW q.out).belowW u.out); have ar := N.out.b9 u; have R := J.out.b9 u; have a8 := X.out.t u
       go_wp2_with fail
       clear hHeld
       refine hK.out _ _ ⟨R.out.cz6, ar.out.cell 4⟩ fun hHeld => ?_
       clear hK K
       try simp only [qa, qb, qc]
       refine tkW 24 ?_
       refine tkV 25 ?_
       refine tkV 26 ?_
       refine tkV 27 ?_
       refine tkV 28 ?_
       refine tkW 29 ?_
       refine tkW 30 ?_
       refine wr1 31 fun K hK => ?_
       go_simp
       (with_reducible refine (operand_at f IH.out T.a x _ false (((((((HX.out.belowW r.out).belowW s.out).belowW j.out).belowW m.out).belowW p.out).belowW q.out).belowW u.out) aw.out a5.out a7.out).mono ?_)
       rintro e w8 ⟨S1, rfl, H, O⟩; have a9 := ar.out.b9 O; have av := R.out.b9 O; have ba := a8.out.t O; have bd : S1.size = (par false la).length := (by rw [strp_size H.out, ← U.out])
       go_wp2_with fail
       clear hHeld
       refine hK.out _ _ ⟨av.out.cz6, a9.out.cell 4⟩ fun hHeld => ?_
       clear hK K
       try simp only [qa, qb, qc]
       refine tkW 32 ?_
       refine wr1 35 fun K hK => ?_
       go_simp
       (with_reducible refine (itoa_any k _ (a7.out.belowW O.out) P.out.e1 P.out.e2).mono ?_)
       rintro e w9 ⟨S2, rfl, I, au⟩; have bg := av.out.b9 au; have be : S2.size = li.length := (by rw [strp_size I.out, Q.out])
       go_wp2_with fail
       clear hHeld
       refine hK.out _ _ ⟨bg.out.cz6, (a9.out.belowW au.out).cell 4⟩ fun hHeld => ?_
       clear hK K
       try simp only [qa, qb, qc]
       refine tkW 36 ?_
       refine tkW 37 ?_
       refine wpAnyH_done (by kernel_rfl) ?_ _
       go_wp2_with fail
       go_ret
       exact ⟨_, rfl, hI (by rw [data_app, data_app, H.out, I.out, ← U.out, Q.out, M.out, List.append_assoc]; rfl), (hI (z.out.trans ((ba.out.trans (au.out.mono ba.out.size)).mono z.out.size)))⟩
      | true =>
       cases cn : decide (x.h.n < 0) with
       | false =>
        have Y := hI (show nd = false by rw [a4.out]; unfold needW; rw [cs, cp, c7, c8, cb, cw, cn]; rfl); rw [Y.out] at c1 c2 M a1; have Z := hI cs; have an := hI cp; have bc := hI cb; have bf := hI cw; clear cs cp cb cw
        go_enter Tryz.func55, Tryz.ntmps55
        go_upto_region 1 with (fail)
        obtain ⟨c, i, r, y⟩ := aX w 29 #[.int .i64 8, .int .i64 n, .int .i64 d, .string nm, .int .i64 k, .slice (some ⟨b, o, none⟩) 1 V]; rw [← i]; clear i; have g := EX.out.b9 r; have pk : c.cell? ⟨w.heap.size, 0, none⟩ = some (.int .i64 8) := y.out.cell 0; have p5 : c.cell? ⟨w.heap.size, 5, none⟩ = some (.slice (some ⟨b, o, none⟩) 1 V) := y.out.cell 5; have q0 : c.cell? ⟨b, o, none⟩ = some (.int .i64 x.h.kind) := g.out.c0; have q1 : c.cell? ⟨b, o + 1, none⟩ = some (.int .i64 x.h.n) := g.out.c1; have q2 : c.cell? ⟨b, o + 2, none⟩ = some (.int .i64 x.h.d) := g.out.c2; have q3 : c.cell? ⟨b, o + 3, none⟩ = some (.string x.h.name) := g.out.c3; have q4 : c.cell? ⟨b, o + 4, none⟩ = some (.int .i64 x.h.k) := g.out.c4; have q5 : c.cell? ⟨b, o + 5, none⟩ = some (.slice x.A x.len x.cap) := g.out.c5
        go_upto_region 25 with (fail)
        clear pk p5 q0 q1 q2 q3 q4 q5; obtain ⟨w2, i, s, aj⟩ := aX c 29 #[.int .i64 x.h.kind, .int .i64 x.h.n, .int .i64 x.h.d, .string x.h.name, .int .i64 x.h.k, .slice x.A x.len x.cap]; rw [← i]; clear i; have z := r.out.t s; have j := hI (below_dr w2); have B := hI ((y.out.belowW s.out).belowW j.out); have C := aj.out.b9 j
        refine wp_region_held_drew (S := fun w' => cz6 w' c.heap.size (.int .i64 x.h.kind) (.int .i64 x.h.n) (.int .i64 x.h.d) (.string x.h.name) (.int .i64 x.h.k) (.slice x.A x.len x.cap) ∧ w'.cell? ⟨w.heap.size, 4, none⟩ = some (.int .i64 k)) (by kernel_rfl) ⟨C.out.cz6, B.out.cell 4⟩ fun hHeld => ?_
        refine tkW 0 ?_
        refine tkW 1 ?_
        refine tkW 33 ?_
        refine tkW 34 ?_
        refine wr1 2 fun K hK => ?_
        go_simp
        (with_reducible refine (sum_p x _).mono ?_)
        rw [Z.out]; rintro e w4 ⟨rfl, m⟩; have D := B.out.b9 m; have E := C.out.b9 m; have ak := j.out.t m
        go_wp2_with fail
        clear hHeld
        refine hK.out _ _ ⟨E.out.cz6, D.out.cell 4⟩ fun hHeld => ?_
        clear hK K
        try simp only [qa, qb, qc]
        refine tkW 3 ?_
        refine tkW 4 ?_
        refine wr1 5 fun K hK => ?_
        go_simp
        (with_reducible refine (prod_p x _).mono ?_)
        rw [an.out]; rintro e w5 ⟨rfl, p⟩; have F := D.out.b9 p; have G := E.out.b9 p; have W := ak.out.t p
        go_wp2_with fail
        clear hHeld
        refine hK.out _ _ ⟨G.out.cz6, F.out.cell 4⟩ fun hHeld => ?_
        clear hK K
        try simp only [qa, qb, qc]
        refine tkW 6 ?_
        refine tkW 7 ?_
        refine tkW 8 ?_
        refine tkW 9 ?_
        refine tkW 10 ?_
        refine tkW 11 ?_
        refine tkW 12 ?_
        refine tkW 13 ?_
        refine tkW 14 ?_
        refine tkW 15 ?_
        refine tkW 16 ?_
        refine tkW 17 ?_
        refine tkW 18 ?_
        refine wr1 19 fun K hK => ?_
        go_simp
        (with_reducible refine (brok_p x _).mono ?_)
        rw [bc.out]; rintro e w6 ⟨rfl, q⟩; have N := F.out.b9 q; have J := G.out.b9 q; have X := W.out.t q
        go_wp2_with fail
        clear hHeld
        refine hK.out _ _ ⟨J.out.cz6, N.out.cell 4⟩ fun hHeld => ?_
        clear hK K
        try simp only [qa, qb, qc]
        refine tkW 20 ?_
        refine tkW 21 ?_
        refine tkW 22 ?_
        refine wr1 23 fun K hK => ?_
        go_simp
        (with_reducible refine (whl_p x _).mono ?_)
        rw [bf.out]; rintro e w7 ⟨rfl, u⟩; have a7 := hI (((((((HT.out.belowW r.out).belowW s.out).belowW j.out).belowW m.out).belowW p.out).belowW q.out).belowW u.out); have ar := N.out.b9 u; have R := J.out.b9 u; have a8 := X.out.t u
        go_wp2_with fail
        clear hHeld
        refine hK.out _ _ ⟨R.out.cz6, ar.out.cell 4⟩ fun hHeld => ?_
        clear hK K
        try simp only [qa, qb, qc]
        refine tkW 24 ?_
        refine tkW 25 ?_
        refine tkW 26 ?_
        refine tkW 27 ?_
        refine tkW 28 ?_
        refine tkW 29 ?_
        refine tkW 30 ?_
        refine wr1 31 fun K hK => ?_
        go_simp
        (with_reducible refine (operand_at f IH.out T.a x _ false (((((((HX.out.belowW r.out).belowW s.out).belowW j.out).belowW m.out).belowW p.out).belowW q.out).belowW u.out) aw.out a5.out a7.out).mono ?_)
        rintro e w8 ⟨S1, rfl, H, O⟩; have a9 := ar.out.b9 O; have av := R.out.b9 O; have ba := a8.out.t O; have bd : S1.size = (par false la).length := (by rw [strp_size H.out, ← U.out])
        go_wp2_with fail
        clear hHeld
        refine hK.out _ _ ⟨av.out.cz6, a9.out.cell 4⟩ fun hHeld => ?_
        clear hK K
        try simp only [qa, qb, qc]
        refine tkW 32 ?_
        refine wr1 35 fun K hK => ?_
        go_simp
        (with_reducible refine (itoa_any k _ (a7.out.belowW O.out) P.out.e1 P.out.e2).mono ?_)
        rintro e w9 ⟨S2, rfl, I, au⟩; have bg := av.out.b9 au; have be : S2.size = li.length := (by rw [strp_size I.out, Q.out])
        go_wp2_with fail
        clear hHeld
        refine hK.out _ _ ⟨bg.out.cz6, (a9.out.belowW au.out).cell 4⟩ fun hHeld => ?_
        clear hK K
        try simp only [qa, qb, qc]
        refine tkW 36 ?_
        refine tkW 37 ?_
        refine wpAnyH_done (by kernel_rfl) ?_ _
        go_wp2_with fail
        go_ret
        exact ⟨_, rfl, hI (by rw [data_app, data_app, H.out, I.out, ← U.out, Q.out, M.out, List.append_assoc]; rfl), (hI (z.out.trans ((ba.out.trans (au.out.mono ba.out.size)).mono z.out.size)))⟩
       | true =>
        have Y := hI (show nd = true by rw [a4.out]; unfold needW; rw [cs, cp, c7, c8, cb, cw, cn]; rfl); rw [Y.out] at c1 c2 M a1; have Z := hI cs; have an := hI cp; have bc := hI cb; have bf := hI cw; clear cs cp cb cw
        go_enter Tryz.func55, Tryz.ntmps55
        go_upto_region 1 with (fail)
        obtain ⟨c, i, r, y⟩ := aX w 29 #[.int .i64 8, .int .i64 n, .int .i64 d, .string nm, .int .i64 k, .slice (some ⟨b, o, none⟩) 1 V]; rw [← i]; clear i; have g := EX.out.b9 r; have pk : c.cell? ⟨w.heap.size, 0, none⟩ = some (.int .i64 8) := y.out.cell 0; have p5 : c.cell? ⟨w.heap.size, 5, none⟩ = some (.slice (some ⟨b, o, none⟩) 1 V) := y.out.cell 5; have q0 : c.cell? ⟨b, o, none⟩ = some (.int .i64 x.h.kind) := g.out.c0; have q1 : c.cell? ⟨b, o + 1, none⟩ = some (.int .i64 x.h.n) := g.out.c1; have q2 : c.cell? ⟨b, o + 2, none⟩ = some (.int .i64 x.h.d) := g.out.c2; have q3 : c.cell? ⟨b, o + 3, none⟩ = some (.string x.h.name) := g.out.c3; have q4 : c.cell? ⟨b, o + 4, none⟩ = some (.int .i64 x.h.k) := g.out.c4; have q5 : c.cell? ⟨b, o + 5, none⟩ = some (.slice x.A x.len x.cap) := g.out.c5
        go_upto_region 25 with (fail)
        clear pk p5 q0 q1 q2 q3 q4 q5; obtain ⟨w2, i, s, aj⟩ := aX c 29 #[.int .i64 x.h.kind, .int .i64 x.h.n, .int .i64 x.h.d, .string x.h.name, .int .i64 x.h.k, .slice x.A x.len x.cap]; rw [← i]; clear i; have z := r.out.t s; have j := hI (below_dr w2); have B := hI ((y.out.belowW s.out).belowW j.out); have C := aj.out.b9 j
        refine wp_region_held_drew (S := fun w' => cz6 w' c.heap.size (.int .i64 x.h.kind) (.int .i64 x.h.n) (.int .i64 x.h.d) (.string x.h.name) (.int .i64 x.h.k) (.slice x.A x.len x.cap) ∧ w'.cell? ⟨w.heap.size, 4, none⟩ = some (.int .i64 k)) (by kernel_rfl) ⟨C.out.cz6, B.out.cell 4⟩ fun hHeld => ?_
        refine tkW 0 ?_
        refine tkW 1 ?_
        refine tkW 33 ?_
        refine tkW 34 ?_
        refine wr1 2 fun K hK => ?_
        go_simp
        (with_reducible refine (sum_p x _).mono ?_)
        rw [Z.out]; rintro e w4 ⟨rfl, m⟩; have D := B.out.b9 m; have E := C.out.b9 m; have ak := j.out.t m
        go_wp2_with fail
        clear hHeld
        refine hK.out _ _ ⟨E.out.cz6, D.out.cell 4⟩ fun hHeld => ?_
        clear hK K
        try simp only [qa, qb, qc]
        refine tkW 3 ?_
        refine tkW 4 ?_
        refine wr1 5 fun K hK => ?_
        go_simp
        (with_reducible refine (prod_p x _).mono ?_)
        rw [an.out]; rintro e w5 ⟨rfl, p⟩; have F := D.out.b9 p; have G := E.out.b9 p; have W := ak.out.t p
        go_wp2_with fail
        clear hHeld
        refine hK.out _ _ ⟨G.out.cz6, F.out.cell 4⟩ fun hHeld => ?_
        clear hK K
        try simp only [qa, qb, qc]
        refine tkW 6 ?_
        refine tkW 7 ?_
        refine tkW 8 ?_
        refine tkW 9 ?_
        refine tkW 10 ?_
        refine tkW 11 ?_
        refine tkW 12 ?_
        refine tkW 13 ?_
        refine tkW 14 ?_
        refine tkW 15 ?_
        refine tkW 16 ?_
        refine tkW 17 ?_
        refine tkW 18 ?_
        refine wr1 19 fun K hK => ?_
        go_simp
        (with_reducible refine (brok_p x _).mono ?_)
        rw [bc.out]; rintro e w6 ⟨rfl, q⟩; have N := F.out.b9 q; have J := G.out.b9 q; have X := W.out.t q
        go_wp2_with fail
        clear hHeld
        refine hK.out _ _ ⟨J.out.cz6, N.out.cell 4⟩ fun hHeld => ?_
        clear hK K
        try simp only [qa, qb, qc]
        refine tkW 20 ?_
        refine tkW 21 ?_
        refine tkW 22 ?_
        refine wr1 23 fun K hK => ?_
        go_simp
        (with_reducible refine (whl_p x _).mono ?_)
        rw [bf.out]; rintro e w7 ⟨rfl, u⟩; have a7 := hI (((((((HT.out.belowW r.out).belowW s.out).belowW j.out).belowW m.out).belowW p.out).belowW q.out).belowW u.out); have ar := N.out.b9 u; have R := J.out.b9 u; have a8 := X.out.t u
        go_wp2_with fail
        clear hHeld
        refine hK.out _ _ ⟨R.out.cz6, ar.out.cell 4⟩ fun hHeld => ?_
        clear hK K
        try simp only [qa, qb, qc]
        refine tkW 24 ?_
        refine tkW 25 ?_
        refine tkW 26 ?_
        refine tkW 27 ?_
        refine tkW 28 ?_
        refine tkW 29 ?_
        refine tkW 30 ?_
        refine wr1 31 fun K hK => ?_
        go_simp
        (with_reducible refine (operand_at f IH.out T.a x _ true (((((((HX.out.belowW r.out).belowW s.out).belowW j.out).belowW m.out).belowW p.out).belowW q.out).belowW u.out) aw.out a5.out a7.out).mono ?_)
        rintro e w8 ⟨S1, rfl, H, O⟩; have a9 := ar.out.b9 O; have av := R.out.b9 O; have ba := a8.out.t O; have bd : S1.size = (par true la).length := (by rw [strp_size H.out, ← U.out])
        go_wp2_with fail
        clear hHeld
        refine hK.out _ _ ⟨av.out.cz6, a9.out.cell 4⟩ fun hHeld => ?_
        clear hK K
        try simp only [qa, qb, qc]
        refine tkW 32 ?_
        refine wr1 35 fun K hK => ?_
        go_simp
        (with_reducible refine (itoa_any k _ (a7.out.belowW O.out) P.out.e1 P.out.e2).mono ?_)
        rintro e w9 ⟨S2, rfl, I, au⟩; have bg := av.out.b9 au; have be : S2.size = li.length := (by rw [strp_size I.out, Q.out])
        go_wp2_with fail
        clear hHeld
        refine hK.out _ _ ⟨bg.out.cz6, (a9.out.belowW au.out).cell 4⟩ fun hHeld => ?_
        clear hK K
        try simp only [qa, qb, qc]
        refine tkW 36 ?_
        refine tkW 37 ?_
        refine wpAnyH_done (by kernel_rfl) ?_ _
        go_wp2_with fail
        go_ret
        exact ⟨_, rfl, hI (by rw [data_app, data_app, H.out, I.out, ← U.out, Q.out, M.out, List.append_assoc]; rfl), (hI (z.out.trans ((ba.out.trans (au.out.mono ba.out.size)).mono z.out.size)))⟩
     | true =>
      have Y := hI (show nd = true by rw [a4.out]; unfold needW; rw [cs, cp, c7, c8, cb]; rfl); rw [Y.out] at c1 c2 M a1; have Z := hI cs; have an := hI cp; have bc := hI cb; clear cs cp cb
      go_enter Tryz.func55, Tryz.ntmps55
      go_upto_region 1 with (fail)
      obtain ⟨c, i, r, y⟩ := aX w 29 #[.int .i64 8, .int .i64 n, .int .i64 d, .string nm, .int .i64 k, .slice (some ⟨b, o, none⟩) 1 V]; rw [← i]; clear i; have g := EX.out.b9 r; have pk : c.cell? ⟨w.heap.size, 0, none⟩ = some (.int .i64 8) := y.out.cell 0; have p5 : c.cell? ⟨w.heap.size, 5, none⟩ = some (.slice (some ⟨b, o, none⟩) 1 V) := y.out.cell 5; have q0 : c.cell? ⟨b, o, none⟩ = some (.int .i64 x.h.kind) := g.out.c0; have q1 : c.cell? ⟨b, o + 1, none⟩ = some (.int .i64 x.h.n) := g.out.c1; have q2 : c.cell? ⟨b, o + 2, none⟩ = some (.int .i64 x.h.d) := g.out.c2; have q3 : c.cell? ⟨b, o + 3, none⟩ = some (.string x.h.name) := g.out.c3; have q4 : c.cell? ⟨b, o + 4, none⟩ = some (.int .i64 x.h.k) := g.out.c4; have q5 : c.cell? ⟨b, o + 5, none⟩ = some (.slice x.A x.len x.cap) := g.out.c5
      go_upto_region 25 with (fail)
      clear pk p5 q0 q1 q2 q3 q4 q5; obtain ⟨w2, i, s, aj⟩ := aX c 29 #[.int .i64 x.h.kind, .int .i64 x.h.n, .int .i64 x.h.d, .string x.h.name, .int .i64 x.h.k, .slice x.A x.len x.cap]; rw [← i]; clear i; have z := r.out.t s; have j := hI (below_dr w2); have B := hI ((y.out.belowW s.out).belowW j.out); have C := aj.out.b9 j
      refine wp_region_held_drew (S := fun w' => cz6 w' c.heap.size (.int .i64 x.h.kind) (.int .i64 x.h.n) (.int .i64 x.h.d) (.string x.h.name) (.int .i64 x.h.k) (.slice x.A x.len x.cap) ∧ w'.cell? ⟨w.heap.size, 4, none⟩ = some (.int .i64 k)) (by kernel_rfl) ⟨C.out.cz6, B.out.cell 4⟩ fun hHeld => ?_
      refine tkW 0 ?_
      refine tkW 1 ?_
      refine tkW 33 ?_
      refine tkW 34 ?_
      refine wr1 2 fun K hK => ?_
      go_simp
      (with_reducible refine (sum_p x _).mono ?_)
      rw [Z.out]; rintro e w4 ⟨rfl, m⟩; have D := B.out.b9 m; have E := C.out.b9 m; have ak := j.out.t m
      go_wp2_with fail
      clear hHeld
      refine hK.out _ _ ⟨E.out.cz6, D.out.cell 4⟩ fun hHeld => ?_
      clear hK K
      try simp only [qa, qb, qc]
      refine tkW 3 ?_
      refine tkW 4 ?_
      refine wr1 5 fun K hK => ?_
      go_simp
      (with_reducible refine (prod_p x _).mono ?_)
      rw [an.out]; rintro e w5 ⟨rfl, p⟩; have F := D.out.b9 p; have G := E.out.b9 p; have W := ak.out.t p
      go_wp2_with fail
      clear hHeld
      refine hK.out _ _ ⟨G.out.cz6, F.out.cell 4⟩ fun hHeld => ?_
      clear hK K
      try simp only [qa, qb, qc]
      refine tkW 6 ?_
      refine tkW 7 ?_
      refine tkW 8 ?_
      refine tkW 9 ?_
      refine tkW 10 ?_
      refine tkW 11 ?_
      refine tkW 12 ?_
      refine tkW 13 ?_
      refine tkW 14 ?_
      refine tkW 15 ?_
      refine tkW 16 ?_
      refine tkW 17 ?_
      refine tkW 18 ?_
      refine wr1 19 fun K hK => ?_
      go_simp
      (with_reducible refine (brok_p x _).mono ?_)
      rw [bc.out]; rintro e w6 ⟨rfl, q⟩; have bx := hI ((((((HT.out.belowW r.out).belowW s.out).belowW j.out).belowW m.out).belowW p.out).belowW q.out); have N := F.out.b9 q; have J := G.out.b9 q; have X := W.out.t q
      go_wp2_with fail
      clear hHeld
      refine hK.out _ _ ⟨J.out.cz6, N.out.cell 4⟩ fun hHeld => ?_
      clear hK K
      try simp only [qa, qb, qc]
      refine tkW 20 ?_
      refine tkW 21 ?_
      refine tkV 22 ?_
      refine tkV 23 ?_
      refine tkV 24 ?_
      refine tkV 25 ?_
      refine tkV 26 ?_
      refine tkV 27 ?_
      refine tkV 28 ?_
      refine tkV 29 ?_
      refine tkW 30 ?_
      refine wr1 31 fun K hK => ?_
      go_simp
      (with_reducible refine (operand_at f IH.out T.a x _ true ((((((HX.out.belowW r.out).belowW s.out).belowW j.out).belowW m.out).belowW p.out).belowW q.out) aw.out a5.out bx.out).mono ?_)
      rintro e w7 ⟨S1, rfl, H, u⟩; have ar := N.out.b9 u; have R := J.out.b9 u; have a8 := X.out.t u; have bd : S1.size = (par true la).length := (by rw [strp_size H.out, ← U.out])
      go_wp2_with fail
      clear hHeld
      refine hK.out _ _ ⟨R.out.cz6, ar.out.cell 4⟩ fun hHeld => ?_
      clear hK K
      try simp only [qa, qb, qc]
      refine tkW 32 ?_
      refine wr1 35 fun K hK => ?_
      go_simp
      (with_reducible refine (itoa_any k _ (bx.out.belowW u.out) P.out.e1 P.out.e2).mono ?_)
      rintro e w8 ⟨S2, rfl, I, O⟩; have av := R.out.b9 O; have be : S2.size = li.length := (by rw [strp_size I.out, Q.out])
      go_wp2_with fail
      clear hHeld
      refine hK.out _ _ ⟨av.out.cz6, (ar.out.belowW O.out).cell 4⟩ fun hHeld => ?_
      clear hK K
      try simp only [qa, qb, qc]
      refine tkW 36 ?_
      refine tkW 37 ?_
      refine wpAnyH_done (by kernel_rfl) ?_ _
      go_wp2_with fail
      go_ret
      exact ⟨_, rfl, hI (by rw [data_app, data_app, H.out, I.out, ← U.out, Q.out, M.out, List.append_assoc]; rfl), (hI (z.out.trans ((a8.out.trans (O.out.mono a8.out.size)).mono z.out.size)))⟩
    | true =>
     have Y := hI (show nd = true by rw [a4.out]; unfold needW; rw [cs, cp, c7, c8]; rfl); rw [Y.out] at c1 c2 M a1; have Z := hI cs; have an := hI cp; clear cs cp
     go_enter Tryz.func55, Tryz.ntmps55
     go_upto_region 1 with (fail)
     obtain ⟨c, i, r, y⟩ := aX w 29 #[.int .i64 8, .int .i64 n, .int .i64 d, .string nm, .int .i64 k, .slice (some ⟨b, o, none⟩) 1 V]; rw [← i]; clear i; have g := EX.out.b9 r; have pk : c.cell? ⟨w.heap.size, 0, none⟩ = some (.int .i64 8) := y.out.cell 0; have p5 : c.cell? ⟨w.heap.size, 5, none⟩ = some (.slice (some ⟨b, o, none⟩) 1 V) := y.out.cell 5; have q0 : c.cell? ⟨b, o, none⟩ = some (.int .i64 x.h.kind) := g.out.c0; have q1 : c.cell? ⟨b, o + 1, none⟩ = some (.int .i64 x.h.n) := g.out.c1; have q2 : c.cell? ⟨b, o + 2, none⟩ = some (.int .i64 x.h.d) := g.out.c2; have q3 : c.cell? ⟨b, o + 3, none⟩ = some (.string x.h.name) := g.out.c3; have q4 : c.cell? ⟨b, o + 4, none⟩ = some (.int .i64 x.h.k) := g.out.c4; have q5 : c.cell? ⟨b, o + 5, none⟩ = some (.slice x.A x.len x.cap) := g.out.c5
     go_upto_region 25 with (fail)
     clear pk p5 q0 q1 q2 q3 q4 q5; obtain ⟨w2, i, s, aj⟩ := aX c 29 #[.int .i64 x.h.kind, .int .i64 x.h.n, .int .i64 x.h.d, .string x.h.name, .int .i64 x.h.k, .slice x.A x.len x.cap]; rw [← i]; clear i; have z := r.out.t s; have j := hI (below_dr w2); have B := hI ((y.out.belowW s.out).belowW j.out); have C := aj.out.b9 j
     refine wp_region_held_drew (S := fun w' => cz6 w' c.heap.size (.int .i64 x.h.kind) (.int .i64 x.h.n) (.int .i64 x.h.d) (.string x.h.name) (.int .i64 x.h.k) (.slice x.A x.len x.cap) ∧ w'.cell? ⟨w.heap.size, 4, none⟩ = some (.int .i64 k)) (by kernel_rfl) ⟨C.out.cz6, B.out.cell 4⟩ fun hHeld => ?_
     refine tkW 0 ?_
     refine tkW 1 ?_
     refine tkW 33 ?_
     refine tkW 34 ?_
     refine wr1 2 fun K hK => ?_
     go_simp
     (with_reducible refine (sum_p x _).mono ?_)
     rw [Z.out]; rintro e w4 ⟨rfl, m⟩; have D := B.out.b9 m; have E := C.out.b9 m; have ak := j.out.t m
     go_wp2_with fail
     clear hHeld
     refine hK.out _ _ ⟨E.out.cz6, D.out.cell 4⟩ fun hHeld => ?_
     clear hK K
     try simp only [qa, qb, qc]
     refine tkW 3 ?_
     refine tkW 4 ?_
     refine wr1 5 fun K hK => ?_
     go_simp
     (with_reducible refine (prod_p x _).mono ?_)
     rw [an.out]; rintro e w5 ⟨rfl, p⟩; have bb := hI (((((HT.out.belowW r.out).belowW s.out).belowW j.out).belowW m.out).belowW p.out); have F := D.out.b9 p; have G := E.out.b9 p; have W := ak.out.t p
     go_wp2_with fail
     clear hHeld
     refine hK.out _ _ ⟨G.out.cz6, F.out.cell 4⟩ fun hHeld => ?_
     clear hK K
     try simp only [qa, qb, qc]
     refine tkW 6 ?_
     refine tkW 7 ?_
     refine tkW 8 ?_
     refine tkW 9 ?_
     refine tkW 10 ?_
     refine tkW 11 ?_
     refine tkW 12 ?_
     refine tkW 13 ?_
     refine tkW 14 ?_
     refine tkW 15 ?_
     refine tkW 16 ?_
     refine tkW 17 ?_
     refine tkV 18 ?_
     refine tkV 19 ?_
     refine tkW 20 ?_
     refine tkW 21 ?_
     refine tkV 22 ?_
     refine tkV 23 ?_
     refine tkV 24 ?_
     refine tkV 25 ?_
     refine tkV 26 ?_
     refine tkV 27 ?_
     refine tkV 28 ?_
     refine tkV 29 ?_
     refine tkW 30 ?_
     refine wr1 31 fun K hK => ?_
     go_simp
     (with_reducible refine (operand_at f IH.out T.a x _ true (((((HX.out.belowW r.out).belowW s.out).belowW j.out).belowW m.out).belowW p.out) aw.out a5.out bb.out).mono ?_)
     rintro e w6 ⟨S1, rfl, H, q⟩; have N := F.out.b9 q; have J := G.out.b9 q; have X := W.out.t q; have bd : S1.size = (par true la).length := (by rw [strp_size H.out, ← U.out])
     go_wp2_with fail
     clear hHeld
     refine hK.out _ _ ⟨J.out.cz6, N.out.cell 4⟩ fun hHeld => ?_
     clear hK K
     try simp only [qa, qb, qc]
     refine tkW 32 ?_
     refine wr1 35 fun K hK => ?_
     go_simp
     (with_reducible refine (itoa_any k _ (bb.out.belowW q.out) P.out.e1 P.out.e2).mono ?_)
     rintro e w7 ⟨S2, rfl, I, u⟩; have R := J.out.b9 u; have be : S2.size = li.length := (by rw [strp_size I.out, Q.out])
     go_wp2_with fail
     clear hHeld
     refine hK.out _ _ ⟨R.out.cz6, (N.out.belowW u.out).cell 4⟩ fun hHeld => ?_
     clear hK K
     try simp only [qa, qb, qc]
     refine tkW 36 ?_
     refine tkW 37 ?_
     refine wpAnyH_done (by kernel_rfl) ?_ _
     go_wp2_with fail
     go_ret
     exact ⟨_, rfl, hI (by rw [data_app, data_app, H.out, I.out, ← U.out, Q.out, M.out, List.append_assoc]; rfl), (hI (z.out.trans ((X.out.trans (u.out.mono X.out.size)).mono z.out.size)))⟩
   | true =>
    have Y := hI (show nd = true by rw [a4.out]; unfold needW; rw [cs, cp, c7]; rfl); rw [Y.out] at c1 c2 M a1; have Z := hI cs; have an := hI cp; clear cs cp
    go_enter Tryz.func55, Tryz.ntmps55
    go_upto_region 1 with (fail)
    obtain ⟨c, i, r, y⟩ := aX w 29 #[.int .i64 8, .int .i64 n, .int .i64 d, .string nm, .int .i64 k, .slice (some ⟨b, o, none⟩) 1 V]; rw [← i]; clear i; have g := EX.out.b9 r; have pk : c.cell? ⟨w.heap.size, 0, none⟩ = some (.int .i64 8) := y.out.cell 0; have p5 : c.cell? ⟨w.heap.size, 5, none⟩ = some (.slice (some ⟨b, o, none⟩) 1 V) := y.out.cell 5; have q0 : c.cell? ⟨b, o, none⟩ = some (.int .i64 x.h.kind) := g.out.c0; have q1 : c.cell? ⟨b, o + 1, none⟩ = some (.int .i64 x.h.n) := g.out.c1; have q2 : c.cell? ⟨b, o + 2, none⟩ = some (.int .i64 x.h.d) := g.out.c2; have q3 : c.cell? ⟨b, o + 3, none⟩ = some (.string x.h.name) := g.out.c3; have q4 : c.cell? ⟨b, o + 4, none⟩ = some (.int .i64 x.h.k) := g.out.c4; have q5 : c.cell? ⟨b, o + 5, none⟩ = some (.slice x.A x.len x.cap) := g.out.c5
    go_upto_region 25 with (fail)
    clear pk p5 q0 q1 q2 q3 q4 q5; obtain ⟨w2, i, s, aj⟩ := aX c 29 #[.int .i64 x.h.kind, .int .i64 x.h.n, .int .i64 x.h.d, .string x.h.name, .int .i64 x.h.k, .slice x.A x.len x.cap]; rw [← i]; clear i; have z := r.out.t s; have j := hI (below_dr w2); have B := hI ((y.out.belowW s.out).belowW j.out); have C := aj.out.b9 j
    refine wp_region_held_drew (S := fun w' => cz6 w' c.heap.size (.int .i64 x.h.kind) (.int .i64 x.h.n) (.int .i64 x.h.d) (.string x.h.name) (.int .i64 x.h.k) (.slice x.A x.len x.cap) ∧ w'.cell? ⟨w.heap.size, 4, none⟩ = some (.int .i64 k)) (by kernel_rfl) ⟨C.out.cz6, B.out.cell 4⟩ fun hHeld => ?_
    refine tkW 0 ?_
    refine tkW 1 ?_
    refine tkW 33 ?_
    refine tkW 34 ?_
    refine wr1 2 fun K hK => ?_
    go_simp
    (with_reducible refine (sum_p x _).mono ?_)
    rw [Z.out]; rintro e w4 ⟨rfl, m⟩; have D := B.out.b9 m; have E := C.out.b9 m; have ak := j.out.t m
    go_wp2_with fail
    clear hHeld
    refine hK.out _ _ ⟨E.out.cz6, D.out.cell 4⟩ fun hHeld => ?_
    clear hK K
    try simp only [qa, qb, qc]
    refine tkW 3 ?_
    refine tkW 4 ?_
    refine wr1 5 fun K hK => ?_
    go_simp
    (with_reducible refine (prod_p x _).mono ?_)
    rw [an.out]; rintro e w5 ⟨rfl, p⟩; have bb := hI (((((HT.out.belowW r.out).belowW s.out).belowW j.out).belowW m.out).belowW p.out); have F := D.out.b9 p; have G := E.out.b9 p; have W := ak.out.t p
    go_wp2_with fail
    clear hHeld
    refine hK.out _ _ ⟨G.out.cz6, F.out.cell 4⟩ fun hHeld => ?_
    clear hK K
    try simp only [qa, qb, qc]
    refine tkW 6 ?_
    refine tkW 7 ?_
    refine tkW 8 ?_
    refine tkW 9 ?_
    refine tkW 10 ?_
    refine tkW 11 ?_
    refine tkW 12 ?_
    refine tkV 13 ?_
    refine tkV 14 ?_
    refine tkV 15 ?_
    refine tkW 16 ?_
    refine tkW 17 ?_
    refine tkV 18 ?_
    refine tkV 19 ?_
    refine tkW 20 ?_
    refine tkW 21 ?_
    refine tkV 22 ?_
    refine tkV 23 ?_
    refine tkV 24 ?_
    refine tkV 25 ?_
    refine tkV 26 ?_
    refine tkV 27 ?_
    refine tkV 28 ?_
    refine tkV 29 ?_
    refine tkW 30 ?_
    refine wr1 31 fun K hK => ?_
    go_simp
    (with_reducible refine (operand_at f IH.out T.a x _ true (((((HX.out.belowW r.out).belowW s.out).belowW j.out).belowW m.out).belowW p.out) aw.out a5.out bb.out).mono ?_)
    rintro e w6 ⟨S1, rfl, H, q⟩; have N := F.out.b9 q; have J := G.out.b9 q; have X := W.out.t q; have bd : S1.size = (par true la).length := (by rw [strp_size H.out, ← U.out])
    go_wp2_with fail
    clear hHeld
    refine hK.out _ _ ⟨J.out.cz6, N.out.cell 4⟩ fun hHeld => ?_
    clear hK K
    try simp only [qa, qb, qc]
    refine tkW 32 ?_
    refine wr1 35 fun K hK => ?_
    go_simp
    (with_reducible refine (itoa_any k _ (bb.out.belowW q.out) P.out.e1 P.out.e2).mono ?_)
    rintro e w7 ⟨S2, rfl, I, u⟩; have R := J.out.b9 u; have be : S2.size = li.length := (by rw [strp_size I.out, Q.out])
    go_wp2_with fail
    clear hHeld
    refine hK.out _ _ ⟨R.out.cz6, (N.out.belowW u.out).cell 4⟩ fun hHeld => ?_
    clear hK K
    try simp only [qa, qb, qc]
    refine tkW 36 ?_
    refine tkW 37 ?_
    refine wpAnyH_done (by kernel_rfl) ?_ _
    go_wp2_with fail
    go_ret
    exact ⟨_, rfl, hI (by rw [data_app, data_app, H.out, I.out, ← U.out, Q.out, M.out, List.append_assoc]; rfl), (hI (z.out.trans ((X.out.trans (u.out.mono X.out.size)).mono z.out.size)))⟩
  | true =>
   have Y := hI (show nd = true by rw [a4.out]; unfold needW; rw [cs, cp]; rfl); rw [Y.out] at c1 c2 M a1; have Z := hI cs; have an := hI cp; clear cs cp
   go_enter Tryz.func55, Tryz.ntmps55
   go_upto_region 1 with (fail)
   obtain ⟨c, i, r, y⟩ := aX w 29 #[.int .i64 8, .int .i64 n, .int .i64 d, .string nm, .int .i64 k, .slice (some ⟨b, o, none⟩) 1 V]; rw [← i]; clear i; have g := EX.out.b9 r; have pk : c.cell? ⟨w.heap.size, 0, none⟩ = some (.int .i64 8) := y.out.cell 0; have p5 : c.cell? ⟨w.heap.size, 5, none⟩ = some (.slice (some ⟨b, o, none⟩) 1 V) := y.out.cell 5; have q0 : c.cell? ⟨b, o, none⟩ = some (.int .i64 x.h.kind) := g.out.c0; have q1 : c.cell? ⟨b, o + 1, none⟩ = some (.int .i64 x.h.n) := g.out.c1; have q2 : c.cell? ⟨b, o + 2, none⟩ = some (.int .i64 x.h.d) := g.out.c2; have q3 : c.cell? ⟨b, o + 3, none⟩ = some (.string x.h.name) := g.out.c3; have q4 : c.cell? ⟨b, o + 4, none⟩ = some (.int .i64 x.h.k) := g.out.c4; have q5 : c.cell? ⟨b, o + 5, none⟩ = some (.slice x.A x.len x.cap) := g.out.c5
   go_upto_region 25 with (fail)
   clear pk p5 q0 q1 q2 q3 q4 q5; obtain ⟨w2, i, s, aj⟩ := aX c 29 #[.int .i64 x.h.kind, .int .i64 x.h.n, .int .i64 x.h.d, .string x.h.name, .int .i64 x.h.k, .slice x.A x.len x.cap]; rw [← i]; clear i; have z := r.out.t s; have j := hI (below_dr w2); have B := hI ((y.out.belowW s.out).belowW j.out); have C := aj.out.b9 j
   refine wp_region_held_drew (S := fun w' => cz6 w' c.heap.size (.int .i64 x.h.kind) (.int .i64 x.h.n) (.int .i64 x.h.d) (.string x.h.name) (.int .i64 x.h.k) (.slice x.A x.len x.cap) ∧ w'.cell? ⟨w.heap.size, 4, none⟩ = some (.int .i64 k)) (by kernel_rfl) ⟨C.out.cz6, B.out.cell 4⟩ fun hHeld => ?_
   refine tkW 0 ?_
   refine tkW 1 ?_
   refine tkW 33 ?_
   refine tkW 34 ?_
   refine wr1 2 fun K hK => ?_
   go_simp
   (with_reducible refine (sum_p x _).mono ?_)
   rw [Z.out]; rintro e w4 ⟨rfl, m⟩; have D := B.out.b9 m; have E := C.out.b9 m; have ak := j.out.t m
   go_wp2_with fail
   clear hHeld
   refine hK.out _ _ ⟨E.out.cz6, D.out.cell 4⟩ fun hHeld => ?_
   clear hK K
   try simp only [qa, qb, qc]
   refine tkW 3 ?_
   refine tkW 4 ?_
   refine wr1 5 fun K hK => ?_
   go_simp
   (with_reducible refine (prod_p x _).mono ?_)
   rw [an.out]; rintro e w5 ⟨rfl, p⟩; have bb := hI (((((HT.out.belowW r.out).belowW s.out).belowW j.out).belowW m.out).belowW p.out); have F := D.out.b9 p; have G := E.out.b9 p; have W := ak.out.t p
   go_wp2_with fail
   clear hHeld
   refine hK.out _ _ ⟨G.out.cz6, F.out.cell 4⟩ fun hHeld => ?_
   clear hK K
   try simp only [qa, qb, qc]
   refine tkW 6 ?_
   refine tkW 7 ?_
   refine tkV 8 ?_
   refine tkV 9 ?_
   refine tkV 10 ?_
   refine tkW 11 ?_
   refine tkW 12 ?_
   refine tkV 13 ?_
   refine tkV 14 ?_
   refine tkV 15 ?_
   refine tkW 16 ?_
   refine tkW 17 ?_
   refine tkV 18 ?_
   refine tkV 19 ?_
   refine tkW 20 ?_
   refine tkW 21 ?_
   refine tkV 22 ?_
   refine tkV 23 ?_
   refine tkV 24 ?_
   refine tkV 25 ?_
   refine tkV 26 ?_
   refine tkV 27 ?_
   refine tkV 28 ?_
   refine tkV 29 ?_
   refine tkW 30 ?_
   refine wr1 31 fun K hK => ?_
   go_simp
   (with_reducible refine (operand_at f IH.out T.a x _ true (((((HX.out.belowW r.out).belowW s.out).belowW j.out).belowW m.out).belowW p.out) aw.out a5.out bb.out).mono ?_)
   rintro e w6 ⟨S1, rfl, H, q⟩; have N := F.out.b9 q; have J := G.out.b9 q; have X := W.out.t q; have bd : S1.size = (par true la).length := (by rw [strp_size H.out, ← U.out])
   go_wp2_with fail
   clear hHeld
   refine hK.out _ _ ⟨J.out.cz6, N.out.cell 4⟩ fun hHeld => ?_
   clear hK K
   try simp only [qa, qb, qc]
   refine tkW 32 ?_
   refine wr1 35 fun K hK => ?_
   go_simp
   (with_reducible refine (itoa_any k _ (bb.out.belowW q.out) P.out.e1 P.out.e2).mono ?_)
   rintro e w7 ⟨S2, rfl, I, u⟩; have R := J.out.b9 u; have be : S2.size = li.length := (by rw [strp_size I.out, Q.out])
   go_wp2_with fail
   clear hHeld
   refine hK.out _ _ ⟨R.out.cz6, (N.out.belowW u.out).cell 4⟩ fun hHeld => ?_
   clear hK K
   try simp only [qa, qb, qc]
   refine tkW 36 ?_
   refine tkW 37 ?_
   refine wpAnyH_done (by kernel_rfl) ?_ _
   go_wp2_with fail
   go_ret
   exact ⟨_, rfl, hI (by rw [data_app, data_app, H.out, I.out, ← U.out, Q.out, M.out, List.append_assoc]; rfl), (hI (z.out.trans ((X.out.trans (u.out.mono X.out.size)).mono z.out.size)))⟩
 | true =>
  have Y := hI (show nd = true by rw [a4.out]; unfold needW; rw [cs]; rfl); rw [Y.out] at c1 c2 M a1; have Z := hI cs; clear cs
  go_enter Tryz.func55, Tryz.ntmps55
  go_upto_region 1 with (fail)
  obtain ⟨c, i, r, y⟩ := aX w 29 #[.int .i64 8, .int .i64 n, .int .i64 d, .string nm, .int .i64 k, .slice (some ⟨b, o, none⟩) 1 V]; rw [← i]; clear i; have g := EX.out.b9 r; have pk : c.cell? ⟨w.heap.size, 0, none⟩ = some (.int .i64 8) := y.out.cell 0; have p5 : c.cell? ⟨w.heap.size, 5, none⟩ = some (.slice (some ⟨b, o, none⟩) 1 V) := y.out.cell 5; have q0 : c.cell? ⟨b, o, none⟩ = some (.int .i64 x.h.kind) := g.out.c0; have q1 : c.cell? ⟨b, o + 1, none⟩ = some (.int .i64 x.h.n) := g.out.c1; have q2 : c.cell? ⟨b, o + 2, none⟩ = some (.int .i64 x.h.d) := g.out.c2; have q3 : c.cell? ⟨b, o + 3, none⟩ = some (.string x.h.name) := g.out.c3; have q4 : c.cell? ⟨b, o + 4, none⟩ = some (.int .i64 x.h.k) := g.out.c4; have q5 : c.cell? ⟨b, o + 5, none⟩ = some (.slice x.A x.len x.cap) := g.out.c5
  go_upto_region 25 with (fail)
  clear pk p5 q0 q1 q2 q3 q4 q5; obtain ⟨w2, i, s, aj⟩ := aX c 29 #[.int .i64 x.h.kind, .int .i64 x.h.n, .int .i64 x.h.d, .string x.h.name, .int .i64 x.h.k, .slice x.A x.len x.cap]; rw [← i]; clear i; have z := r.out.t s; have j := hI (below_dr w2); have B := hI ((y.out.belowW s.out).belowW j.out); have C := aj.out.b9 j
  refine wp_region_held_drew (S := fun w' => cz6 w' c.heap.size (.int .i64 x.h.kind) (.int .i64 x.h.n) (.int .i64 x.h.d) (.string x.h.name) (.int .i64 x.h.k) (.slice x.A x.len x.cap) ∧ w'.cell? ⟨w.heap.size, 4, none⟩ = some (.int .i64 k)) (by kernel_rfl) ⟨C.out.cz6, B.out.cell 4⟩ fun hHeld => ?_
  refine tkW 0 ?_
  refine tkW 1 ?_
  refine tkW 33 ?_
  refine tkW 34 ?_
  refine wr1 2 fun K hK => ?_
  go_simp
  (with_reducible refine (sum_p x _).mono ?_)
  rw [Z.out]; rintro e w4 ⟨rfl, m⟩; have bz := hI ((((HT.out.belowW r.out).belowW s.out).belowW j.out).belowW m.out); have D := B.out.b9 m; have E := C.out.b9 m; have ak := j.out.t m
  go_wp2_with fail
  clear hHeld
  refine hK.out _ _ ⟨E.out.cz6, D.out.cell 4⟩ fun hHeld => ?_
  clear hK K
  try simp only [qa, qb, qc]
  refine tkW 3 ?_
  refine tkV 4 ?_
  refine tkV 5 ?_
  refine tkW 6 ?_
  refine tkW 7 ?_
  refine tkV 8 ?_
  refine tkV 9 ?_
  refine tkV 10 ?_
  refine tkW 11 ?_
  refine tkW 12 ?_
  refine tkV 13 ?_
  refine tkV 14 ?_
  refine tkV 15 ?_
  refine tkW 16 ?_
  refine tkW 17 ?_
  refine tkV 18 ?_
  refine tkV 19 ?_
  refine tkW 20 ?_
  refine tkW 21 ?_
  refine tkV 22 ?_
  refine tkV 23 ?_
  refine tkV 24 ?_
  refine tkV 25 ?_
  refine tkV 26 ?_
  refine tkV 27 ?_
  refine tkV 28 ?_
  refine tkV 29 ?_
  refine tkW 30 ?_
  refine wr1 31 fun K hK => ?_
  go_simp
  (with_reducible refine (operand_at f IH.out T.a x _ true ((((HX.out.belowW r.out).belowW s.out).belowW j.out).belowW m.out) aw.out a5.out bz.out).mono ?_)
  rintro e w5 ⟨S1, rfl, H, p⟩; have F := D.out.b9 p; have G := E.out.b9 p; have W := ak.out.t p; have bd : S1.size = (par true la).length := (by rw [strp_size H.out, ← U.out])
  go_wp2_with fail
  clear hHeld
  refine hK.out _ _ ⟨G.out.cz6, F.out.cell 4⟩ fun hHeld => ?_
  clear hK K
  try simp only [qa, qb, qc]
  refine tkW 32 ?_
  refine wr1 35 fun K hK => ?_
  go_simp
  (with_reducible refine (itoa_any k _ (bz.out.belowW p.out) P.out.e1 P.out.e2).mono ?_)
  rintro e w6 ⟨S2, rfl, I, q⟩; have J := G.out.b9 q; have be : S2.size = li.length := (by rw [strp_size I.out, Q.out])
  go_wp2_with fail
  clear hHeld
  refine hK.out _ _ ⟨J.out.cz6, (F.out.belowW q.out).cell 4⟩ fun hHeld => ?_
  clear hK K
  try simp only [qa, qb, qc]
  refine tkW 36 ?_
  refine tkW 37 ?_
  refine wpAnyH_done (by kernel_rfl) ?_ _
  go_wp2_with fail
  go_ret
  exact ⟨_, rfl, hI (by rw [data_app, data_app, H.out, I.out, ← U.out, Q.out, M.out, List.append_assoc]; rfl), (hI (z.out.trans ((W.out.trans (q.out.mono W.out.size)).mono z.out.size)))⟩
end Go.Proofs.YtkjoohnndobjeaaGreatDoor
