/-
  The walk of the program's text of an expression, kind by kind.
-/
import Derived.Test.YtkjoohnndobjeaaGreatDoorQc
import Derived.Test.YtkjoohnndobjeaaGreatDoorQH
set_option linter.unusedVariables false
set_option maxHeartbeats 8000000
set_option maxRecDepth 100000
namespace Go.Proofs.YtkjoohnndobjeaaGreatDoor
open Go.RowKit Go.Fl Go.Fl.Nm Go.Fl.Fm Go.Fl.Rt
open List renaming setIfInBounds_toArray → qa, set_cons_zero → qb, set_cons_succ → qc, getElem_toArray → qd, getElem_cons_zero → qe, getElem_cons_succ → qf

theorem expr_k7 (f : Nat) (ih : ExprAt f) (T : TE) (v : Nd) (w : World) (hin : InE w T v) (hg : good nameP (f + 1) T) (hl : (txt (f + 1) T).length ≤ 20000) (ht : RB w) (hk : v.h.kind = 7) :
 Calls Tryz.prog 55 #[v.val] w (StrP (txt (f + 1) T) w) := by
 have a1 := hg.1
 rw [hin.hd, hin.length] at a1
 have az : v.len = 1 := by rcases node_kinds a1 with h | h | h | h | h | h <;> omega
 have a6 : T.l.length = 1 := by rw [hin.length]; exact az
 obtain ⟨T1, hT⟩ := list1 a6
 have a7 : T.a = T1 := by unfold TE.a; rw [hT]; rfl
 have a8 : good nameP f T.a := hg.2 _ (by rw [a7, hT]; exact List.mem_cons_self ..)
 have ak := hI a8
 have HT := hI ht
 have IH := hI ih
 have a9 : T.h.kind = v.h.kind := by rw [hin.hd]
 have be : T.h.k = v.h.k := by rw [hin.hd]
 have bf := hI hin.ok
 obtain ⟨b, o, x, hA, hx, ex⟩ := hin.one az
 have bc : T.a.h = x.h := hx.hd
 have E := hI (show txt (f + 1) T = 45 :: par (needM x.h) (txt f T.a) by
  show (if _ then _ else _) = _
  rw [a9, hk, if_neg (by decide), if_neg (by decide), if_neg (by decide), if_pos rfl, bc])
 have HX := hI hx
 have EX := hI ex
 obtain ⟨la, a0⟩ := eX (txt f T.a)
 obtain ⟨L, hL⟩ := eX (txt (f + 1) T)
 rw [← a0, ← hL] at E
 rw [← hL] at hl ⊢
 obtain ⟨nd, a5⟩ := eX (needM x.h)
 rw [← a5] at E
 have bg : 1 + (par nd la).length ≤ 20000 := by
  have h := congrArg List.length E.out; rw [List.length_cons] at h
  omega
 have ap := (par_len nd la).1
 have c1 : ¬ (9223372036854775807 < 1 + (par nd la).length) := by omega
 have ar := hI a5
 clear a5
 have au := hI (show (txt f T.a).length ≤ 20000 by rw [← a0]; omega)
 have H := hI a0
 clear a0 hL hin hg hl ht ih hx ex a8 hT a7 a6 a1 a9 be bc
 obtain ⟨⟨kd, n, d, nm, k⟩, A, bi, I⟩ := v
 simp only at hk hA az bf E
 subst hA az
 subst hk
 simp only [Nd.val]
 cases cs : sumK x.h.kind with
 | false =>
  cases cp : prodK x.h.kind with
  | false =>
   cases cb : brok x.h with
   | false =>
    cases cw : whl x.h with
    | false =>
     have M := hI (show nd = false by rw [ar.out]; unfold needM; rw [cs, cp, cb, cw]; rfl); rw [M.out] at c1 E ap; have N := hI cs; have af := hI cp; have aj := hI cb; have aw := hI cw; clear cs cp cb cw
     go_enter Tryz.func55, Tryz.ntmps55
     go_upto_region 1 with (fail)
     obtain ⟨c, i, j, u⟩ := aX w 29 #[.int .i64 7, .int .i64 n, .int .i64 d, .string nm, .int .i64 k, .slice (some ⟨b, o, none⟩) 1 I]; rw [← i]; clear i; have g := EX.out.b9 j; have O : c.cell? ⟨w.heap.size, 0, none⟩ = some (.int .i64 7) := u.out.cell 0; have P : c.cell? ⟨w.heap.size, 5, none⟩ = some (.slice (some ⟨b, o, none⟩) 1 I) := u.out.cell 5; have Q : c.cell? ⟨b, o, none⟩ = some (.int .i64 x.h.kind) := g.out.c0; have R : c.cell? ⟨b, o + 1, none⟩ = some (.int .i64 x.h.n) := g.out.c1; have U : c.cell? ⟨b, o + 2, none⟩ = some (.int .i64 x.h.d) := g.out.c2; have V : c.cell? ⟨b, o + 3, none⟩ = some (.string x.h.name) := g.out.c3; have W : c.cell? ⟨b, o + 4, none⟩ = some (.int .i64 x.h.k) := g.out.c4; have X : c.cell? ⟨b, o + 5, none⟩ = some (.slice x.A x.len x.cap) := g.out.c5
     go_upto_region 22 with (fail)
     clear O P Q R U V W X; obtain ⟨Y, i, r, Z⟩ := aX c 29 #[.int .i64 x.h.kind, .int .i64 x.h.n, .int .i64 x.h.d, .string x.h.name, .int .i64 x.h.k, .slice x.A x.len x.cap]; rw [← i]; clear i; have y := j.out.t r; have m := hI (below_dr Y); have z := Z.out.b9 m
     refine wp_region_held_drew (S := fun w' => cz6 w' c.heap.size (.int .i64 x.h.kind) (.int .i64 x.h.n) (.int .i64 x.h.d) (.string x.h.name) (.int .i64 x.h.k) (.slice x.A x.len x.cap)) (by kernel_rfl) z.out.cz6 fun hHeld => ?_
     refine tkW 0 ?_
     refine tkW 1 ?_
     refine wr1 2 fun K hK => ?_
     go_simp
     (with_reducible refine (sum_p x _).mono ?_)
     rw [N.out]; rintro e w4 ⟨rfl, p⟩; have B := z.out.b9 p; have J := m.out.t p
     go_wp2_with fail
     clear hHeld
     refine hK.out _ _ B.out.cz6 fun hHeld => ?_
     clear hK K
     try simp only [qa, qb, qc]
     refine tkW 3 ?_
     refine tkW 4 ?_
     refine wr1 5 fun K hK => ?_
     go_simp
     (with_reducible refine (prod_p x _).mono ?_)
     rw [af.out]; rintro e w5 ⟨rfl, q⟩; have F := B.out.b9 q; have ab := J.out.t q
     go_wp2_with fail
     clear hHeld
     refine hK.out _ _ F.out.cz6 fun hHeld => ?_
     clear hK K
     try simp only [qa, qb, qc]
     refine tkW 6 ?_
     refine tkW 7 ?_
     refine tkW 8 ?_
     refine wr1 9 fun K hK => ?_
     go_simp
     (with_reducible refine (brok_p x _).mono ?_)
     rw [aj.out]; rintro e w6 ⟨rfl, s⟩; have G := F.out.b9 s; have ag := ab.out.t s
     go_wp2_with fail
     clear hHeld
     refine hK.out _ _ G.out.cz6 fun hHeld => ?_
     clear hK K
     try simp only [qa, qb, qc]
     refine tkW 10 ?_
     refine tkW 11 ?_
     refine tkW 12 ?_
     refine wr1 13 fun K hK => ?_
     go_simp
     (with_reducible refine (whl_p x _).mono ?_)
     rw [aw.out]; rintro e w7 ⟨rfl, C⟩; have ac := G.out.b9 C; have ah := ag.out.t C
     go_wp2_with fail
     clear hHeld
     refine hK.out _ _ ac.out.cz6 fun hHeld => ?_
     clear hK K
     try simp only [qa, qb, qc]
     refine tkW 14 ?_
     refine tkV 15 ?_
     refine tkV 16 ?_
     refine tkV 17 ?_
     refine tkV 18 ?_
     refine tkW 19 ?_
     refine tkW 20 ?_
     refine wr1 21 fun K hK => ?_
     go_simp
     (with_reducible refine (operand_at f IH.out T.a x _ false (((((((HX.out.belowW j.out).belowW r.out).belowW m.out).belowW p.out).belowW q.out).belowW s.out).belowW C.out) ak.out au.out (((((((HT.out.belowW j.out).belowW r.out).belowW m.out).belowW p.out).belowW q.out).belowW s.out).belowW C.out)).mono ?_)
     rintro e w8 ⟨S1, rfl, D, ai⟩; have ax := ac.out.b9 ai; have ay : S1.size = (par false la).length := (by rw [strp_size D.out, ← H.out])
     go_wp2_with fail
     clear hHeld
     refine hK.out _ _ ax.out.cz6 fun hHeld => ?_
     clear hK K
     try simp only [qa, qb, qc]
     refine tkW 22 ?_
     refine tkW 23 ?_
     refine wpAnyH_done (by kernel_rfl) ?_ _
     go_wp2_with fail
     go_ret
     exact ⟨_, rfl, hI (by rw [data_app, D.out, ← H.out, E.out]; rfl), (hI (y.out.trans ((ah.out.trans (ai.out.mono ah.out.size)).mono y.out.size)))⟩
    | true =>
     cases cn : decide (0 ≤ x.h.n) with
     | false =>
      have M := hI (show nd = false by rw [ar.out]; unfold needM; rw [cs, cp, cb, cw, cn]; rfl); rw [M.out] at c1 E ap; have N := hI cs; have af := hI cp; have aj := hI cb; have aw := hI cw; clear cs cp cb cw
      go_enter Tryz.func55, Tryz.ntmps55
      go_upto_region 1 with (fail)
      obtain ⟨c, i, j, u⟩ := aX w 29 #[.int .i64 7, .int .i64 n, .int .i64 d, .string nm, .int .i64 k, .slice (some ⟨b, o, none⟩) 1 I]; rw [← i]; clear i; have g := EX.out.b9 j; have O : c.cell? ⟨w.heap.size, 0, none⟩ = some (.int .i64 7) := u.out.cell 0; have P : c.cell? ⟨w.heap.size, 5, none⟩ = some (.slice (some ⟨b, o, none⟩) 1 I) := u.out.cell 5; have Q : c.cell? ⟨b, o, none⟩ = some (.int .i64 x.h.kind) := g.out.c0; have R : c.cell? ⟨b, o + 1, none⟩ = some (.int .i64 x.h.n) := g.out.c1; have U : c.cell? ⟨b, o + 2, none⟩ = some (.int .i64 x.h.d) := g.out.c2; have V : c.cell? ⟨b, o + 3, none⟩ = some (.string x.h.name) := g.out.c3; have W : c.cell? ⟨b, o + 4, none⟩ = some (.int .i64 x.h.k) := g.out.c4; have X : c.cell? ⟨b, o + 5, none⟩ = some (.slice x.A x.len x.cap) := g.out.c5
      go_upto_region 22 with (fail)
      clear O P Q R U V W X; obtain ⟨Y, i, r, Z⟩ := aX c 29 #[.int .i64 x.h.kind, .int .i64 x.h.n, .int .i64 x.h.d, .string x.h.name, .int .i64 x.h.k, .slice x.A x.len x.cap]; rw [← i]; clear i; have y := j.out.t r; have m := hI (below_dr Y); have z := Z.out.b9 m
      refine wp_region_held_drew (S := fun w' => cz6 w' c.heap.size (.int .i64 x.h.kind) (.int .i64 x.h.n) (.int .i64 x.h.d) (.string x.h.name) (.int .i64 x.h.k) (.slice x.A x.len x.cap)) (by kernel_rfl) z.out.cz6 fun hHeld => ?_
      refine tkW 0 ?_
      refine tkW 1 ?_
      refine wr1 2 fun K hK => ?_
      go_simp
      (with_reducible refine (sum_p x _).mono ?_)
      rw [N.out]; rintro e w4 ⟨rfl, p⟩; have B := z.out.b9 p; have J := m.out.t p
      go_wp2_with fail
      clear hHeld
      refine hK.out _ _ B.out.cz6 fun hHeld => ?_
      clear hK K
      try simp only [qa, qb, qc]
      refine tkW 3 ?_
      refine tkW 4 ?_
      refine wr1 5 fun K hK => ?_
      go_simp
      (with_reducible refine (prod_p x _).mono ?_)
      rw [af.out]; rintro e w5 ⟨rfl, q⟩; have F := B.out.b9 q; have ab := J.out.t q
      go_wp2_with fail
      clear hHeld
      refine hK.out _ _ F.out.cz6 fun hHeld => ?_
      clear hK K
      try simp only [qa, qb, qc]
      refine tkW 6 ?_
      refine tkW 7 ?_
      refine tkW 8 ?_
      refine wr1 9 fun K hK => ?_
      go_simp
      (with_reducible refine (brok_p x _).mono ?_)
      rw [aj.out]; rintro e w6 ⟨rfl, s⟩; have G := F.out.b9 s; have ag := ab.out.t s
      go_wp2_with fail
      clear hHeld
      refine hK.out _ _ G.out.cz6 fun hHeld => ?_
      clear hK K
      try simp only [qa, qb, qc]
      refine tkW 10 ?_
      refine tkW 11 ?_
      refine tkW 12 ?_
      refine wr1 13 fun K hK => ?_
      go_simp
      (with_reducible refine (whl_p x _).mono ?_)
      rw [aw.out]; rintro e w7 ⟨rfl, C⟩; have ac := G.out.b9 C; have ah := ag.out.t C
      go_wp2_with fail
      clear hHeld
      refine hK.out _ _ ac.out.cz6 fun hHeld => ?_
      clear hK K
      try simp only [qa, qb, qc]
      refine tkW 14 ?_
      refine tkW 15 ?_
      refine tkW 16 ?_
      refine tkW 17 ?_
      refine tkW 18 ?_
      refine tkW 19 ?_
      refine tkW 20 ?_
      refine wr1 21 fun K hK => ?_
      go_simp
      (with_reducible refine (operand_at f IH.out T.a x _ false (((((((HX.out.belowW j.out).belowW r.out).belowW m.out).belowW p.out).belowW q.out).belowW s.out).belowW C.out) ak.out au.out (((((((HT.out.belowW j.out).belowW r.out).belowW m.out).belowW p.out).belowW q.out).belowW s.out).belowW C.out)).mono ?_)
      rintro e w8 ⟨S1, rfl, D, ai⟩; have ax := ac.out.b9 ai; have ay : S1.size = (par false la).length := (by rw [strp_size D.out, ← H.out])
      go_wp2_with fail
      clear hHeld
      refine hK.out _ _ ax.out.cz6 fun hHeld => ?_
      clear hK K
      try simp only [qa, qb, qc]
      refine tkW 22 ?_
      refine tkW 23 ?_
      refine wpAnyH_done (by kernel_rfl) ?_ _
      go_wp2_with fail
      go_ret
      exact ⟨_, rfl, hI (by rw [data_app, D.out, ← H.out, E.out]; rfl), (hI (y.out.trans ((ah.out.trans (ai.out.mono ah.out.size)).mono y.out.size)))⟩
     | true =>
      have M := hI (show nd = true by rw [ar.out]; unfold needM; rw [cs, cp, cb, cw, cn]; rfl); rw [M.out] at c1 E ap; have N := hI cs; have af := hI cp; have aj := hI cb; have aw := hI cw; clear cs cp cb cw
      go_enter Tryz.func55, Tryz.ntmps55
      go_upto_region 1 with (fail)
      obtain ⟨c, i, j, u⟩ := aX w 29 #[.int .i64 7, .int .i64 n, .int .i64 d, .string nm, .int .i64 k, .slice (some ⟨b, o, none⟩) 1 I]; rw [← i]; clear i; have g := EX.out.b9 j; have O : c.cell? ⟨w.heap.size, 0, none⟩ = some (.int .i64 7) := u.out.cell 0; have P : c.cell? ⟨w.heap.size, 5, none⟩ = some (.slice (some ⟨b, o, none⟩) 1 I) := u.out.cell 5; have Q : c.cell? ⟨b, o, none⟩ = some (.int .i64 x.h.kind) := g.out.c0; have R : c.cell? ⟨b, o + 1, none⟩ = some (.int .i64 x.h.n) := g.out.c1; have U : c.cell? ⟨b, o + 2, none⟩ = some (.int .i64 x.h.d) := g.out.c2; have V : c.cell? ⟨b, o + 3, none⟩ = some (.string x.h.name) := g.out.c3; have W : c.cell? ⟨b, o + 4, none⟩ = some (.int .i64 x.h.k) := g.out.c4; have X : c.cell? ⟨b, o + 5, none⟩ = some (.slice x.A x.len x.cap) := g.out.c5
      go_upto_region 22 with (fail)
      clear O P Q R U V W X; obtain ⟨Y, i, r, Z⟩ := aX c 29 #[.int .i64 x.h.kind, .int .i64 x.h.n, .int .i64 x.h.d, .string x.h.name, .int .i64 x.h.k, .slice x.A x.len x.cap]; rw [← i]; clear i; have y := j.out.t r; have m := hI (below_dr Y); have z := Z.out.b9 m
      refine wp_region_held_drew (S := fun w' => cz6 w' c.heap.size (.int .i64 x.h.kind) (.int .i64 x.h.n) (.int .i64 x.h.d) (.string x.h.name) (.int .i64 x.h.k) (.slice x.A x.len x.cap)) (by kernel_rfl) z.out.cz6 fun hHeld => ?_
      refine tkW 0 ?_
      refine tkW 1 ?_
      refine wr1 2 fun K hK => ?_
      go_simp
      (with_reducible refine (sum_p x _).mono ?_)
      rw [N.out]; rintro e w4 ⟨rfl, p⟩; have B := z.out.b9 p; have J := m.out.t p
      go_wp2_with fail
      clear hHeld
      refine hK.out _ _ B.out.cz6 fun hHeld => ?_
      clear hK K
      try simp only [qa, qb, qc]
      refine tkW 3 ?_
      refine tkW 4 ?_
      refine wr1 5 fun K hK => ?_
      go_simp
      (with_reducible refine (prod_p x _).mono ?_)
      rw [af.out]; rintro e w5 ⟨rfl, q⟩; have F := B.out.b9 q; have ab := J.out.t q
      go_wp2_with fail
      clear hHeld
      refine hK.out _ _ F.out.cz6 fun hHeld => ?_
      clear hK K
      try simp only [qa, qb, qc]
      refine tkW 6 ?_
      refine tkW 7 ?_
      refine tkW 8 ?_
      refine wr1 9 fun K hK => ?_
      go_simp
      (with_reducible refine (brok_p x _).mono ?_)
      rw [aj.out]; rintro e w6 ⟨rfl, s⟩; have G := F.out.b9 s; have ag := ab.out.t s
      go_wp2_with fail
      clear hHeld
      refine hK.out _ _ G.out.cz6 fun hHeld => ?_
      clear hK K
      try simp only [qa, qb, qc]
      refine tkW 10 ?_
      refine tkW 11 ?_
      refine tkW 12 ?_
      refine wr1 13 fun K hK => ?_
      go_simp
      (with_reducible refine (whl_p x _).mono ?_)
      rw [aw.out]; rintro e w7 ⟨rfl, C⟩; have ac := G.out.b9 C; have ah := ag.out.t C
      go_wp2_with fail
      clear hHeld
      refine hK.out _ _ ac.out.cz6 fun hHeld => ?_
      clear hK K
      try simp only [qa, qb, qc]
      refine tkW 14 ?_
      refine tkW 15 ?_
      refine tkW 16 ?_
      refine tkW 17 ?_
      refine tkW 18 ?_
      refine tkW 19 ?_
      refine tkW 20 ?_
      refine wr1 21 fun K hK => ?_
      go_simp
      (with_reducible refine (operand_at f IH.out T.a x _ true (((((((HX.out.belowW j.out).belowW r.out).belowW m.out).belowW p.out).belowW q.out).belowW s.out).belowW C.out) ak.out au.out (((((((HT.out.belowW j.out).belowW r.out).belowW m.out).belowW p.out).belowW q.out).belowW s.out).belowW C.out)).mono ?_)
      rintro e w8 ⟨S1, rfl, D, ai⟩; have ax := ac.out.b9 ai; have ay : S1.size = (par true la).length := (by rw [strp_size D.out, ← H.out])
      go_wp2_with fail
      clear hHeld
      refine hK.out _ _ ax.out.cz6 fun hHeld => ?_
      clear hK K
      try simp only [qa, qb, qc]
      refine tkW 22 ?_
      refine tkW 23 ?_
      refine wpAnyH_done (by kernel_rfl) ?_ _
      go_wp2_with fail
      go_ret
      exact ⟨_, rfl, hI (by rw [data_app, D.out, ← H.out, E.out]; rfl), (hI (y.out.trans ((ah.out.trans (ai.out.mono ah.out.size)).mono y.out.size)))⟩
   | true =>
    have M := hI (show nd = true by rw [ar.out]; unfold needM; rw [cs, cp, cb]; rfl); rw [M.out] at c1 E ap; have N := hI cs; have af := hI cp; have aj := hI cb; clear cs cp cb
    go_enter Tryz.func55, Tryz.ntmps55
    go_upto_region 1 with (fail)
    obtain ⟨c, i, j, u⟩ := aX w 29 #[.int .i64 7, .int .i64 n, .int .i64 d, .string nm, .int .i64 k, .slice (some ⟨b, o, none⟩) 1 I]; rw [← i]; clear i; have g := EX.out.b9 j; have O : c.cell? ⟨w.heap.size, 0, none⟩ = some (.int .i64 7) := u.out.cell 0; have P : c.cell? ⟨w.heap.size, 5, none⟩ = some (.slice (some ⟨b, o, none⟩) 1 I) := u.out.cell 5; have Q : c.cell? ⟨b, o, none⟩ = some (.int .i64 x.h.kind) := g.out.c0; have R : c.cell? ⟨b, o + 1, none⟩ = some (.int .i64 x.h.n) := g.out.c1; have U : c.cell? ⟨b, o + 2, none⟩ = some (.int .i64 x.h.d) := g.out.c2; have V : c.cell? ⟨b, o + 3, none⟩ = some (.string x.h.name) := g.out.c3; have W : c.cell? ⟨b, o + 4, none⟩ = some (.int .i64 x.h.k) := g.out.c4; have X : c.cell? ⟨b, o + 5, none⟩ = some (.slice x.A x.len x.cap) := g.out.c5
    go_upto_region 22 with (fail)
    clear O P Q R U V W X; obtain ⟨Y, i, r, Z⟩ := aX c 29 #[.int .i64 x.h.kind, .int .i64 x.h.n, .int .i64 x.h.d, .string x.h.name, .int .i64 x.h.k, .slice x.A x.len x.cap]; rw [← i]; clear i; have y := j.out.t r; have m := hI (below_dr Y); have z := Z.out.b9 m
    refine wp_region_held_drew (S := fun w' => cz6 w' c.heap.size (.int .i64 x.h.kind) (.int .i64 x.h.n) (.int .i64 x.h.d) (.string x.h.name) (.int .i64 x.h.k) (.slice x.A x.len x.cap)) (by kernel_rfl) z.out.cz6 fun hHeld => ?_
    refine tkW 0 ?_
    refine tkW 1 ?_
    refine wr1 2 fun K hK => ?_
    go_simp
    (with_reducible refine (sum_p x _).mono ?_)
    rw [N.out]; rintro e w4 ⟨rfl, p⟩; have B := z.out.b9 p; have J := m.out.t p
    go_wp2_with fail
    clear hHeld
    refine hK.out _ _ B.out.cz6 fun hHeld => ?_
    clear hK K
    try simp only [qa, qb, qc]
    refine tkW 3 ?_
    refine tkW 4 ?_
    refine wr1 5 fun K hK => ?_
    go_simp
    (with_reducible refine (prod_p x _).mono ?_)
    rw [af.out]; rintro e w5 ⟨rfl, q⟩; have F := B.out.b9 q; have ab := J.out.t q
    go_wp2_with fail
    clear hHeld
    refine hK.out _ _ F.out.cz6 fun hHeld => ?_
    clear hK K
    try simp only [qa, qb, qc]
    refine tkW 6 ?_
    refine tkW 7 ?_
    refine tkW 8 ?_
    refine wr1 9 fun K hK => ?_
    go_simp
    (with_reducible refine (brok_p x _).mono ?_)
    rw [aj.out]; rintro e w6 ⟨rfl, s⟩; have G := F.out.b9 s; have ag := ab.out.t s
    go_wp2_with fail
    clear hHeld
    refine hK.out _ _ G.out.cz6 fun hHeld => ?_
    clear hK K
    try simp only [qa, qb, qc]
    refine tkW 10 ?_
    refine tkW 11 ?_
    refine tkV 12 ?_
    refine tkV 13 ?_
    refine tkV 14 ?_
    refine tkV 15 ?_
    refine tkV 16 ?_
    refine tkV 17 ?_
    refine tkV 18 ?_
    refine tkV 19 ?_
    refine tkW 20 ?_
    refine wr1 21 fun K hK => ?_
    go_simp
    (with_reducible refine (operand_at f IH.out T.a x _ true ((((((HX.out.belowW j.out).belowW r.out).belowW m.out).belowW p.out).belowW q.out).belowW s.out) ak.out au.out ((((((HT.out.belowW j.out).belowW r.out).belowW m.out).belowW p.out).belowW q.out).belowW s.out)).mono ?_)
    rintro e w7 ⟨S1, rfl, D, C⟩; have ac := G.out.b9 C; have ay : S1.size = (par true la).length := (by rw [strp_size D.out, ← H.out])
    go_wp2_with fail
    clear hHeld
    refine hK.out _ _ ac.out.cz6 fun hHeld => ?_
    clear hK K
    try simp only [qa, qb, qc]
    refine tkW 22 ?_
    refine tkW 23 ?_
    refine wpAnyH_done (by kernel_rfl) ?_ _
    go_wp2_with fail
    go_ret
    exact ⟨_, rfl, hI (by rw [data_app, D.out, ← H.out, E.out]; rfl), (hI (y.out.trans ((ag.out.trans (C.out.mono ag.out.size)).mono y.out.size)))⟩
  | true =>
   have M := hI (show nd = true by rw [ar.out]; unfold needM; rw [cs, cp]; rfl); rw [M.out] at c1 E ap; have N := hI cs; have af := hI cp; clear cs cp
   go_enter Tryz.func55, Tryz.ntmps55
   go_upto_region 1 with (fail)
   obtain ⟨c, i, j, u⟩ := aX w 29 #[.int .i64 7, .int .i64 n, .int .i64 d, .string nm, .int .i64 k, .slice (some ⟨b, o, none⟩) 1 I]; rw [← i]; clear i; have g := EX.out.b9 j; have O : c.cell? ⟨w.heap.size, 0, none⟩ = some (.int .i64 7) := u.out.cell 0; have P : c.cell? ⟨w.heap.size, 5, none⟩ = some (.slice (some ⟨b, o, none⟩) 1 I) := u.out.cell 5; have Q : c.cell? ⟨b, o, none⟩ = some (.int .i64 x.h.kind) := g.out.c0; have R : c.cell? ⟨b, o + 1, none⟩ = some (.int .i64 x.h.n) := g.out.c1; have U : c.cell? ⟨b, o + 2, none⟩ = some (.int .i64 x.h.d) := g.out.c2; have V : c.cell? ⟨b, o + 3, none⟩ = some (.string x.h.name) := g.out.c3; have W : c.cell? ⟨b, o + 4, none⟩ = some (.int .i64 x.h.k) := g.out.c4; have X : c.cell? ⟨b, o + 5, none⟩ = some (.slice x.A x.len x.cap) := g.out.c5
   go_upto_region 22 with (fail)
   clear O P Q R U V W X; obtain ⟨Y, i, r, Z⟩ := aX c 29 #[.int .i64 x.h.kind, .int .i64 x.h.n, .int .i64 x.h.d, .string x.h.name, .int .i64 x.h.k, .slice x.A x.len x.cap]; rw [← i]; clear i; have y := j.out.t r; have m := hI (below_dr Y); have z := Z.out.b9 m
   refine wp_region_held_drew (S := fun w' => cz6 w' c.heap.size (.int .i64 x.h.kind) (.int .i64 x.h.n) (.int .i64 x.h.d) (.string x.h.name) (.int .i64 x.h.k) (.slice x.A x.len x.cap)) (by kernel_rfl) z.out.cz6 fun hHeld => ?_
   refine tkW 0 ?_
   refine tkW 1 ?_
   refine wr1 2 fun K hK => ?_
   go_simp
   (with_reducible refine (sum_p x _).mono ?_)
   rw [N.out]; rintro e w4 ⟨rfl, p⟩; have B := z.out.b9 p; have J := m.out.t p
   go_wp2_with fail
   clear hHeld
   refine hK.out _ _ B.out.cz6 fun hHeld => ?_
   clear hK K
   try simp only [qa, qb, qc]
   refine tkW 3 ?_
   refine tkW 4 ?_
   refine wr1 5 fun K hK => ?_
   go_simp
   (with_reducible refine (prod_p x _).mono ?_)
   rw [af.out]; rintro e w5 ⟨rfl, q⟩; have F := B.out.b9 q; have ab := J.out.t q
   go_wp2_with fail
   clear hHeld
   refine hK.out _ _ F.out.cz6 fun hHeld => ?_
   clear hK K
   try simp only [qa, qb, qc]
   refine tkW 6 ?_
   refine tkW 7 ?_
   refine tkV 8 ?_
   refine tkV 9 ?_
   refine tkW 10 ?_
   refine tkW 11 ?_
   refine tkV 12 ?_
   refine tkV 13 ?_
   refine tkV 14 ?_
   refine tkV 15 ?_
   refine tkV 16 ?_
   refine tkV 17 ?_
   refine tkV 18 ?_
   refine tkV 19 ?_
   refine tkW 20 ?_
   refine wr1 21 fun K hK => ?_
   go_simp
   (with_reducible refine (operand_at f IH.out T.a x _ true (((((HX.out.belowW j.out).belowW r.out).belowW m.out).belowW p.out).belowW q.out) ak.out au.out (((((HT.out.belowW j.out).belowW r.out).belowW m.out).belowW p.out).belowW q.out)).mono ?_)
   rintro e w6 ⟨S1, rfl, D, s⟩; have G := F.out.b9 s; have ay : S1.size = (par true la).length := (by rw [strp_size D.out, ← H.out])
   go_wp2_with fail
   clear hHeld
   refine hK.out _ _ G.out.cz6 fun hHeld => ?_
   clear hK K
   try simp only [qa, qb, qc]
   refine tkW 22 ?_
   refine tkW 23 ?_
   refine wpAnyH_done (by kernel_rfl) ?_ _
   go_wp2_with fail
   go_ret
   exact ⟨_, rfl, hI (by rw [data_app, D.out, ← H.out, E.out]; rfl), (hI (y.out.trans ((ab.out.trans (s.out.mono ab.out.size)).mono y.out.size)))⟩
 | true =>
  have M := hI (show nd = true by rw [ar.out]; unfold needM; rw [cs]; rfl); rw [M.out] at c1 E ap; have N := hI cs; clear cs
  go_enter Tryz.func55, Tryz.ntmps55
  go_upto_region 1 with (fail)
  obtain ⟨c, i, j, u⟩ := aX w 29 #[.int .i64 7, .int .i64 n, .int .i64 d, .string nm, .int .i64 k, .slice (some ⟨b, o, none⟩) 1 I]; rw [← i]; clear i; have g := EX.out.b9 j; have O : c.cell? ⟨w.heap.size, 0, none⟩ = some (.int .i64 7) := u.out.cell 0; have P : c.cell? ⟨w.heap.size, 5, none⟩ = some (.slice (some ⟨b, o, none⟩) 1 I) := u.out.cell 5; have Q : c.cell? ⟨b, o, none⟩ = some (.int .i64 x.h.kind) := g.out.c0; have R : c.cell? ⟨b, o + 1, none⟩ = some (.int .i64 x.h.n) := g.out.c1; have U : c.cell? ⟨b, o + 2, none⟩ = some (.int .i64 x.h.d) := g.out.c2; have V : c.cell? ⟨b, o + 3, none⟩ = some (.string x.h.name) := g.out.c3; have W : c.cell? ⟨b, o + 4, none⟩ = some (.int .i64 x.h.k) := g.out.c4; have X : c.cell? ⟨b, o + 5, none⟩ = some (.slice x.A x.len x.cap) := g.out.c5
  go_upto_region 22 with (fail)
  clear O P Q R U V W X; obtain ⟨Y, i, r, Z⟩ := aX c 29 #[.int .i64 x.h.kind, .int .i64 x.h.n, .int .i64 x.h.d, .string x.h.name, .int .i64 x.h.k, .slice x.A x.len x.cap]; rw [← i]; clear i; have y := j.out.t r; have m := hI (below_dr Y); have z := Z.out.b9 m
  refine wp_region_held_drew (S := fun w' => cz6 w' c.heap.size (.int .i64 x.h.kind) (.int .i64 x.h.n) (.int .i64 x.h.d) (.string x.h.name) (.int .i64 x.h.k) (.slice x.A x.len x.cap)) (by kernel_rfl) z.out.cz6 fun hHeld => ?_
  refine tkW 0 ?_
  refine tkW 1 ?_
  refine wr1 2 fun K hK => ?_
  go_simp
  (with_reducible refine (sum_p x _).mono ?_)
  rw [N.out]; rintro e w4 ⟨rfl, p⟩; have B := z.out.b9 p; have J := m.out.t p
  go_wp2_with fail
  clear hHeld
  refine hK.out _ _ B.out.cz6 fun hHeld => ?_
  clear hK K
  try simp only [qa, qb, qc]
  refine tkW 3 ?_
  refine tkV 4 ?_
  refine tkV 5 ?_
  refine tkW 6 ?_
  refine tkW 7 ?_
  refine tkV 8 ?_
  refine tkV 9 ?_
  refine tkW 10 ?_
  refine tkW 11 ?_
  refine tkV 12 ?_
  refine tkV 13 ?_
  refine tkV 14 ?_
  refine tkV 15 ?_
  refine tkV 16 ?_
  refine tkV 17 ?_
  refine tkV 18 ?_
  refine tkV 19 ?_
  refine tkW 20 ?_
  refine wr1 21 fun K hK => ?_
  go_simp
  (with_reducible refine (operand_at f IH.out T.a x _ true ((((HX.out.belowW j.out).belowW r.out).belowW m.out).belowW p.out) ak.out au.out ((((HT.out.belowW j.out).belowW r.out).belowW m.out).belowW p.out)).mono ?_)
  rintro e w5 ⟨S1, rfl, D, q⟩; have F := B.out.b9 q; have ay : S1.size = (par true la).length := (by rw [strp_size D.out, ← H.out])
  go_wp2_with fail
  clear hHeld
  refine hK.out _ _ F.out.cz6 fun hHeld => ?_
  clear hK K
  try simp only [qa, qb, qc]
  refine tkW 22 ?_
  refine tkW 23 ?_
  refine wpAnyH_done (by kernel_rfl) ?_ _
  go_wp2_with fail
  go_ret
  exact ⟨_, rfl, hI (by rw [data_app, D.out, ← H.out, E.out]; rfl), (hI (y.out.trans ((J.out.trans (q.out.mono J.out.size)).mono y.out.size)))⟩
end Go.Proofs.YtkjoohnndobjeaaGreatDoor
