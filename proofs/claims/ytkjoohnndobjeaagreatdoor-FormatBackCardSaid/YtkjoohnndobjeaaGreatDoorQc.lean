/-
  The walk of the program's text of an expression, kind by kind.
  The walk of the program's text of an expression, kind by kind.
-/
import Derived.Test.YtkjoohnndobjeaaGreatDoorQH
set_option linter.unusedVariables false
set_option maxHeartbeats 8000000
set_option maxRecDepth 100000
namespace Go.Proofs.YtkjoohnndobjeaaGreatDoor
open Go.RowKit Go.Fl Go.Fl.Nm Go.Fl.Fm Go.Fl.Rt
open List renaming setIfInBounds_toArray → qa, set_cons_zero → qb, set_cons_succ → qc, getElem_toArray → qd, getElem_cons_zero → qe, getElem_cons_succ → qf
theorem ex_go {f : Nat} (h : ExprAt f) (T : TE) (v : Nd) (w : World) (h1 : InE w T v) (h2 : good nameP f T) (h3 : (txt f T).length ≤ 20000) (h4 : RB w) : Calls Tryz.prog 55 #[v.val] w (StrP (txt f T) w) := h T v w h1 h2 h3 h4

theorem expr_k3 (f : Nat) (ih : ExprAt f) (T : TE) (v : Nd) (w : World) (hin : InE w T v) (hg : good nameP (f + 1) T) (hl : (txt (f + 1) T).length ≤ 20000) (ht : RB w) (hk : v.h.kind = 3) :
 Calls Tryz.prog 55 #[v.val] w (StrP (txt (f + 1) T) w) := by
 have M := hg.1
 rw [hin.hd, hin.length] at M
 have E : v.len = 2 := by rcases node_kinds M with h | h | h | h | h | h <;> omega
 have R : T.l.length = 2 := by rw [hin.length]; exact E
 obtain ⟨T1, T2, C⟩ := list2 R
 have U : T.a = T1 := by unfold TE.a; rw [C]; rfl
 have V : T.b = T2 := by unfold TE.b; rw [C]; rfl
 have W : good nameP f T.a := hg.2 _ (by rw [U, C]; exact List.mem_cons_self ..)
 have X : good nameP f T.b := hg.2 _ (by rw [V, C]; exact List.mem_cons_of_mem _ (List.mem_cons_self ..))
 have au := hI W
 have av := hI X
 have HT := hI ht
 have Y := hI ih
 have Z : T.h.kind = 3 := by rw [hin.hd]; exact hk
 obtain ⟨b, o, x, y, hA, hx, N, ex, ey⟩ := hin.two E
 have ae : T.b.h.kind = y.h.kind := by rw [N.hd]
 have O := hI (show txt (f + 1) T = txt f T.a ++ ([32, 43, 32] ++ par (sumK y.h.kind) (txt f T.b)) by
  show (if _ then _ else _) = _
  rw [Z, if_neg (by decide), if_neg (by decide), if_pos (by decide)]
  unfold need1 need2 opK
  rw [ae]
  rfl)
 have HX := hI hx
 have HY := hI N
 have EX := hI ex
 have EY := hI ey
 obtain ⟨F, G⟩ := eX (txt f T.a)
 obtain ⟨H, I⟩ := eX (txt f T.b)
 obtain ⟨D, P⟩ := eX (sumK y.h.kind)
 obtain ⟨L, Q⟩ := eX (txt (f + 1) T)
 rw [← G, ← I, ← P, ← Q] at O
 rw [← Q] at hl ⊢
 have ba : F.length + 3 + (par D H).length ≤ 20000 := by
  have h := congrArg List.length O.out; rw [List.length_append, List.length_append] at h; simp only [List.length_cons, List.length_nil] at h
  omega
 have bb := (par_len D H).1
 have c1 : ¬ (9223372036854775807 < F.length + 3) := by omega
 have c2 : ¬ (9223372036854775807 < F.length + 3 + (par D H).length) := by omega
 have a1 := hI (show (txt f T.a).length ≤ 20000 by rw [← G]; omega)
 have a2 := hI (show (txt f T.b).length ≤ 20000 by rw [← I]; omega)
 have a3 := hI P
 have af := hI G
 have ag := hI I
 clear G I P Q hin hg hl ht ih hx N ex ey W X C U V R M ae Z
 obtain ⟨⟨kd, n, d, nm, k⟩, A, bf, ah⟩ := v
 simp only at hk hA E
 subst hk hA E
 simp only [Nd.val]
 go_enter Tryz.func55, Tryz.ntmps55
 go_wp2_with fail
 obtain ⟨w1, hw, c, a6⟩ := aX w 29 #[.int .i64 3, .int .i64 n, .int .i64 d, .string nm, .int .i64 k, .slice (some ⟨b, o, none⟩) 2 ah]
 rw [← hw]
 clear hw
 have g := hI (below_dr w1)
 have aj := hI ((HT.out.belowW c.out).belowW g.out)
 have i := hI ((EX.out.belowW c.out).belowW g.out)
 have j := hI ((EY.out.belowW c.out).belowW g.out)
 have ak := a6.out.b9 g
 refine wp_region_held_drew (S := fun w' => w'.cell? ⟨w.heap.size, 5, none⟩ = some (.slice (some ⟨b, o, none⟩) 2 ah) ∧ w'.cell? ⟨b, o, none⟩ = some (.int .i64 x.h.kind) ∧ w'.cell? ⟨b, o + 1, none⟩ = some (.int .i64 x.h.n) ∧ w'.cell? ⟨b, o + 2, none⟩ = some (.int .i64 x.h.d) ∧ w'.cell? ⟨b, o + 3, none⟩ = some (.string x.h.name) ∧ w'.cell? ⟨b, o + 4, none⟩ = some (.int .i64 x.h.k) ∧ w'.cell? ⟨b, o + 5, none⟩ = some (.slice x.A x.len x.cap) ∧ w'.cell? ⟨b, o + 6, none⟩ = some (.int .i64 y.h.kind) ∧ w'.cell? ⟨b, o + 6 + 1, none⟩ = some (.int .i64 y.h.n) ∧ w'.cell? ⟨b, o + 6 + 2, none⟩ = some (.int .i64 y.h.d) ∧ w'.cell? ⟨b, o + 6 + 3, none⟩ = some (.string y.h.name) ∧ w'.cell? ⟨b, o + 6 + 4, none⟩ = some (.int .i64 y.h.k) ∧ w'.cell? ⟨b, o + 6 + 5, none⟩ = some (.slice y.A y.len y.cap)) (by kernel_rfl) ⟨ak.out.cell 5, i.out.c0, i.out.c1, i.out.c2, i.out.c3, i.out.c4, i.out.c5, j.out.c0, j.out.c1, j.out.c2, j.out.c3, j.out.c4, j.out.c5⟩ fun hHeld => ?_
 refine tkW 0 ?_
 refine tkW 1 ?_
 refine tkW 2 ?_
 refine tkW 3 ?_
 refine tkW 5 ?_
 refine tkW 7 ?_
 refine tkW 8 ?_
 refine tkW 9 ?_
 refine tkW 10 ?_
 refine tkW 11 ?_
 refine tkW 12 ?_
 refine tkW 13 ?_
 refine tkW 14 ?_
 refine wr1 4 fun K hK => ?_
 go_simp
 (with_reducible refine (ex_go Y.out T.a x _ ((HX.out.belowW c.out).belowW g.out) au.out a1.out aj.out).mono ?_)
 rintro e w3 ⟨S1, rfl, al, s⟩
 have m := i.out.b9 s
 have p := j.out.b9 s
 have am := ak.out.b9 s
 have a8 := g.out.t s
 have bg : S1.size = F.length := by rw [strp_size al.out, af.out]
 go_wp2_with fail
 clear hHeld
 refine hK.out _ _ ⟨am.out.cell 5, m.out.c0, m.out.c1, m.out.c2, m.out.c3, m.out.c4, m.out.c5, p.out.c0, p.out.c1, p.out.c2, p.out.c3, p.out.c4, p.out.c5⟩ fun hHeld => ?_
 clear hK K
 try simp only [qa, qb, qc]
 refine tkW 6 ?_
 refine wr1 15 fun K hK => ?_
 go_simp
 (with_reducible refine (sum_p y _).mono ?_)
 rw [← a3.out]
 rintro e w4 ⟨rfl, u⟩
 have q := m.out.b9 u
 have r := p.out.b9 u
 have an := am.out.b9 u
 have ao := a8.out.t u
 go_wp2_with fail
 clear hHeld
 refine hK.out _ _ ⟨an.out.cell 5, q.out.c0, q.out.c1, q.out.c2, q.out.c3, q.out.c4, q.out.c5, r.out.c0, r.out.c1, r.out.c2, r.out.c3, r.out.c4, r.out.c5⟩ fun hHeld => ?_
 clear hK K
 try simp only [qa, qb, qc]
 refine wr1 16 fun K hK => ?_
 go_simp
 (with_reducible refine (operand_at f Y.out T.b y _ D ((((HY.out.belowW c.out).belowW g.out).belowW s.out).belowW u.out) av.out a2.out ((aj.out.belowW s.out).belowW u.out)).mono ?_)
 rintro e w5 ⟨S2, rfl, ap, J⟩
 have z := q.out.b9 J
 have B := r.out.b9 J
 have bh : S2.size = (par D H).length := by rw [strp_size ap.out, ← ag.out]
 go_wp2_with fail
 clear hHeld
 refine hK.out _ _ ⟨(an.out.belowW J.out).cell 5, z.out.c0, z.out.c1, z.out.c2, z.out.c3, z.out.c4, z.out.c5, B.out.c0, B.out.c1, B.out.c2, B.out.c3, B.out.c4, B.out.c5⟩ fun hHeld => ?_
 clear hK K
 try simp only [qa, qb, qc]
 refine tkW 17 ?_
 refine tkW 18 ?_
 refine wpAnyH_done (by kernel_rfl) ?_ _
 go_wp2_with fail
 go_ret
 exact ⟨_, rfl, hI (by rw [data_app, data_app, al.out, ap.out, ← af.out, ← ag.out, O.out, List.append_assoc]), (hI (c.out.trans ((ao.out.trans (J.out.mono ao.out.size)).mono c.out.size)))⟩

theorem expr_k4 (f : Nat) (ih : ExprAt f) (T : TE) (v : Nd) (w : World) (hin : InE w T v) (hg : good nameP (f + 1) T) (hl : (txt (f + 1) T).length ≤ 20000) (ht : RB w) (hk : v.h.kind = 4) :
 Calls Tryz.prog 55 #[v.val] w (StrP (txt (f + 1) T) w) := by
 have M := hg.1
 rw [hin.hd, hin.length] at M
 have E : v.len = 2 := by rcases node_kinds M with h | h | h | h | h | h <;> omega
 have R : T.l.length = 2 := by rw [hin.length]; exact E
 obtain ⟨T1, T2, C⟩ := list2 R
 have U : T.a = T1 := by unfold TE.a; rw [C]; rfl
 have V : T.b = T2 := by unfold TE.b; rw [C]; rfl
 have W : good nameP f T.a := hg.2 _ (by rw [U, C]; exact List.mem_cons_self ..)
 have X : good nameP f T.b := hg.2 _ (by rw [V, C]; exact List.mem_cons_of_mem _ (List.mem_cons_self ..))
 have au := hI W
 have av := hI X
 have HT := hI ht
 have Y := hI ih
 have Z : T.h.kind = 4 := by rw [hin.hd]; exact hk
 obtain ⟨b, o, x, y, hA, hx, N, ex, ey⟩ := hin.two E
 have ae : T.b.h.kind = y.h.kind := by rw [N.hd]
 have O := hI (show txt (f + 1) T = txt f T.a ++ ([32, 45, 32] ++ par (sumK y.h.kind) (txt f T.b)) by
  show (if _ then _ else _) = _
  rw [Z, if_neg (by decide), if_neg (by decide), if_pos (by decide)]
  unfold need1 need2 opK
  rw [ae]
  rfl)
 have HX := hI hx
 have HY := hI N
 have EX := hI ex
 have EY := hI ey
 obtain ⟨F, G⟩ := eX (txt f T.a)
 obtain ⟨H, I⟩ := eX (txt f T.b)
 obtain ⟨D, P⟩ := eX (sumK y.h.kind)
 obtain ⟨L, Q⟩ := eX (txt (f + 1) T)
 rw [← G, ← I, ← P, ← Q] at O
 rw [← Q] at hl ⊢
 have ba : F.length + 3 + (par D H).length ≤ 20000 := by
  have h := congrArg List.length O.out; rw [List.length_append, List.length_append] at h; simp only [List.length_cons, List.length_nil] at h
  omega
 have bb := (par_len D H).1
 have c1 : ¬ (9223372036854775807 < F.length + 3) := by omega
 have c2 : ¬ (9223372036854775807 < F.length + 3 + (par D H).length) := by omega
 have a1 := hI (show (txt f T.a).length ≤ 20000 by rw [← G]; omega)
 have a2 := hI (show (txt f T.b).length ≤ 20000 by rw [← I]; omega)
 have a3 := hI P
 have af := hI G
 have ag := hI I
 clear G I P Q hin hg hl ht ih hx N ex ey W X C U V R M ae Z
 obtain ⟨⟨kd, n, d, nm, k⟩, A, bf, ah⟩ := v
 simp only at hk hA E
 subst hk hA E
 simp only [Nd.val]
 go_enter Tryz.func55, Tryz.ntmps55
 go_wp2_with fail
 obtain ⟨w1, hw, c, a6⟩ := aX w 29 #[.int .i64 4, .int .i64 n, .int .i64 d, .string nm, .int .i64 k, .slice (some ⟨b, o, none⟩) 2 ah]
 rw [← hw]
 clear hw
 have g := hI (below_dr w1)
 have aj := hI ((HT.out.belowW c.out).belowW g.out)
 have i := hI ((EX.out.belowW c.out).belowW g.out)
 have j := hI ((EY.out.belowW c.out).belowW g.out)
 have ak := a6.out.b9 g
 refine wp_region_held_drew (S := fun w' => w'.cell? ⟨w.heap.size, 5, none⟩ = some (.slice (some ⟨b, o, none⟩) 2 ah) ∧ w'.cell? ⟨b, o, none⟩ = some (.int .i64 x.h.kind) ∧ w'.cell? ⟨b, o + 1, none⟩ = some (.int .i64 x.h.n) ∧ w'.cell? ⟨b, o + 2, none⟩ = some (.int .i64 x.h.d) ∧ w'.cell? ⟨b, o + 3, none⟩ = some (.string x.h.name) ∧ w'.cell? ⟨b, o + 4, none⟩ = some (.int .i64 x.h.k) ∧ w'.cell? ⟨b, o + 5, none⟩ = some (.slice x.A x.len x.cap) ∧ w'.cell? ⟨b, o + 6, none⟩ = some (.int .i64 y.h.kind) ∧ w'.cell? ⟨b, o + 6 + 1, none⟩ = some (.int .i64 y.h.n) ∧ w'.cell? ⟨b, o + 6 + 2, none⟩ = some (.int .i64 y.h.d) ∧ w'.cell? ⟨b, o + 6 + 3, none⟩ = some (.string y.h.name) ∧ w'.cell? ⟨b, o + 6 + 4, none⟩ = some (.int .i64 y.h.k) ∧ w'.cell? ⟨b, o + 6 + 5, none⟩ = some (.slice y.A y.len y.cap)) (by kernel_rfl) ⟨ak.out.cell 5, i.out.c0, i.out.c1, i.out.c2, i.out.c3, i.out.c4, i.out.c5, j.out.c0, j.out.c1, j.out.c2, j.out.c3, j.out.c4, j.out.c5⟩ fun hHeld => ?_
 refine tkW 0 ?_
 refine tkW 1 ?_
 refine tkW 2 ?_
 refine tkW 3 ?_
 refine tkW 5 ?_
 refine tkW 7 ?_
 refine tkW 8 ?_
 refine tkW 9 ?_
 refine tkW 10 ?_
 refine tkW 11 ?_
 refine tkW 12 ?_
 refine tkW 13 ?_
 refine tkW 14 ?_
 refine wr1 4 fun K hK => ?_
 go_simp
 (with_reducible refine (ex_go Y.out T.a x _ ((HX.out.belowW c.out).belowW g.out) au.out a1.out aj.out).mono ?_)
 rintro e w3 ⟨S1, rfl, al, s⟩
 have m := i.out.b9 s
 have p := j.out.b9 s
 have am := ak.out.b9 s
 have a8 := g.out.t s
 have bg : S1.size = F.length := by rw [strp_size al.out, af.out]
 go_wp2_with fail
 clear hHeld
 refine hK.out _ _ ⟨am.out.cell 5, m.out.c0, m.out.c1, m.out.c2, m.out.c3, m.out.c4, m.out.c5, p.out.c0, p.out.c1, p.out.c2, p.out.c3, p.out.c4, p.out.c5⟩ fun hHeld => ?_
 clear hK K
 try simp only [qa, qb, qc]
 refine tkW 6 ?_
 refine wr1 15 fun K hK => ?_
 go_simp
 (with_reducible refine (sum_p y _).mono ?_)
 rw [← a3.out]
 rintro e w4 ⟨rfl, u⟩
 have q := m.out.b9 u
 have r := p.out.b9 u
 have an := am.out.b9 u
 have ao := a8.out.t u
 go_wp2_with fail
 clear hHeld
 refine hK.out _ _ ⟨an.out.cell 5, q.out.c0, q.out.c1, q.out.c2, q.out.c3, q.out.c4, q.out.c5, r.out.c0, r.out.c1, r.out.c2, r.out.c3, r.out.c4, r.out.c5⟩ fun hHeld => ?_
 clear hK K
 try simp only [qa, qb, qc]
 refine wr1 16 fun K hK => ?_
 go_simp
 (with_reducible refine (operand_at f Y.out T.b y _ D ((((HY.out.belowW c.out).belowW g.out).belowW s.out).belowW u.out) av.out a2.out ((aj.out.belowW s.out).belowW u.out)).mono ?_)
 rintro e w5 ⟨S2, rfl, ap, J⟩
 have z := q.out.b9 J
 have B := r.out.b9 J
 have bh : S2.size = (par D H).length := by rw [strp_size ap.out, ← ag.out]
 go_wp2_with fail
 clear hHeld
 refine hK.out _ _ ⟨(an.out.belowW J.out).cell 5, z.out.c0, z.out.c1, z.out.c2, z.out.c3, z.out.c4, z.out.c5, B.out.c0, B.out.c1, B.out.c2, B.out.c3, B.out.c4, B.out.c5⟩ fun hHeld => ?_
 clear hK K
 try simp only [qa, qb, qc]
 refine tkW 17 ?_
 refine tkW 18 ?_
 refine wpAnyH_done (by kernel_rfl) ?_ _
 go_wp2_with fail
 go_ret
 exact ⟨_, rfl, hI (by rw [data_app, data_app, al.out, ap.out, ← af.out, ← ag.out, O.out, List.append_assoc]), (hI (c.out.trans ((ao.out.trans (J.out.mono ao.out.size)).mono c.out.size)))⟩
end Go.Proofs.YtkjoohnndobjeaaGreatDoor
namespace Go.Proofs.YtkjoohnndobjeaaGreatDoor
open Go.RowKit Go.Fl Go.Fl.Nm Go.Fl.Fm Go.Fl.Rt
open List renaming setIfInBounds_toArray → qa, set_cons_zero → qb, set_cons_succ → qc, getElem_toArray → qd, getElem_cons_zero → qe, getElem_cons_succ → qf

theorem expr_fn (f : Nat) (ih : ExprAt f) (T : TE) (v : Nd) (w : World) (hin : InE w T v) (hg : good nameP (f + 1) T) (hl : (txt (f + 1) T).length ≤ 20000) (ht : RB w) (hk : 9 ≤ v.h.kind ∧ v.h.kind ≤ 13) :
 Calls Tryz.prog 55 #[v.val] w (StrP (txt (f + 1) T) w) := by
 have N := hg.1
 rw [hin.hd, hin.length] at N
 have F : v.len = 1 := by rcases node_kinds N with h | h | h | h | h | h <;> omega
 have X : T.l.length = 1 := by rw [hin.length]; exact F
 obtain ⟨T1, O⟩ := list1 X
 have Y : T.a = T1 := by unfold TE.a; rw [O]; rfl
 have Z : good nameP f T.a := hg.2 _ (by rw [Y, O]; exact List.mem_cons_self ..)
 have aa := hI Z
 have HT := hI ht
 have IH := hI ih
 have ac : T.h.kind = v.h.kind := by rw [hin.hd]
 have ar : T.h.k = v.h.k := by rw [hin.hd]
 have au := hI hin.ok
 obtain ⟨b, o, x, hA, P, ex⟩ := hin.one F
 have av : T.a.h = x.h := P.hd
 have z := hI (show txt (f + 1) T = fnK v.h.kind ++ (40 :: (txt f T.a ++ [41])) by
  show (if _ then _ else _) = _
  rw [ac, if_neg (by omega), if_neg (by omega), if_neg (by omega), if_neg (by omega), if_neg (by omega)])
 have HX := hI P
 have EX := hI ex
 obtain ⟨B, G⟩ := eX (txt f T.a)
 obtain ⟨L, Q⟩ := eX (txt (f + 1) T)
 rw [← G, ← Q] at z
 rw [← Q] at hl ⊢
 obtain ⟨s, R⟩ := eX (fnS v.h.kind)
 have U := hI (show fnS v.h.kind = s from R.symm)
 have H := hI (show s.data.toList = fnK v.h.kind by rw [R]; rfl)
 have a2 : s.size ≤ 4 := by rw [strp_size H.out]; exact fnK_len _
 clear R
 have a3 : B.length ≤ 20000 := by
  have h := congrArg List.length z.out; rw [List.length_append, List.length_cons, List.length_append] at h
  omega
 have c1 : ¬ (9223372036854775807 < s.size + 1) := by omega
 have c2 : ¬ (9223372036854775807 < s.size + 1 + B.length) := by omega
 have c3 : ¬ (9223372036854775807 < s.size + 1 + B.length + 1) := by omega
 have af := hI (show (txt f T.a).length ≤ 20000 by rw [← G]; omega)
 have I := hI G
 clear G Q hin hg hl ht ih P ex Z O Y X N ac ar av
 obtain ⟨⟨j, n, d, nm, k⟩, A, a7, ag⟩ := v
 simp only at hk hA F au z
 subst hA F
 simp only at U H
 have k1 : (j == 1) = false := by rw [beq_eq_false_iff_ne]; omega
 have k2 : (j == 2) = false := by rw [beq_eq_false_iff_ne]; omega
 have k3 : (j == 3) = false := by rw [beq_eq_false_iff_ne]; omega
 have k4 : (j == 4) = false := by rw [beq_eq_false_iff_ne]; omega
 have k5 : (j == 5) = false := by rw [beq_eq_false_iff_ne]; omega
 have k6 : (j == 6) = false := by rw [beq_eq_false_iff_ne]; omega
 have k7 : (j == 7) = false := by rw [beq_eq_false_iff_ne]; omega
 have k8 : (j == 8) = false := by rw [beq_eq_false_iff_ne]; omega
 simp only [Nd.val]
 go_enter Tryz.func55, Tryz.ntmps55
 go_upto_region 1 with (fail)
 obtain ⟨V, hw, q, ai⟩ := aX w 29 #[.int .i64 j, .int .i64 n, .int .i64 d, .string nm, .int .i64 k, .slice (some ⟨b, o, none⟩) 1 ag]
 rw [← hw]
 clear hw
 have pk : V.cell? ⟨w.heap.size, 0, none⟩ = some (.int .i64 j) := ai.out.cell 0
 go_upto_region 26 with (fail)
 clear pk
 have u := hI (below_dr V)
 have aj := hI ((HT.out.belowW q.out).belowW u.out)
 have ak := hI ((HX.out.belowW q.out).belowW u.out)
 have m := hI ((EX.out.belowW q.out).belowW u.out)
 have J := ai.out.b9 u
 refine wp_region_held_drew (S := fun w' => w'.cell? ⟨w.heap.size, 0, none⟩ = some (.int .i64 j) ∧ w'.cell? ⟨w.heap.size, 5, none⟩ = some (.slice (some ⟨b, o, none⟩) 1 ag) ∧ w'.cell? ⟨b, o, none⟩ = some (.int .i64 x.h.kind) ∧ w'.cell? ⟨b, o + 1, none⟩ = some (.int .i64 x.h.n) ∧ w'.cell? ⟨b, o + 2, none⟩ = some (.int .i64 x.h.d) ∧ w'.cell? ⟨b, o + 3, none⟩ = some (.string x.h.name) ∧ w'.cell? ⟨b, o + 4, none⟩ = some (.int .i64 x.h.k) ∧ w'.cell? ⟨b, o + 5, none⟩ = some (.slice x.A x.len x.cap)) (by kernel_rfl) ⟨J.out.cell 0, J.out.cell 5, m.out.c0, m.out.c1, m.out.c2, m.out.c3, m.out.c4, m.out.c5⟩ fun hHeld => ?_
 obtain ⟨bg, al⟩ := eX (V.drew)
 rw [← al] at u aj ak m J hHeld ⊢
 clear al
 refine tkW 1 ?_
 refine tkW 2 ?_
 refine tkW 5 ?_
 refine tkW 6 ?_
 refine tkW 7 ?_
 refine tkW 8 ?_
 refine wr1 0 fun K hK => ?_
 go_simp
 (with_reducible refine (functions_any _).mono ?_)
 rintro e w3 ⟨g, rfl, a0, C⟩
 have am := aj.out.b9 C
 have an := ak.out.b9 C
 have i := m.out.b9 C
 have y := J.out.b9 C
 have M := u.out.t C
 have ao := hI (a0.out)
 go_wp2_with fail
 clear hHeld
 refine hK.out _ _ ⟨y.out.cell 0, y.out.cell 5, i.out.c0, i.out.c1, i.out.c2, i.out.c3, i.out.c4, i.out.c5⟩ fun hHeld => ?_
 clear hK K
 try simp only [qa, qb, qc]
 refine wpAnyH_ready (rs := [3, 9]) (by kernel_rfl) (by simp) ?_
 refine (AllReadyH.cons rfl (fun K hK => ?_) (AllReadyH.cons rfl (fun K hK => ?_) AllReadyH.nil))
 ·
  have D := ao.out.look j hk; rw [U.out] at D
  go_simp
  clear D
  refine hK.out _ _ ⟨y.out.cell 0, y.out.cell 5, i.out.c0, i.out.c1, i.out.c2, i.out.c3, i.out.c4, i.out.c5⟩ fun hHeld => ?_
  clear hK K
  try simp only [qa, qb, qc]
  refine tkW 4 ?_
  refine wr1 9 fun K hK => ?_
  go_simp
  (with_reducible refine (ex_go IH.out T.a x _ an.out aa.out af.out am.out).mono ?_)
  rintro e w4 ⟨W, rfl, E, p⟩; have c := i.out.b9 p; have r := y.out.b9 p; have a1 : W.size = B.length := (by rw [strp_size E.out, ← I.out])
  go_wp2_with fail
  clear hHeld
  refine hK.out _ _ ⟨r.out.cell 0, r.out.cell 5, c.out.c0, c.out.c1, c.out.c2, c.out.c3, c.out.c4, c.out.c5⟩ fun hHeld => ?_
  clear hK K
  try simp only [qa, qb, qc]
  refine tkW 10 ?_
  refine tkW 11 ?_
  refine tkW 12 ?_
  refine wpAnyH_done (by kernel_rfl) ?_ _
  go_wp2_with fail
  go_ret
  exact ⟨_, rfl, hI (by rw [data_app, data_app, data_app, E.out, H.out, ← I.out, z.out, List.append_assoc, List.append_assoc]; rfl), (hI (q.out.trans ((M.out.trans (p.out.mono M.out.size)).mono q.out.size)))⟩
 go_simp
 (with_reducible refine (ex_go IH.out T.a x _ an.out aa.out af.out am.out).mono ?_)
 rintro e w4 ⟨W, rfl, E, p⟩
 have c := i.out.b9 p
 have r := y.out.b9 p
 have a1 : W.size = B.length := by rw [strp_size E.out, ← I.out]
 go_wp2_with fail
 clear hHeld
 refine hK.out _ _ ⟨r.out.cell 0, r.out.cell 5, c.out.c0, c.out.c1, c.out.c2, c.out.c3, c.out.c4, c.out.c5⟩ fun hHeld => ?_
 clear hK K
 try simp only [qa, qb, qc]
 refine wr1 3 fun K hK => ?_
 have D := (ao.out.belowW p.out).look j hk
 rw [U.out] at D
 go_simp
 clear D
 refine hK.out _ _ ⟨r.out.cell 0, r.out.cell 5, c.out.c0, c.out.c1, c.out.c2, c.out.c3, c.out.c4, c.out.c5⟩ fun hHeld => ?_
 clear hK K
 try simp only [qa, qb, qc]
 refine tkW 4 ?_
 refine tkW 10 ?_
 refine tkW 11 ?_
 refine tkW 12 ?_
 refine wpAnyH_done (by kernel_rfl) ?_ _
 go_wp2_with fail
 go_ret
 exact ⟨_, rfl, hI (by rw [data_app, data_app, data_app, E.out, H.out, ← I.out, z.out, List.append_assoc, List.append_assoc]; rfl), (hI (q.out.trans ((M.out.trans (p.out.mono M.out.size)).mono q.out.size)))⟩

theorem expr_k1 (f : Nat) (ih : ExprAt f) (T : TE) (v : Nd) (w : World) (hin : InE w T v) (hg : good nameP (f + 1) T) (hl : (txt (f + 1) T).length ≤ 20000) (ht : RB w) (hk : v.h.kind = 1) :
 Calls Tryz.prog 55 #[v.val] w (StrP (txt (f + 1) T) w) := by
 have hnd := hg.1
 rw [hin.hd, hin.length] at hnd
 have hv : valid v.h.n v.h.d := by rcases node_kinds hnd with h | h | h | h | h | h <;> first | exact h.2.2 | omega
 have hTX := hI (show txt (f + 1) T = textE v.h.n v.h.d by
  show (if _ then _ else _) = _
  unfold textE
  rw [hin.hd, if_pos hk, if_pos (vB_iff.2 hv)])
 rw [hTX.out]
 have HOK := hI hin.ok
 have HT := hI ht
 clear hin hg hl ht ih hnd hv hTX
 obtain ⟨⟨kd, n, d, nm, k⟩, A, len, cap⟩ := v
 simp only at hk HOK
 subst hk
 simp only [Nd.val]
 go_enter Tryz.func55, Tryz.ntmps55
 go_wp2_with fail
 refine (text_q n d _ (HT.out.belowW (below_box w _)) HOK.out.n1 HOK.out.n2 HOK.out.d1 HOK.out.d2).mono ?_
 rintro e w2 ⟨S, rfl, HS, HB⟩
 go_wp2_with fail
 go_ret
 exact ⟨S, rfl, HS, hI ((below_box w _).trans (HB.out.mono (below_box w _).size))⟩

theorem expr_k2 (f : Nat) (ih : ExprAt f) (T : TE) (v : Nd) (w : World) (hin : InE w T v) (hg : good nameP (f + 1) T) (hl : (txt (f + 1) T).length ≤ 20000) (ht : RB w) (hk : v.h.kind = 2) :
 Calls Tryz.prog 55 #[v.val] w (StrP (txt (f + 1) T) w) := by
 have hTX := hI (show txt (f + 1) T = v.h.name.data.toList by
  show (if _ then _ else _) = _
  rw [hin.hd, hk, if_neg (by decide), if_pos rfl])
 rw [hTX.out]
 clear hin hg hl ht ih hTX
 obtain ⟨⟨kd, n, d, nm, k⟩, A, len, cap⟩ := v
 simp only at hk
 subst hk
 simp only [Nd.val]
 go_enter Tryz.func55, Tryz.ntmps55
 go_wp2_with fail
 go_ret
 exact ⟨nm, rfl, hI rfl, hI (below_box w _)⟩
end Go.Proofs.YtkjoohnndobjeaaGreatDoor
