/-
  The walks of the tests whether two expressions have the same fields.
  The walk of FormatParses.
-/
import Derived.Test.YtkjoohnndobjeaaGreatDoorQJ
import Derived.Test.YtkjoohnndobjeaaGreatDoorQH
import Derived.Test.YtkjoohnndobjeaaGreatDoorQL
import Derived.Test.YtkjoohnndobjeaaGreatDoorQM
import Derived.Test.YtkjoohnndobjeaaGreatDoorQN
set_option linter.unusedVariables false
set_option maxHeartbeats 4000000
set_option maxRecDepth 100000
namespace Go.Proofs.YtkjoohnndobjeaaGreatDoor
open Go.RowKit Go.Fl Go.Fl.Lx Go.Fl.Nm Go.Fl.Fm Go.Fl.Rt Go.Fl.Pa
/-- What a test whether two things are equal answers. -/
def EqR {α : Type} (a b : α) (w : World) (e : Ending) (w' : World) : Prop := ∃ r : Bool, e = .returned (.bool r) ∧ Hid (r = true ↔ a = b) ∧ Hid (Below w.heap.size w w')
theorem te_ext {T U : TE} (h : T.h = U.h) (l : T.l = U.l) : T = U := by
 obtain ⟨a, b⟩ := T
 obtain ⟨c, d⟩ := U
 simp only [TE.h, TE.l] at h l
 rw [h, l]
theorem size_lt {T : TE} {i : Nat} (h : i < T.l.length) : SizeOf.sizeOf (T.l.getD i default) < SizeOf.sizeOf T := by
 obtain ⟨a, b⟩ := T
 simp only [TE.l] at h ⊢
 rw [List.getD_eq_getElem?_getD, List.getElem?_eq_getElem h, Option.getD_some]
 have := List.sizeOf_lt_of_mem (List.getElem_mem h)
 simp only [TE.mk.sizeOf_spec]
 omega
theorem list_getD_ext {l m : List TE} (h : l.length = m.length) (hj : ∀ j, j < l.length → l.getD j default = m.getD j default) : l = m := by
 apply List.ext_getElem h
 intro i h1 h2
 have := hj i h1
 rw [List.getD_eq_getElem?_getD, List.getD_eq_getElem?_getD, List.getElem?_eq_getElem h1, List.getElem?_eq_getElem h2] at this
 exact this
theorem InE.el {w : World} {T : TE} {v : Nd} (h : InE w T v) (i : Nat) (hi : i < v.len) : ∃ b o x, v.A = some ⟨b, o, none⟩ ∧ InE w (T.l.getD i default) x ∧ ElAt w b (o + i * 6) x := by
 obtain ⟨b, o, x, hA, hb, hx, hc⟩ := h.at_ i hi
 refine ⟨b, o, x, hA, hx, hb, fun j u hu => ?_⟩
 have hj : j < 6 := (List.getElem?_eq_some_iff.1 hu).1
 have := hc j u hu hj
 rwa [← Nat.add_assoc] at this

theorem eqf_same (T U : TE) (v u : Nd) (w : World) (hT : InE w T v) (hU : InE w U u)
 (ih : ∀ i, i < v.len → ∀ x y w', InE w' (T.l.getD i default) x → InE w' (U.l.getD i default) y → Calls Tryz.prog 17 #[x.val, y.val] w' (EqR (T.l.getD i default) (U.l.getD i default) w')) :
 Calls Tryz.prog 44 #[.slice v.A v.len v.cap, .slice u.A u.len u.cap, .func (.func 17) #[] #[]] w (EqR T.l U.l w) := by
 have X := hI hT
 have Y := hI hU
 have H := hI ih
 have m := hI hT.length
 have p := hI hU.length
 have q := hT.caps
 unfold maxLen at q
 clear hT hU ih
 obtain ⟨vh, A, len, cap⟩ := v
 obtain ⟨uh, A2, s, aq⟩ := u
 simp only at m p H q ⊢
 obtain ⟨ar, au⟩ := q
 by_cases hll : len = s
 case neg =>
  have Z : ((len : Int) != (s : Int)) = true := (by rw [bne_iff_ne]; omega); have d2 : (len != s) = true := (by rw [bne_iff_ne]; exact hll)
  go_enter Tryz.func44, Tryz.ntmps44
  go_wp2_with fail
  go_ret
  exact ⟨_, rfl, hI ⟨fun h => (by cases h), fun h => absurd (by rw [← m.out, ← p.out, h]) hll⟩, hI (Below.refl _ _)⟩
 subst hll
 have Z : ((len : Int) != (len : Int)) = false := by simp
 go_enter Tryz.func44, Tryz.ntmps44
 go_wp2_with fail
 go_loopg [17] len (fun gk d wr => ∃ i : Nat, d = .int .i64 (i : Nat) ∧ i ≤ len ∧ gk = len - i ∧ Hid (∀ j, j < i → T.l.getD j default = U.l.getD j default) ∧ Hid (Below w.heap.size w wr))
 case atStart => exact ⟨0, rfl, Nat.zero_le _, rfl, hI (fun j hj => absurd hj (Nat.not_lt_zero j)), hI (Below.refl _ _)⟩
 obtain ⟨i, rfl, hi, rfl, I, g⟩ := hrel
 have aa := g.out.size
 by_cases hlt : i < len
 ·
  obtain ⟨b, o, x, J, L, a⟩ := (X.out.belowW g.out).el i hlt; obtain ⟨b2, o2, y, M, N, O⟩ := (Y.out.belowW g.out).el i hlt; simp only at J M; subst J M; have d3 : decide ((i : Int) < (len : Int)) = true := decide_eq_true (by omega); have d4 : decide (i < len) = true := decide_eq_true hlt; have az : 0 ≤ (i : Int) ∧ (i : Int) < (len : Int) := (by omega); have ad := hI L; have ae := hI N; have EY := hI O; have z := a.c0; have B := a.c1; have C := a.c2; have D := a.c3; have E := a.c4; have F := a.c5; clear L N O a
  go_upto_region 6 with (fail)
  obtain ⟨w1, P, Q, E1⟩ := aX wr 29 #[.int .i64 x.h.kind, .int .i64 x.h.n, .int .i64 x.h.d, .string x.h.name, .int .i64 x.h.k, .slice x.A x.len x.cap]; rw [← P]; clear P z B C D E F; have c := EY.out.b9 Q; have z := c.out.c0; have B := c.out.c1; have C := c.out.c2; have D := c.out.c3; have E := c.out.c4; have F := c.out.c5
  go_upto_region 7 with (fail)
  obtain ⟨w2, R, S, E2⟩ := aX w1 29 #[.int .i64 y.h.kind, .int .i64 y.h.n, .int .i64 y.h.d, .string y.h.name, .int .i64 y.h.k, .slice y.A y.len y.cap]; rw [← R]; clear R z B C D E F; have G := Q.out.t S; have ak := hI (g.out.trans (G.out.mono aa)); obtain ⟨a0, _, a1, _, a2, _, a3, _, a4, _, a5, _⟩ := (E1.out.belowW S.out).all6; obtain ⟨b0, _, b1, _, be, _, b3, _, b4, _, b5, _⟩ := E2.out.all6
  go_wp2_with fail
  refine (H.out i hlt x y w2 (ad.out.belowW G.out) (ae.out.belowW G.out)).mono ?_
  rintro e w3 ⟨r, rfl, V, al⟩; have W := ak.out.t al
  cases r with
  | false =>
   go_wp2_with fail
   go_ret
   refine ⟨_, rfl, hI ⟨fun h => (by cases h), fun h => ?_⟩, W⟩
   have := V.out.2 (by rw [h])
   cases this
  | true =>
   have am := hI (V.out.1 rfl); have e1 : IntKind.i64.wrap ((i : Int) + 1) = (i : Int) + 1 := (by rw [IntKind.wrap_i64]; omega)
   go_wp2_with fail
   go_roundg (len - (i + 1))
   case measure => omega
   case rel => exact ⟨i + 1, by go_num, by omega, rfl, hI (fun j hj => by
    by_cases hji : j = i
    ·
     rw [hji]; exact am.out
    exact I.out j (by omega)), W⟩
 have d3 : decide ((i : Int) < (len : Int)) = false := decide_eq_false (by omega)
 have d4 : decide (i < len) = false := decide_eq_false hlt
 go_wp2_with fail
 go_ret
 exact ⟨_, rfl, hI ⟨fun _ => list_getD_ext (m.out.trans p.out.symm) (fun j hj => I.out j (by rw [m.out] at hj; omega)), fun _ => rfl⟩, g⟩

theorem same_any : ∀ (z : Nat) (T : TE), SizeOf.sizeOf T ≤ z → ∀ (U : TE) (v u : Nd) (w : World), InE w T v → InE w U u → Calls Tryz.prog 17 #[v.val, u.val] w (EqR T U w) := by
 intro z
 induction z with
 | zero =>
  intro T hz
  exfalso
  obtain ⟨a, b⟩ := T; simp only [TE.mk.sizeOf_spec] at hz
  omega
 | succ z ih =>
  intro T hz U v u w hT hU
  have W := hI (fun (w' : World) (hb : Below w.heap.size w w') => eqf_same T U v u w' (hT.belowW hb) (hU.belowW hb) (fun i hi x y w2 hx hy => ih _ (by
   have := size_lt (T := T) (i := i) (by rw [hT.length]; exact hi)
   omega) _ x y w2 hx hy))
  have M : T.h = v.h := hT.hd; have N : U.h = u.h := hU.hd; have B := hI (show T = U ↔ v.h = u.h ∧ T.l = U.l from ⟨fun e => by rw [← M, ← N, e]; exact ⟨rfl, rfl⟩, fun e => te_ext (by rw [M, N, e.1]) e.2⟩); clear hT hU hz ih M N; obtain ⟨⟨m, n, d, s, k⟩, A, C, D⟩ := v; obtain ⟨⟨E, F, G, o, H⟩, O, P, Q⟩ := u; simp only [Nd.val] at W B ⊢
  go_enter Tryz.func17, Tryz.ntmps17
  go_upto_region 1 with (fail)
  obtain ⟨w2, p⟩ := eX ((w.alloc (Obj.cells #[.int .i64 m, .int .i64 n, .int .i64 d, .string s, .int .i64 k, .slice A C D] 29)).alloc (Obj.cells #[.int .i64 E, .int .i64 F, .int .i64 G, .string o, .int .i64 H, .slice O P Q] 29)); have g := hI (show Below w.heap.size w w2 by rw [p]; exact (below_box _ _).trans ((below_box _ _).mono (by simp))); have E1 := hI (show Blk w2 w.heap.size 29 #[.int .i64 m, .int .i64 n, .int .i64 d, .string s, .int .i64 k, .slice A C D] by rw [p]; exact (Blk.new w 29 #[.int .i64 m, .int .i64 n, .int .i64 d, .string s, .int .i64 k, .slice A C D]).belowW (below_box _ _)); have E2 := hI (show Blk w2 (w.heap.size + 1) 29 #[.int .i64 E, .int .i64 F, .int .i64 G, .string o, .int .i64 H, .slice O P Q] by rw [p]; exact (by have := Blk.new (w.alloc (Obj.cells #[.int .i64 m, .int .i64 n, .int .i64 d, .string s, .int .i64 k, .slice A C D] 29)) 29 #[.int .i64 E, .int .i64 F, .int .i64 G, .string o, .int .i64 H, .slice O P Q]; simpa using this)); rw [← p]; clear p; obtain ⟨a0, _, a1, _, a2, _, a3, _, a4, _, a5, _⟩ := E1.out.all6; obtain ⟨b0, _, b1, _, b2, _, b3, _, b4, _, b5, _⟩ := E2.out.all6; have av := run_eq_rat
  obtain ⟨X, Y⟩ : ∃ c, (m == E) = c := ⟨_, rfl⟩
  obtain ⟨Z, h2⟩ : ∃ c, (n == F && d == G) = c := ⟨_, rfl⟩
  obtain ⟨R, S⟩ : ∃ c, (s == o) = c := ⟨_, rfl⟩
  obtain ⟨c4, h4⟩ : ∃ c, (k == H) = c := ⟨_, rfl⟩
  have aw : (s.toList == o.toList) = R := by rw [ByteArray.toList_eq, ByteArray.toList_eq, ← S, Bool.eq_iff_iff, beq_iff_eq, MapKept.bytes_beq]; exact ⟨fun e => ByteArray.ext (Array.toList_inj.1 e), fun e => by rw [e]⟩
  have j := hI (show T = U ↔ (X = true ∧ Z = true ∧ R = true ∧ c4 = true) ∧ T.l = U.l from ⟨fun e => by
   obtain ⟨I, q⟩ := B.out.1 e; injection I with J L V e6 e7
   refine ⟨⟨?_, ?_, ?_, ?_⟩, q⟩
   ·
    rw [← Y, J]; simp
   ·
    rw [← h2, L, V]; simp
   ·
    rw [← S, e6, MapKept.bytes_beq]
   ·
    rw [← h4, e7]; simp, fun e => by
   obtain ⟨⟨I, q, J, L⟩, V⟩ := e; rw [← Y, beq_iff_eq] at I; rw [← h2, Bool.and_eq_true, beq_iff_eq, beq_iff_eq] at q; rw [← S, MapKept.bytes_beq] at J; rw [← h4, beq_iff_eq] at L
   exact B.out.2 ⟨by rw [I, q.1, q.2, J, L], V⟩⟩)
  clear B
  cases X with
  | false =>
   go_wp2_with fail
   go_ret
   exact ⟨_, rfl, hI ⟨fun h => (by cases h), fun h => by have := (j.out.1 h).1.1; cases this⟩, g⟩
  | true =>
   cases Z with
   | false =>
    go_wp2_with fail
    go_ret
    exact ⟨_, rfl, hI ⟨fun h => (by cases h), fun h => by have := (j.out.1 h).1.2.1; cases this⟩, g⟩
   | true =>
    cases R with
    | false =>
     go_wp2_with fail
     go_ret
     exact ⟨_, rfl, hI ⟨fun h => (by cases h), fun h => by have := (j.out.1 h).1.2.2.1; cases this⟩, g⟩
    | true =>
     cases c4 with
     | false =>
      go_wp2_with fail
      go_ret
      exact ⟨_, rfl, hI ⟨fun h => (by cases h), fun h => by have := (j.out.1 h).1.2.2.2; cases this⟩, g⟩
     | true =>
      go_wp2_with fail
      refine (W.out w2 g.out).mono ?_
      rintro e w3 ⟨r, rfl, HR, ag⟩
      go_wp2_with fail
      go_ret
      exact ⟨r, rfl, hI (HR.out.trans ⟨fun h => j.out.2 ⟨⟨by trivial, by trivial, by trivial, by trivial⟩, h⟩, fun h => (j.out.1 h).2⟩), g.out.t ag⟩

end Go.Proofs.YtkjoohnndobjeaaGreatDoor
namespace Go.Proofs.YtkjoohnndobjeaaGreatDoor
open Go.RowKit Go.Fl Go.Fl.Lx Go.Fl.Nm Go.Fl.Fm Go.Fl.Rt Go.Fl.Pa
theorem nameP_fn (c : Int) : nameP (fnK c) = false := by
 unfold fnK
 split
 ·
  decide
 split
 ·
  decide
 split
 ·
  decide
 split <;> decide
theorem expr_ok {l : List UInt8} {ts : List Tok} {T : TE} (h3 : lexRes l = .ok ts) (h4 : sumP nameP ts (8 * ts.length + 8) 0 0 = .ok T ts.length) (h : okE T = true) : exprR l = ((0, 0, 0), some T) := by
 unfold exprR runR
 rw [h3]
 show runS ts okE (sumP nameP ts (8 * ts.length + 8) 0 0) = _
 rw [h4]
 show (if ts.length < ts.length then (((tk ts ts.length).line, (tk ts ts.length).col, 3), none) else if okE T then ((0, 0, 0), some T) else ((0, 0, 5), some T)) = _
 rw [if_neg (Nat.lt_irrefl _), if_pos h]
end Go.Proofs.YtkjoohnndobjeaaGreatDoor
