/-
  Depths and sizes of trees; which of ParseGroups' trees are valid. In plain Lean. No program in sight.
-/
import Derived.Test.YtkjoohnndobjeaaGreatDoorPcE
set_option linter.unusedVariables false
namespace Go.Fl.Pa
open Go.Lib Go.Fl.Lx Go.Fl.Fm Go.Fl.Rt
open Go.Proofs.YtkjoohnndobjeaaGreatDoor (nameP okE cR cR_succ okE_iff)
def dpL (d : TE → Nat) : List TE → Nat → Nat
  | [], n => n
  | x :: l, n => dpL d l (max n (d x))
/-- The depth of a tree of at most so many levels. -/
def dpT : Nat → TE → Nat
  | 0, _ => 0
  | f + 1, T => dpL (dpT f) T.l 0 + 1
theorem dpL_ge (d : TE → Nat) : ∀ (l : List TE) (n : Nat), n ≤ dpL d l n ∧ ∀ x ∈ l, d x ≤ dpL d l n
  | [], n => ⟨Nat.le_refl _, fun x h => by cases h⟩
  | y :: l, n => by
    obtain ⟨h1, h2⟩ := dpL_ge d l (max n (d y))
    unfold dpL
    refine ⟨by omega, fun x hx => ?_⟩
    rcases List.mem_cons.1 hx with e | e
    · subst e; omega
    · exact h2 x e
theorem dpL_le (d : TE → Nat) (B : Nat) (hd : ∀ x, d x ≤ B) : ∀ (l : List TE) (n : Nat), n ≤ B → dpL d l n ≤ B
  | [], n, h => h
  | y :: l, n, h => by
    unfold dpL
    exact dpL_le d B hd l _ (by have := hd y; omega)
theorem dpT_le : ∀ (f : Nat) (T : TE), dpT f T ≤ f
  | 0, T => Nat.le_refl _
  | f + 1, T => by
    unfold dpT
    have := dpL_le (dpT f) f (dpT_le f) T.l 0 (Nat.zero_le _)
    omega
theorem goR_cut {c c' : TE → Nat} : ∀ (l : List TE) (n : Nat), goR c l n ≤ 200 → (∀ x ∈ l, c x ≤ 200 → c' x = c x) → goR c' l n = goR c l n
  | [], n, _, _ => rfl
  | x :: l, n, h, hc => by
    unfold goR at h ⊢
    split at h
    · rename_i hn
      rw [if_pos hn]
      have h1 := goR_ge c l (n + c x)
      have hx := hc x (by simp) (by omega)
      rw [hx, if_pos hn]
      exact goR_cut l _ h (fun y hy => hc y (by simp [hy]))
    · rename_i hn
      omega
/-- A tree that is not deep is counted the same with fewer or more levels. -/
theorem dp_cut : ∀ (f g : Nat) (T : TE), cR f T ≤ 200 → dpT f T ≤ g → cR g T = cR f T := by
  intro f
  induction f with
  | zero =>
    intro g T h
    exact absurd h (by show ¬ 1048576 ≤ 200; decide)
  | succ f ih =>
    intro g T h hd
    unfold dpT at hd
    obtain ⟨g, rfl⟩ : ∃ g', g = g' + 1 := ⟨g - 1, by omega⟩
    rw [cR_succ] at h ⊢
    rw [cR_succ]
    split at h
    · rename_i hn
      rw [if_pos hn, if_pos hn]
      refine goR_cut T.l 1 h (fun x hx hc => ih g x hc ?_)
      have := (dpL_ge (dpT f) T.l 0).2 x hx
      omega
    · omega
theorem cR_one {g : Nat} {k : Int} {a : TE} (hk : k = 7 ∨ k = 9 ∨ k = 10 ∨ k = 11 ∨ k = 12 ∨ k = 13) : cR (g + 1) (opE k [a]) = 1 + cR g a := by
  have h : nodeB nameP ⟨k, 0, 0, ⟨#[]⟩, 0⟩ 1 = true := by rcases hk with e | e | e | e | e | e <;> subst e <;> decide +kernel
  rw [cR_succ, if_pos (show nodeB nameP (opE k [a]).h (opE k [a]).l.length = true from h)]
  rfl
theorem cR_pow {g : Nat} {a : TE} : cR (g + 1) (powE 3 a) = 1 + cR g a := by
  have h : nodeB nameP ⟨8, 0, 0, ⟨#[]⟩, 3⟩ 1 = true := by decide +kernel
  rw [cR_succ, if_pos (show nodeB nameP (powE 3 a).h (powE 3 a).l.length = true from h)]
  rfl
theorem cR_two {g : Nat} {k : Int} {a b : TE} (hk : k = 3 ∨ k = 4 ∨ k = 5 ∨ k = 6) (ha : cR g a ≤ 190) : cR (g + 1) (opE k [a, b]) = 1 + cR g a + cR g b := by
  have h : nodeB nameP ⟨k, 0, 0, ⟨#[]⟩, 0⟩ 2 = true := by rcases hk with e | e | e | e <;> subst e <;> decide +kernel
  rw [cR_succ, if_pos (show nodeB nameP (opE k [a, b]).h (opE k [a, b]).l.length = true from h)]
  show goR (cR g) [a, b] 1 = _
  unfold goR
  rw [if_pos (by decide)]
  unfold goR
  rw [if_pos (by omega)]
  rfl
section
variable {a b : TE} (ha : okE a = true) (hb : okE b = true) (da : dpT 20 a ≤ 17) (db : dpT 20 b ≤ 17) (hs : cR 20 a + cR 20 b ≤ 90)
include ha hb da db
theorem cuts : (∀ g, 17 ≤ g → cR g a = cR 20 a) ∧ (∀ g, 17 ≤ g → cR g b = cR 20 b) :=
  ⟨fun g hg => dp_cut 20 g a (okE_iff.1 ha) (by omega), fun g hg => dp_cut 20 g b (okE_iff.1 hb) (by omega)⟩
include hs
theorem gok : okE (opE 3 [a, b]) = true ∧ okE (opE 4 [a, opE 5 [b, a]]) = true ∧ okE (opE 6 [opE 5 [a, b], a]) = true ∧ okE (opE 3 [opE 4 [a, b], a]) = true ∧ okE (opE 7 [a]) = true ∧ okE (powE 3 a) = true ∧
    okE (opE 5 [opE 7 [powE 3 a], b]) = true ∧ okE (opE 9 [a]) = true ∧ okE (opE 3 [opE 13 [b], opE 10 [a]]) = true ∧ okE (opE 5 [opE 11 [a], opE 12 [b]]) = true := by
  obtain ⟨h1, h2⟩ := cuts ha hb da db
  have a19 := h1 19 (by decide)
  have a18 := h1 18 (by decide)
  have a17 := h1 17 (by decide)
  have b19 := h2 19 (by decide)
  have b18 := h2 18 (by decide)
  have t1 : cR 19 (opE 5 [b, a]) = 1 + cR 18 b + cR 18 a := cR_two (g := 18) (by decide) (by omega)
  have t2 : cR 19 (opE 5 [a, b]) = 1 + cR 18 a + cR 18 b := cR_two (g := 18) (by decide) (by omega)
  have t3 : cR 19 (opE 4 [a, b]) = 1 + cR 18 a + cR 18 b := cR_two (g := 18) (by decide) (by omega)
  have t4 : cR 19 (opE 7 [powE 3 a]) = 1 + cR 18 (powE 3 a) := cR_one (g := 18) (by decide)
  have t5 : cR 18 (powE 3 a) = 1 + cR 17 a := cR_pow (g := 17)
  have t6 : cR 19 (opE 13 [b]) = 1 + cR 18 b := cR_one (g := 18) (by decide)
  have t7 : cR 19 (opE 10 [a]) = 1 + cR 18 a := cR_one (g := 18) (by decide)
  have t8 : cR 19 (opE 11 [a]) = 1 + cR 18 a := cR_one (g := 18) (by decide)
  have t9 : cR 19 (opE 12 [b]) = 1 + cR 18 b := cR_one (g := 18) (by decide)
  refine ⟨okE_iff.2 ?_, okE_iff.2 ?_, okE_iff.2 ?_, okE_iff.2 ?_, okE_iff.2 ?_, okE_iff.2 ?_, okE_iff.2 ?_, okE_iff.2 ?_, okE_iff.2 ?_, okE_iff.2 ?_⟩
  · rw [cR_two (g := 19) (by decide) (by omega)]; omega
  · rw [cR_two (g := 19) (by decide) (by omega)]; omega
  · rw [cR_two (g := 19) (by decide) (by omega)]; omega
  · rw [cR_two (g := 19) (by decide) (by omega)]; omega
  · rw [cR_one (g := 19) (by decide)]; omega
  · rw [cR_pow (g := 19)]; omega
  · rw [cR_two (g := 19) (by decide) (by omega)]; omega
  · rw [cR_one (g := 19) (by decide)]; omega
  · rw [cR_two (g := 19) (by decide) (by omega)]; omega
  · rw [cR_two (g := 19) (by decide) (by omega)]; omega
end
end Go.Fl.Pa
