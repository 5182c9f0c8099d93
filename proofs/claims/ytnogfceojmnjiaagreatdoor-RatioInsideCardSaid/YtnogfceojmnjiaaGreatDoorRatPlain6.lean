/-
  What Enclose returns, in plain Lean. Of no program.
-/
import Derived.Test.YtnogfceojmnjiaaGreatDoorRaC
set_option linter.unusedVariables false
namespace Go.Fl.Dy
open Go.Fl.Nm
theorem canon_natAbs_zero (b : Bool) : canon b 0 0 = ⟨false, 0, 0⟩ := rfl
/-- The enclosure of a valid ratio at a precision. -/
theorem encR_eq {n d : Int} {p : Nat} (hv : Rt.valid n d) (hp : 8 ≤ p) (hp2 : p ≤ 512) : encR n d p = (encE n d p false, encE n d p true, false) := by
  have hv0 := hv
  obtain ⟨v1, v2, v3, v4, _⟩ := hv
  unfold Rt.MX at v2 v3 v4
  have hpr : precB (p : Int) = true := precB_iff.2 ⟨by omega, by omega⟩
  have key : ∀ up, divE (canon (decide (n < 0)) n.natAbs 0) (canon false d.natAbs 0) p up = (encE n d p up, 0) := by
    intro up
    unfold divE
    rw [hpr]
    simp only [if_true, Int.toNat_natCast]
    unfold encE
    by_cases h0 : n = 0
    · subst h0
      simp only [if_true]
      unfold divR
      have hd : (canon false d.natAbs 0).k ≠ 0 := by rw [canon_pos (by omega)]; exact od_ne (by omega)
      rw [if_neg hd, if_pos (by rfl)]
    · rw [if_neg h0]
      exact div_enc (decide (n < 0)) up (by omega) (by omega) (by omega) (by omega) hp hp2 (enc_spec (by omega) (by omega) (by omega)) (encX_iff (by omega))
  unfold encR
  rw [key, key, if_pos ⟨Rt.vB_iff.2 hv0, rfl, rfl⟩]
theorem encR_no {n d p : Int} (h : Rt.vB n d = false ∨ precB p = false) : encR n d p = (⟨false, 0, 0⟩, ⟨false, 0, 0⟩, true) := by
  unfold encR
  rw [if_neg]
  rintro ⟨h1, h2, _⟩
  rcases h with h | h
  · rw [h] at h1; cases h1
  · unfold divE at h2
    rw [h] at h2
    simp at h2
theorem enc_example : encR 1 3 8 = (⟨false, 85, -8⟩, ⟨false, 171, -9⟩, false) := by
  have hv : Rt.valid 1 3 := by decide
  have hE : Enc 1 3 8 170 (-9) := ⟨⟨0, 9, rfl, by decide, by decide⟩, by decide, by decide⟩
  have h1 := Enc.unique (by decide) (by decide) hE (enc_spec (n := 1) (d := 3) (p := 8) (by decide) (by decide) (by decide))
  have hx : encX 1 3 8 = false := by
    rw [Bool.eq_false_iff]
    intro h
    have := (encX_iff (n := 1) (d := 3) (p := 8) (by decide)).1 h
    rw [← h1.1, ← h1.2] at this
    have := Ex.all this (x := 0) (y := 9) rfl
    exact absurd this (by decide)
  have := encR_eq (p := 8) hv (by omega) (by omega)
  rw [show ((8 : Nat) : Int) = 8 from rfl] at this
  rw [this]
  unfold encE
  rw [if_neg (by decide), if_neg (by decide)]
  rw [show ((1 : Int).natAbs) = 1 from rfl, show ((3 : Int).natAbs) = 3 from rfl, ← h1.1, ← h1.2, hx]
  have e1 : v2 170 = 1 ∧ od 170 = 85 := v2_unique (by decide) (by decide)
  have q1 : endQ 170 false (false != decide ((1 : Int) < 0)) = 170 := by decide
  have q2 : endQ 170 false (true != decide ((1 : Int) < 0)) = 171 := by decide
  rw [q1, q2, canon_pos (k := 170) (by decide), e1.1, e1.2, canon_odd (k := 171) (by decide)]
  rfl
end Go.Fl.Dy
