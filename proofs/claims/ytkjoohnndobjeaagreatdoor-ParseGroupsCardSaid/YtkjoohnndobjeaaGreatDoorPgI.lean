/-
  What a text without an error comes to.
-/
import Derived.Test.YtkjoohnndobjeaaGreatDoorPbH
import Derived.Test.YtkjoohnndobjeaaGreatDoorPbI
import Derived.Test.YtkjoohnndobjeaaGreatDoorQU
import Derived.Test.YtkjoohnndobjeaaGreatDoorQS
set_option linter.unusedVariables false
namespace Go.Proofs.YtkjoohnndobjeaaGreatDoor
open Go.RowKit Go.Lib Go.Fl Go.Fl.Lx Go.Fl.Nm Go.Fl.Fm Go.Fl.Rt Go.Fl.Pa
/-- What a text without an error comes to. -/
theorem run_inv {α : Type} {l : List UInt8} {rd : List Tok → PR α} {v : α → Bool} (h0 : (runR l rd v).1.2.2 = 0) (hno : ∀ ts, rd ts ≠ .out) (heb : ∀ ts, Eb ts (rd ts)) (hfw : ∀ ts T k, rd ts = .ok T k → k ≤ ts.length) :
    ∃ ts T, lexRes l = .ok ts ∧ rd ts = .ok T ts.length ∧ v T = true ∧ (runR l rd v).2 = some T := by
  unfold runR at h0 ⊢
  cases hl : lexRes l with
  | error p =>
    rw [hl] at h0
    exact absurd h0 (lexRes_err hl).1
  | ok ts =>
    rw [hl] at h0
    simp only at h0 ⊢
    cases hr : rd ts with
    | out => exact absurd hr (hno ts)
    | bad ln co er =>
      rw [hr] at h0
      exact absurd h0 (errat_ne (heb ts ln co er hr))
    | ok T k =>
      rw [hr] at h0
      have hk := hfw ts T k hr
      by_cases hlt : k < ts.length
      · have h0 : (if k < ts.length then (((tk ts k).line, (tk ts k).col, 3), none) else if v T then ((0, 0, 0), some T) else ((0, 0, 5), some T) : (Nat × Nat × Nat) × Option α).1.2.2 = 0 := h0
        rw [if_pos hlt] at h0
        cases h0
      · have e : k = ts.length := by omega
        subst e
        have h1 : (if ts.length < ts.length then (((tk ts ts.length).line, (tk ts ts.length).col, 3), none) else if v T then ((0, 0, 0), some T) else ((0, 0, 5), some T) : (Nat × Nat × Nat) × Option α).1.2.2 = 0 := h0
        rw [if_neg hlt] at h1
        cases hv : v T with
        | false => rw [hv] at h1; cases h1
        | true => exact ⟨ts, T, rfl, hr, hv, by show (if ts.length < ts.length then (((tk ts ts.length).line, (tk ts ts.length).col, 3), none) else if v T then ((0, 0, 0), some T) else ((0, 0, 5), some T) : (Nat × Nat × Nat) × Option α).2 = some T; rw [if_neg hlt, hv, if_pos rfl]⟩
theorem expr_inv {l : List UInt8} (h0 : (exprR l).1.2.2 = 0) : ∃ ts T, lexRes l = .ok ts ∧ Prt ts T ∧ (exprR l).2 = some T := by
  obtain ⟨ts, T, h1, h2, h4, h3⟩ := run_inv (rd := fun ts => sumP nameP ts (8 * ts.length + 8) 0 0) h0 (fun ts => sumE_no 0) (fun ts => sumE_eb 0) (fun ts T k h => (sumE_fw (nm := nameP) (ts := ts) 0 T k h).2)
  exact ⟨ts, T, h1, ⟨h2, h4⟩, h3⟩
theorem run_ok9 {α : Type} {l : List UInt8} {ts : List Tok} {rd : List Tok → PR α} {v : α → Bool} {T : α} (h3 : lexRes l = .ok ts) (h4 : rd ts = .ok T ts.length) (h : v T = true) : runR l rd v = ((0, 0, 0), some T) := by
  unfold runR
  rw [h3]
  show runS ts v (rd ts) = _
  rw [h4]
  show (if ts.length < ts.length then (((tk ts ts.length).line, (tk ts ts.length).col, 3), none) else if v T then ((0, 0, 0), some T) else ((0, 0, 5), some T)) = _
  rw [if_neg (Nat.lt_irrefl _), if_pos h]
end Go.Proofs.YtkjoohnndobjeaaGreatDoor
