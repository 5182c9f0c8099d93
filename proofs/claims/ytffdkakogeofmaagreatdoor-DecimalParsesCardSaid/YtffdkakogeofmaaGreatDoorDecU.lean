/-
  What the texts of numbers and intervals are read as, in plain Lean. Of no program.
-/
import Derived.Test.YtffdkakogeofmaaGreatDoorDecI
import Derived.Test.YtffdkakogeofmaaGreatDoorDecT
set_option linter.unusedVariables false
namespace Go.Fl.Dy
open Go.Fl.Nm
open Go.Lib (decDigits)
/-! ### Cutting -/
theorem index_at (a b : List UInt8) (ha : (44 : UInt8) ∉ a) : Go.Lib.index (a ++ 44 :: 32 :: b) [44, 32] = a.length := by
  induction a with
  | nil => rfl
  | cons x a ih =>
    have hx : x ≠ 44 := fun e => ha (by rw [e]; exact List.mem_cons_self)
    have h := ih (fun h => ha (List.mem_cons_of_mem _ h))
    rw [List.cons_append, Go.Lib.index]
    have h1 : List.isPrefixOf [44, 32] (x :: (a ++ 44 :: 32 :: b)) = false := by
      rw [List.isPrefixOf]
      have : (44 == x) = false := by rw [beq_eq_false_iff_ne]; exact fun e => hx e.symm
      rw [this]
      rfl
    rw [h1, h]
    have h2 : ((a.length : Int) == -1) = false := by rw [beq_eq_false_iff_ne]; omega
    rw [h2]
    simp
theorem cut_at (a b : List UInt8) (ha : (44 : UInt8) ∉ a) : Go.Lib.cut (a ++ 44 :: 32 :: b) [44, 32] = (a, b, true) := by
  unfold Go.Lib.cut
  rw [index_at a b ha, if_pos (by omega)]
  have h1 : (a ++ 44 :: 32 :: b).take (a.length : Int).toNat = a := by simp
  have h2 : (a ++ 44 :: 32 :: b).drop ((a.length : Int).toNat + ([44, 32] : List UInt8).length) = b := by
    rw [List.drop_append]
    simp
  rw [h1, h2]
theorem brk_text (a b : List UInt8) (ha : (44 : UInt8) ∉ a) : brkD ([91] ++ a ++ [44, 32] ++ b ++ [93]) = some (a, b) := by
  obtain ⟨l, hl⟩ : ∃ l, a ++ 44 :: 32 :: b = l := ⟨_, rfl⟩
  have e : [91] ++ a ++ [44, 32] ++ b ++ [93] = 91 :: (l ++ [93]) := by rw [← hl]; simp
  have h1 : Go.Lib.hasPrefix (91 :: (l ++ [93])) [91] = true := by unfold Go.Lib.hasPrefix; simp [List.isPrefixOf]
  have h2 : Go.Lib.trimPrefix (91 :: (l ++ [93])) [91] = l ++ [93] := by unfold Go.Lib.trimPrefix; rw [h1]; rfl
  have h3 : Go.Lib.hasSuffix (l ++ [93]) [93] = true := by
    unfold Go.Lib.hasSuffix
    rw [List.isSuffixOf_iff_suffix]
    exact List.suffix_append _ _
  have h4 : Go.Lib.trimSuffix (l ++ [93]) [93] = l := by unfold Go.Lib.trimSuffix; rw [h3]; simp
  unfold brkD
  rw [e, h1, h2, h3, h4, ← hl, cut_at a b ha]
  rfl
end Go.Fl.Dy
namespace Go.Proofs.YtffdkakogeofmaaGreatDoor
open Go.Fl.Nm Go.Fl.Dy
open Go.Lib (decDigits)
end Go.Proofs.YtffdkakogeofmaaGreatDoor
