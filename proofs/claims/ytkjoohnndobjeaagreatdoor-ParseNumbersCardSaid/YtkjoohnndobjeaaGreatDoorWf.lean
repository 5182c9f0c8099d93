/-
  Bounds of arguments that are integers without sign. Of no program.
-/
import Derived.Test.YtkjoohnndobjeaaGreatDoorQA
namespace Go.Fl
open Go.RowKit
theorem u16_of_wf {a : Int} (h : (Lit.int .u16 a).wf = true) : ∃ n : Nat, a = (n : Int) ∧ n < 65536 := by
  simp [Lit.wf, IntKind.min, IntKind.max, IntKind.signed, IntKind.bits] at h
  exact ⟨a.toNat, by omega, by omega⟩
end Go.Fl
