/-
  The walk of FormatParses.
-/
import Derived.Test.YtkjoohnndobjeaaGreatDoorQL
import Derived.Test.YtkjoohnndobjeaaGreatDoorPaQ
import Derived.Test.YtkjoohnndobjeaaGreatDoorQM
import Derived.Test.YtkjoohnndobjeaaGreatDoorQN
set_option linter.unusedVariables false
namespace Go.Proofs.YtkjoohnndobjeaaGreatDoor
open Go.RowKit Go.Fl Go.Fl.Lx Go.Fl.Nm Go.Fl.Fm Go.Fl.Rt Go.Fl.Pa
theorem nameP_word (l : List UInt8) (h : nameP l = true) : wordP l = true ∧ l.length ≤ 20 := by
  unfold nameP at h
  simp only [Bool.and_eq_true, decide_eq_true_eq] at h
  exact ⟨h.1.1, h.1.2⟩
end Go.Proofs.YtkjoohnndobjeaaGreatDoor
