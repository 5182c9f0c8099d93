/-
  The walks of the program's tests of declarations, equations, edges, modes, and lists of them.
  The walks of the program's tests of edges, modes, problems.
-/
import Derived.Test.YtkjoohnndobjeaaGreatDoorQV
import Derived.Test.YtkjoohnndobjeaaGreatDoorQH
set_option linter.unusedVariables false
namespace Go.Proofs.YtkjoohnndobjeaaGreatDoor
open Go.RowKit Go.Fl Go.Fl.Nm Go.Fl.Dy Go.Fl.Rt Go.Fl.Fm

end Go.Proofs.YtkjoohnndobjeaaGreatDoor
namespace Go.Proofs.YtkjoohnndobjeaaGreatDoor
open Go.RowKit Go.Fl Go.Fl.Nm Go.Fl.Dy Go.Fl.Rt Go.Fl.Fm

theorem PbN.sz_iff {x : PbN} : x.sz = true ↔ 1 ≤ x.n ∧ x.n ≤ 4 ∧ x.m ≤ 4 ∧ 1 ≤ x.k ∧ x.k ≤ 8 := by
  unfold PbN.sz
  simp only [Bool.and_eq_true, decide_eq_true_eq, and_assoc]
theorem PbN.no {x : PbN} (h : ¬ (1 ≤ x.n ∧ x.n ≤ 4 ∧ x.m ≤ 4 ∧ 1 ≤ x.k ∧ x.k ≤ 8)) : x.ok = false := by
  unfold PbN.ok
  cases hs : x.sz with
  | true => exact absurd (PbN.sz_iff.1 hs) h
  | false => rfl
theorem PbN.yes {x : PbN} (h : 1 ≤ x.n ∧ x.n ≤ 4 ∧ x.m ≤ 4 ∧ 1 ≤ x.k ∧ x.k ≤ 8) : x.ok = (x.st.all DcN.ok && (x.pa.all DcN.ok && (x.ms.all MdN.ok && vB x.t x.u))) := by
  unfold PbN.ok
  rw [PbN.sz_iff.2 h]
  rfl
theorem PbN.ok_iff {x : PbN} : x.ok = true ↔ (1 ≤ x.n ∧ x.n ≤ 4 ∧ x.m ≤ 4 ∧ 1 ≤ x.k ∧ x.k ≤ 8) ∧ x.st.all DcN.ok = true ∧ x.pa.all DcN.ok = true ∧ x.ms.all MdN.ok = true ∧ vB x.t x.u = true := by
  unfold PbN.ok
  rw [Bool.and_eq_true, Bool.and_eq_true, Bool.and_eq_true, Bool.and_eq_true, PbN.sz_iff]

end Go.Proofs.YtkjoohnndobjeaaGreatDoor
