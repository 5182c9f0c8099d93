/-
  The walk of FormatParses.
-/
import Derived.Test.YtkjoohnndobjeaaGreatDoorQL
import Derived.Test.YtkjoohnndobjeaaGreatDoorPaQ
import Derived.Test.YtkjoohnndobjeaaGreatDoorQM
import Derived.Test.YtkjoohnndobjeaaGreatDoorQN
set_option linter.unusedVariables false
namespace Go.Proofs.YtkjoohnndobjeaaGreatDoor
open Go.RowKit Go.Fl Go.Fl.Lx Go.Fl.Nm Go.Fl.Fm Go.Fl.Rt Go.Fl.Pa
theorem nameP_word (l : List UInt8) (h : nameP l = true) : wordP l = true ∧ l.length ≤ 20 := by
  unfold nameP at h
  simp only [Bool.and_eq_true, decide_eq_true_eq] at h
  exact ⟨h.1.1, h.1.2⟩
theorem nameP_fn (c : Int) : nameP (fnK c) = false := by
  unfold fnK
  split
  · decide
  split
  · decide
  split
  · decide
  split <;> decide
theorem expr_ok {l : List UInt8} {ts : List Tok} {T : TE} (h3 : lexRes l = .ok ts) (h4 : sumP nameP ts (8 * ts.length + 8) 0 0 = .ok T ts.length) (h : okE T = true) : exprR l = ((0, 0, 0), some T) := by
  unfold exprR runR
  rw [h3]
  show runS ts okE (sumP nameP ts (8 * ts.length + 8) 0 0) = _
  rw [h4]
  show (if ts.length < ts.length then (((tk ts ts.length).line, (tk ts ts.length).col, 3), none) else if okE T then ((0, 0, 0), some T) else ((0, 0, 5), some T)) = _
  rw [if_neg (Nat.lt_irrefl _), if_pos h]
/-- The text of a valid expression is read as the expression. -/
theorem expr_txt {T : TE} (h : okE T = true) : exprR (txt 20 T) = ((0, 0, 0), some T) := by
  obtain ⟨h1, h2⟩ := txt20 h
  obtain ⟨ts, h3, h4⟩ := txt_read nameP_word nameP_fn h1 (by omega) (by omega)
  exact expr_ok h3 h4 h
theorem bytes_ext {a b : ByteArray} (h : a.data.toList = b.data.toList) : a = b := ByteArray.ext (Array.toList_inj.1 h)
end Go.Proofs.YtkjoohnndobjeaaGreatDoor
