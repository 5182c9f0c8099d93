/-
  The reference's decimals, numbers, parentheses and names.
-/
import Derived.Test.YtkjoohnndobjeaaGreatDoorFmI
set_option linter.unusedVariables false
namespace Go.Proofs.YtkjoohnndobjeaaGreatDoor
open Go.RowKit Go.Fl Go.Fl.Nm Go.Fl.Fm Go.Fl.Rt
theorem length_data (s : ByteArray) : s.data.toList.length = s.size := rfl
def dgB (n : Nat) : ByteArray := ⟨#[UInt8.ofNat (48 + n % 10)]⟩
theorem dgB_size (n : Nat) : (dgB n).size = 1 := rfl
theorem dgB_list (n : Nat) : (dgB n).data.toList = [UInt8.ofNat (48 + n % 10)] := rfl
set_option maxRecDepth 100000 in
theorem rune1 (n : Nat) (w : World) : (convert 21 9 (.int .i32 (48 + (n : Int) % 10))).run Tryz.prog w = .ok (.string (dgB n)) w := by
  obtain ⟨d, hd⟩ : ∃ d, d = n % 10 := ⟨_, rfl⟩
  have hd10 : d < 10 := by omega
  have e1 : (48 + (n : Int) % 10) = 48 + (d : Int) := by omega
  have e2 : dgB n = ⟨#[UInt8.ofNat (48 + d)]⟩ := by unfold dgB; rw [← hd]
  rw [e1, e2]
  clear e1 e2 hd
  obtain h | h | h | h | h | h | h | h | h | h : d = 0 ∨ d = 1 ∨ d = 2 ∨ d = 3 ∨ d = 4 ∨ d = 5 ∨ d = 6 ∨ d = 7 ∨ d = 8 ∨ d = 9 := by omega
  all_goals (subst h; rfl)
theorem bytes_size (l : List UInt8) : (⟨l.toArray⟩ : ByteArray).size = l.length := by simp [ByteArray.size]
end Go.Proofs.YtkjoohnndobjeaaGreatDoor
