/-
  The walks of round.shl, precise, shr, fault.
  The walks of round.cut, signed.
  The walks of round.signed, div, DivDown, DivUp, Is.
  The walks of round.div, DivDown, DivUp, Is.
-/
import Derived.Test.YtoogeihbhhcpaaaGreatDoorPkG
import Derived.Deep.DeepCutAuto
set_option linter.unusedVariables false
namespace Go.Fl.Dy
open Go.Fl.Nm
theorem blen_mul_le (m k : Nat) : blen (2 ^ k * m) ≤ k + blen m := by
  by_cases h : m = 0
  · subst h; simp [blen_zero]
  · exact Nat.le_of_eq (blen_shl k h)
end Go.Fl.Dy
namespace Go.Proofs.YtoogeihbhhcpaaaGreatDoor
open Go.RowKit Go.Fl Go.Fl.Nm Go.Fl.Dy
theorem cmp_ne {a b : Nat} : (cmpN a b != 0) = decide (a ≠ b) := by
  unfold cmpN
  by_cases h1 : a < b
  · rw [if_pos h1]; simp; omega
  · rw [if_neg h1]
    by_cases h2 : b < a
    · rw [if_pos h2]; simp; omega
    · rw [if_neg h2]; simp; omega

end Go.Proofs.YtoogeihbhhcpaaaGreatDoor
namespace Go.Fl.Dy
open Go.Fl.Nm
theorem blen_succ (q : Nat) : blen (q + 1) ≤ blen q + 1 := by
  refine blen_le ?_
  have := blen_lt (Nat.le_refl (blen q))
  rw [Nat.pow_succ]
  have := Nat.two_pow_pos (blen q)
  omega
end Go.Fl.Dy
namespace Go.Fl.Nm
open Go.RowKit Go.Fl
theorem Sl.one {w : World} {g : Nat} {t : TypeId} {x : Nat} (hB : Blk w g t #[.int .u32 (x : Int)]) (hx : x < BB) : Sl w (some ⟨g, 0, none⟩) 1 1 [x] :=
  (Nw.of_blk (base := 0) (l := [x]) hB (ok_cons.2 ⟨hx, ok_nil⟩) (Nat.zero_le _) rfl (by unfold maxLen; simp)).sl
end Go.Fl.Nm
namespace Go.Proofs.YtoogeihbhhcpaaaGreatDoor
open Go.RowKit Go.Fl Go.Fl.Nm Go.Fl.Dy

end Go.Proofs.YtoogeihbhhcpaaaGreatDoor
namespace Go.Proofs.YtoogeihbhhcpaaaGreatDoor
open Go.RowKit Go.Fl Go.Fl.Nm Go.Fl.Dy

end Go.Proofs.YtoogeihbhhcpaaaGreatDoor
namespace Go.Fl.Dy
open Go.Fl.Nm
end Go.Fl.Dy
namespace Go.Proofs.YtoogeihbhhcpaaaGreatDoor
open Go.RowKit Go.Fl Go.Fl.Nm Go.Fl.Dy

end Go.Proofs.YtoogeihbhhcpaaaGreatDoor
