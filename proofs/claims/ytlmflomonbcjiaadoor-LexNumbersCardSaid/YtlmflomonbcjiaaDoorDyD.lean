/-
  The walks of dyadic.Int, Bits, Top, Sign, shifted, Neg.
-/
import Derived.Test.YtlmflomonbcjiaaDoorDyC
import Derived.Test.YtlmflomonbcjiaaDoorDyPlain
import Derived.StillTailTactics
set_option linter.unusedVariables false
namespace Go.Fl.Nm
open Go.RowKit Go.Fl
theorem Sl.two {w : World} {g : Nat} {t : TypeId} {x y : Nat} {a b : Int} (hB : Blk w g t #[.int .u32 a, .int .u32 b]) (ha : a = x) (hb : b = y) (hx : x < BB) (hy : y < BB) : Sl w (some ⟨g, 0, none⟩) 2 2 [x, y] := by
  subst ha hb
  exact (Nw.of_blk (base := 0) (l := [x, y]) hB (ok_cons.2 ⟨hx, ok_cons.2 ⟨hy, ok_nil⟩⟩) (Nat.zero_le _) rfl (by unfold maxLen; simp)).sl
end Go.Fl.Nm
namespace Go.Fl
open Go.RowKit
theorem store3_far {w : World} {g g' i : Nat} {t : TypeId} {x y z v : Value} (hB : Blk w g' t #[x, y, z]) (hc : w.cell? ⟨g, i, none⟩ = some v) (hne : g ≠ g') (a b c : Value) : (((w.setCell ⟨g', 0, none⟩ a).setCell ⟨g', 1, none⟩ b).setCell ⟨g', 2, none⟩ c).cell? ⟨g, i, none⟩ = some v := by
  rw [store3_put hB]
  exact (putB_grown w g' t _).cell hc (by simpa using hne)
end Go.Fl
namespace Go.Proofs.YtlmflomonbcjiaaDoor
open Go.RowKit Go.Fl Go.Fl.Nm Go.Fl.Dy
/-- Limbs of a number. -/
def SlP (v : Nat) (w : World) (e : Ending) (w' : World) : Prop :=
  ∃ (A : Option Addr) (n : Nat), e = .returned (.slice A n n) ∧ Hid (Sl w' A n n (limbs v)) ∧ Hid (Below w.heap.size w w')

end Go.Proofs.YtlmflomonbcjiaaDoor
