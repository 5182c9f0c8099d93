/-
  Walks of math/bits.Add32, Sub32, Div32.
-/
import Derived.Test.YtlmflomonbcjiaaDoorNumA
import Derived.Test.YtlmflomonbcjiaaDoorNumBits
namespace Go.Proofs.YtlmflomonbcjiaaDoor
open Go.RowKit Go.Fl Go.Fl.Nm

theorem ret_ints {k k' : IntKind} {a b a' b' : Int} (h : a = a') (h' : b = b') : Ending.returned (.tuple #[.int k a, .int k' b]) = .returned (.tuple #[.int k a', .int k' b']) := by rw [h, h']

theorem mod_div (Z y : Nat) (h : Z / y < 4294967296) : ((Z : Int) / y) % 4294967296 = ((Z / y : Nat) : Int) := by
  rw [← Int.natCast_ediv]; generalize Z / y = q at *; omega
theorem mod_mod (Z y : Nat) (h : Z % y < 4294967296) : ((Z : Int) % y) % 4294967296 = ((Z % y : Nat) : Int) := by
  rw [← Int.natCast_emod]; generalize Z % y = q at *; omega

end Go.Proofs.YtlmflomonbcjiaaDoor
