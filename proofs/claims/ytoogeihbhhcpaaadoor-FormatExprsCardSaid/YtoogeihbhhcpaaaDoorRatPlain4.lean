/-
  The text of a ratio is read as this ratio, in plain Lean. Of no program.
-/
import Derived.Test.YtoogeihbhhcpaaaDoorRatPlain
import Derived.Lib.ItoaMem
namespace Go.Fl.Rt
open Go.Lib

theorem dec_big {u : Nat} (h : ¬ u < 10) : decDigits u = decDigits (u / 10) ++ [UInt8.ofNat (48 + u % 10)] := by rw [decDigits, dif_neg h]
/-- The text of a ratio. -/
def textR (n d : Int) : List UInt8 := itoa n ++ (if d = 1 then [] else 47 :: itoa d)
end Go.Fl.Rt
