/-
  Ratios of integers in lowest terms, the laws of fractions, and the texts of ratios, in plain Lean. Of no program.
-/
import Derived.Test.YtoogeihbhhcpaaaDoorPkB
set_option linter.unusedVariables false
namespace Go.Fl.Rt

/-- The greatest numerator and denominator. -/
def MX : Nat := 1073741824
/-- A valid ratio. -/
def valid (n d : Int) : Prop := 1 ≤ d ∧ d ≤ MX ∧ -(MX : Int) ≤ n ∧ n ≤ MX ∧ Nat.gcd n.natAbs d.natAbs = 1
instance (n d : Int) : Decidable (valid n d) := by unfold valid; infer_instance
end Go.Fl.Rt
namespace Go.Fl.Rt

end Go.Fl.Rt
namespace Go.Fl.Rt

end Go.Fl.Rt
