/-
  From the row's conditions to the walk's: the listed tables, the expression.
-/
import Derived.Test.YtoogeihbhhcpaaaDoorFmO
import Derived.Test.YtoogeihbhhcpaaaDoorRaN
import Derived.Test.YtoogeihbhhcpaaaDoorRows
import Derived.Lib.LaidTab
import Derived.Lib.SmallJoins
import Derived.LaidMore
import Derived.LaidSub
import Derived.LaidHandle
import Derived.MakeChecks
import Derived.Stop.LaidErr
import Derived.ProofKit
import Derived.ChangeOld
import Derived.Below
set_option linter.unusedVariables false
namespace Go.Proofs.YtoogeihbhhcpaaaDoor
open Go.RowKit Go.Fl Go.Fl.Nm Go.Fl.Fm Go.WideShapes Go.ChangeShapes
theorem own : ownKnob Tryd.prog.godebug = none := by kernel_rfl
theorem laidOut : laidOutB Tryd.prog = true := by kernel_rfl
def laid3 : List (String × DataW Unit) := [("math/bits.deBruijn32tab", Rows.laid_math_bits_deBruijn32tab), ("math/bits.deBruijn64tab", Rows.laid_math_bits_deBruijn64tab), ("internal/strconv.uint64pow10", Rows.laid_internal_strconv_uint64pow10)]
theorem door_met (os : Os) (args : Array Value) : laidMetH Tryd.prog laid3 ((World.doorLaid Tryd.prog 400 os).forCall (fun _ _ => 0) ⟨#[], args, []⟩).memory :=
  laidMetH_of_parts3 (fuel := 8) (laidMet_of_run' 8 (by kernel_rfl) (by kernel_rfl)) (by kernel_rfl) (by kernel_rfl)
theorem gT10 : (Tryd.prog.globals[0]?).map (·.type) = some 70 := by kernel_rfl
theorem gT32 : (Tryd.prog.globals[1]?).map (·.type) = some 79 := by kernel_rfl
theorem gT64 : (Tryd.prog.globals[2]?).map (·.type) = some 80 := by kernel_rfl
theorem rb_of_laid {W : World} (h : laidMetH Tryd.prog laid3 W) : RB W := by
  rw [MakeChecks.laidMetH_plain _ _ _ (by kernel_rfl)] at h
  refine ⟨?_, ?_, ?_⟩
  · exact Lib.tabIs_of_head g10 gT10 Tryd.underlying70 Tryd.underlying52 (by kernel_rfl) (by kernel_rfl) h.tail.tail
  · exact Lib.tabIs_of_head g32 gT32 Tryd.underlying79 Tryd.underlying5 (by kernel_rfl) (by kernel_rfl) h
  · exact Lib.tabIs_of_head g64 gT64 Tryd.underlying80 Tryd.underlying5 (by kernel_rfl) (by kernel_rfl) h.tail
section
variable {H : Type} {enc : TypeId × Value → H} {w : World} {base : Nat} {spare : Nat → Bool} {held : Bool}
set_option maxRecDepth 100000 in
theorem open_exv {r : Reach} {b0 : Nat} {v : Value} {d : DataW H} {ps : List MemPlace} (hv : Value.okWide Tryd.prog w r b0 26 v) (h : DataW.Trod enc Tryd.prog w base spare held 26 v d ps) :
    ∃ (T : TE) (nd : Nd), v = nd.val ∧ InE w T nd := by
  obtain ⟨⟨cs⟩, rfl, hsz⟩ := okWide_struct Tryd.underlying26 hv
  have hC : Tryd.prog.cellsOf 26 = 6 := by kernel_rfl
  rw [hC] at hsz
  obtain ⟨fuel, hf⟩ := h
  have hf' : DataW.trod enc Tryd.prog w base spare held fuel 26 cs = some (d, ps) := hf
  obtain ⟨T, nd, e, hin⟩ := open_ex fuel cs _ (by simpa using hsz) hf'
  subst e
  exact ⟨T, nd, rfl, hin⟩
end
end Go.Proofs.YtoogeihbhhcpaaaDoor
