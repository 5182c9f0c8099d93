/-
  From the rows' conditions to the walks', with the table of utf8 besides: its witness.
-/
import Derived.Test.YtkpicaangfibcaaDoorNumX
import GoSem.PinnedTables
namespace Go.Proofs.YtkpicaangfibcaaDoor
open Go.RowKit Go.Fl Go.Fl.Nm
def laid5 : List (String × DataW Unit) := [("math/bits.deBruijn32tab", Rows.laid_math_bits_deBruijn32tab), ("math/bits.deBruijn64tab", Rows.laid_math_bits_deBruijn64tab), ("internal/strconv.uint64pow10", Rows.laid_internal_strconv_uint64pow10), ("unicode/utf8.acceptRanges", Rows.laid_unicode_utf8_acceptRanges), ("unicode/utf8.first", Rows.laid_unicode_utf8_first)]
theorem gF : Tryd.prog.globalNamed "unicode/utf8.first" = some 3 := by kernel_rfl
noncomputable def laidWorld5 (os : Os) : World :=
  let w0 := World.doorLaid Tryd.prog 400 os
  { w0 with heap := w0.heap.modify 3 fun
      | .cells _ t frozen => .cells (Go.Pinned.utf8FirstZ.map fun z : Nat => Value.int .u8 (z : Int)).toArray t frozen
      | o => o }
theorem door_met5 (os : Os) (args : Array Value) : laidMetH Tryd.prog laid5 ((laidWorld5 os).forCall (fun _ _ => 0) ⟨#[], args, []⟩).memory :=
  laidMetH_of_parts3 (fuel := 8) (laidMet_of_run' 8 (by kernel_rfl) (by kernel_rfl)) (by kernel_rfl) (by kernel_rfl)
theorem tb_of_laid5 {W : World} (h : laidMetH Tryd.prog laid5 W) : TB W := by
  rw [MakeChecks.laidMetH_plain _ _ _ (by kernel_rfl)] at h
  exact Lib.tabIs_of_head gT gTType Tryd.underlying111 Tryd.underlying57 (by kernel_rfl) (by kernel_rfl) h.tail.tail
end Go.Proofs.YtkpicaangfibcaaDoor
