/-
  From the rows' conditions to the walks': the listed tables, the arguments.
-/
import Derived.Test.YtnogfceojmnjiaaDoorNumR
import Derived.Test.YtnogfceojmnjiaaDoorNumA
import Derived.Test.YtnogfceojmnjiaaDoorRows
import Derived.Lib.LaidTab
import Derived.LaidMore
import Derived.LaidSub
import Derived.LaidHandle
import Derived.MakeChecks
import Derived.Stop.LaidErr
import Derived.ProofKit
import Derived.ChangeOld
import Derived.Below
namespace Go.Proofs.YtnogfceojmnjiaaDoor
open Go.RowKit Go.Fl Go.Fl.Nm

theorem own : ownKnob Tryd.prog.godebug = none := by kernel_rfl
theorem laidOut : laidOutB Tryd.prog = true := by kernel_rfl
def laid3 : List (String × DataW Unit) := [("math/bits.deBruijn32tab", Rows.laid_math_bits_deBruijn32tab), ("math/bits.deBruijn64tab", Rows.laid_math_bits_deBruijn64tab), ("internal/strconv.uint64pow10", Rows.laid_internal_strconv_uint64pow10)]
theorem door_met (os : Os) (args : Array Value) : laidMetH Tryd.prog laid3 ((World.doorLaid Tryd.prog 400 os).forCall (fun _ _ => 0) ⟨#[], args, []⟩).memory :=
  laidMetH_of_parts3 (fuel := 8) (laidMet_of_run' 8 (by kernel_rfl) (by kernel_rfl)) (by kernel_rfl) (by kernel_rfl)
theorem gT : Tryd.prog.globalNamed "internal/strconv.uint64pow10" = some 1 := by kernel_rfl
theorem gTType : (Tryd.prog.globals[1]?).map (·.type) = some 89 := by kernel_rfl
theorem tb_of_laid {W : World} (h : laidMetH Tryd.prog laid3 W) : TB W := by
  rw [MakeChecks.laidMetH_plain _ _ _ (by kernel_rfl)] at h
  exact Lib.tabIs_of_head gT gTType Tryd.underlying89 Tryd.underlying48 (by kernel_rfl) (by kernel_rfl) h.tail.tail
theorem sl_of_ints {W : World} {a : Option Addr} {len cap : Nat} {zs : List Int} (hn : zs.length = len) (hcl : len ≤ cap) (hcm : cap ≤ maxLen) (hno : a = none → cap = 0) (hz : ∀ z ∈ zs, (Lit.int .u32 z).wf = true)
    (ha : Rd W 1 a len (zs.map (Value.int .u32))) : Sl W a len cap (zs.map Int.toNat) := by
  have hb : ∀ z ∈ zs, 0 ≤ z ∧ z < 4294967296 := fun z h => by
    have := hz z h
    simp [Lit.wf, IntKind.min, IntKind.max, IntKind.signed, IntKind.bits] at this
    omega
  refine ⟨by simpa using hn, ?_, hcl, hcm, hno, ?_⟩
  · intro x hx
    obtain ⟨z, h1, rfl⟩ := List.mem_map.1 hx
    have := hb z h1
    unfold BB; omega
  · have e : U (zs.map Int.toNat) = zs.map (Value.int .u32) := by
      unfold U
      rw [List.map_map]
      apply List.map_congr_left
      intro z h1
      have := hb z h1
      simp only [Function.comp]
      rw [Int.toNat_of_nonneg this.1]
    rw [e]
    exact ha
end Go.Proofs.YtnogfceojmnjiaaDoor
