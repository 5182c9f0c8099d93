/-
  From the rows' conditions to the walks': the listed variables, their witness, the arguments.
  Bounds of arguments that are integers without sign. Of no program.
-/
import Derived.Test.YtnogfceojmnjiaaGreatDoorRaD
import Derived.Test.YtnogfceojmnjiaaGreatDoorRows
import Derived.Lib.LaidTab
import Derived.Lib.SmallJoins
import Derived.LaidMore
import Derived.LaidSub
import Derived.LaidHandle
import Derived.MakeChecks
import Derived.Stop.LaidErr
import Derived.ProofKit
import Derived.ChangeOld
import Derived.Below
import GoSem.PinnedTables
import Derived.Test.YtnogfceojmnjiaaGreatDoorBase
set_option linter.unusedVariables false
namespace Go.Proofs.YtnogfceojmnjiaaGreatDoor
open Go.RowKit Go.Fl Go.Fl.Nm

theorem own : ownKnob Tryz.prog.godebug = none := by kernel_rfl
theorem laidOut : laidOutB Tryz.prog = true := by kernel_rfl
def laid7 : List (String × DataW Unit) := [("math/bits.deBruijn32tab", Rows.laid_math_bits_deBruijn32tab), ("math/bits.deBruijn64tab", Rows.laid_math_bits_deBruijn64tab), ("internal/strconv.uint64pow10", Rows.laid_internal_strconv_uint64pow10), ("unicode/utf8.acceptRanges", Rows.laid_unicode_utf8_acceptRanges), ("strconv.ErrRange", Rows.laid_strconv_ErrRange), ("strconv.ErrSyntax", Rows.laid_strconv_ErrSyntax), ("unicode/utf8.first", Rows.laid_unicode_utf8_first)]
noncomputable def laidWorld7 (os : Os) : World :=
  let w0 := World.doorLaid Tryz.prog 400 os
  { w0 with heap := w0.heap.modify 6 fun
      | .cells _ t frozen => .cells (Go.Pinned.utf8FirstZ.map fun z : Nat => Value.int .u8 (z : Int)).toArray t frozen
      | o => o }
theorem door_met7 (os : Os) (args : Array Value) : laidMetH Tryz.prog laid7 ((laidWorld7 os).forCall (fun _ _ => 0) ⟨#[], args, []⟩).memory :=
  laidMetH_of_parts3 (fuel := 8) (laidMet_of_run' 8 (by kernel_rfl) (by kernel_rfl)) (by kernel_rfl) (by kernel_rfl)
theorem gT10 : (Tryz.prog.globals[5]?).map (·.type) = some 178 := by kernel_rfl
theorem gT32 : (Tryz.prog.globals[2]?).map (·.type) = some 169 := by kernel_rfl
theorem gT64 : (Tryz.prog.globals[0]?).map (·.type) = some 116 := by kernel_rfl
theorem gTER : (Tryz.prog.globals[4]?).map (·.type) = some 105 := by kernel_rfl
theorem star : "*" ++ "errors.errorString" = "*errors.errorString" := by decide
theorem rowES (u : TypeId) (h : Tryz.prog.typeName? 3 u = some "*errors.errorString") : u = 189 :=
  typeName_ptr_named (nm := "errors.errorString") (by rw [star]; kernel_rfl) (by kernel_rfl) (by decide) u (by rw [star]; exact h)
theorem rx_of_laid {W : World} (h : laidMetH Tryz.prog laid7 W) : RX W := by
  rw [MakeChecks.laidMetH_plain _ _ _ (by kernel_rfl)] at h
  refine ⟨⟨?_, ?_, ?_⟩, ?_⟩
  · exact Lib.tabIs_of_head g10 gT10 Tryz.underlying178 Tryz.underlying74 (by kernel_rfl) (by kernel_rfl) h.tail.tail
  · exact Lib.tabIs_of_head g32 gT32 Tryz.underlying169 Tryz.underlying5 (by kernel_rfl) (by kernel_rfl) h
  · exact Lib.tabIs_of_head g64 gT64 Tryz.underlying116 Tryz.underlying5 (by kernel_rfl) (by kernel_rfl) h.tail
  · obtain ⟨a, s, hv, _⟩ := laid_sentinel h.tail.tail.tail.tail gER gTER Tryz.underlying105 rowES Tryz.underlying189 Tryz.underlying191 rfl rfl Tryz.underlying9 (by kernel_rfl) (by kernel_rfl)
    exact ⟨_, _, hv⟩
theorem sl_of_ints {W : World} {a : Option Addr} {len cap : Nat} {zs : List Int} (hn : zs.length = len) (hcl : len ≤ cap) (hcm : cap ≤ maxLen) (hno : a = none → cap = 0) (hz : ∀ z ∈ zs, (Lit.int .u32 z).wf = true)
    (ha : Rd W 1 a len (zs.map (Value.int .u32))) : Sl W a len cap (zs.map Int.toNat) := by
  have hb : ∀ z ∈ zs, 0 ≤ z ∧ z < 4294967296 := fun z h => by
    have := hz z h
    simp [Lit.wf, IntKind.min, IntKind.max, IntKind.signed, IntKind.bits] at this
    omega
  refine ⟨by simpa using hn, ?_, hcl, hcm, hno, ?_⟩
  · intro x hx
    obtain ⟨z, h1, rfl⟩ := List.mem_map.1 hx
    have := hb z h1
    unfold BB; omega
  · have e : U (zs.map Int.toNat) = zs.map (Value.int .u32) := by
      unfold U
      rw [List.map_map]
      apply List.map_congr_left
      intro z h1
      have := hb z h1
      simp only [Function.comp]
      rw [Int.toNat_of_nonneg this.1]
    rw [e]
    exact ha
theorem i64_of_wf {a : Int} (h : (Lit.int .i64 a).wf = true) : -9223372036854775808 ≤ a ∧ a ≤ 9223372036854775807 := by
  simp [Lit.wf, IntKind.min, IntKind.max, IntKind.signed, IntKind.bits] at h
  omega
end Go.Proofs.YtnogfceojmnjiaaGreatDoor
namespace Go.Fl
open Go.RowKit
theorem u32_of_wf {a : Int} (h : (Lit.int .u32 a).wf = true) : ∃ n : Nat, a = (n : Int) ∧ n < 4294967296 := by
  simp [Lit.wf, IntKind.min, IntKind.max, IntKind.signed, IntKind.bits] at h
  exact ⟨a.toNat, by omega, by omega⟩
theorem u16_of_wf {a : Int} (h : (Lit.int .u16 a).wf = true) : ∃ n : Nat, a = (n : Int) ∧ n < 65536 := by
  simp [Lit.wf, IntKind.min, IntKind.max, IntKind.signed, IntKind.bits] at h
  exact ⟨a.toNat, by omega, by omega⟩
theorem u8_of_wf {a : Int} (h : (Lit.int .u8 a).wf = true) : ∃ n : Nat, a = (n : Int) ∧ n < 256 := by
  simp [Lit.wf, IntKind.min, IntKind.max, IntKind.signed, IntKind.bits] at h
  exact ⟨a.toNat, by omega, by omega⟩
end Go.Fl
