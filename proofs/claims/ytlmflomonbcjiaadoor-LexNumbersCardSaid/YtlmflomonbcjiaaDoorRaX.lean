/-
  From the rows' conditions to the walks': the listed variables, their witness, the arguments.
-/
import Derived.Test.YtlmflomonbcjiaaDoorRaD
import Derived.Test.YtlmflomonbcjiaaDoorRows
import Derived.Lib.LaidTab
import Derived.Lib.SmallJoins
import Derived.LaidMore
import Derived.LaidSub
import Derived.LaidHandle
import Derived.MakeChecks
import Derived.Stop.LaidErr
import Derived.ProofKit
import Derived.ChangeOld
import Derived.Below
import GoSem.PinnedTables
namespace Go.Proofs.YtlmflomonbcjiaaDoor
open Go.RowKit Go.Fl Go.Fl.Nm

theorem own : ownKnob Tryd.prog.godebug = none := by kernel_rfl
theorem laidOut : laidOutB Tryd.prog = true := by kernel_rfl
def laid7 : List (String × DataW Unit) := [("math/bits.deBruijn32tab", Rows.laid_math_bits_deBruijn32tab), ("math/bits.deBruijn64tab", Rows.laid_math_bits_deBruijn64tab), ("internal/strconv.uint64pow10", Rows.laid_internal_strconv_uint64pow10), ("unicode/utf8.acceptRanges", Rows.laid_unicode_utf8_acceptRanges), ("strconv.ErrRange", Rows.laid_strconv_ErrRange), ("strconv.ErrSyntax", Rows.laid_strconv_ErrSyntax), ("unicode/utf8.first", Rows.laid_unicode_utf8_first)]
noncomputable def laidWorld7 (os : Os) : World :=
  let w0 := World.doorLaid Tryd.prog 400 os
  { w0 with heap := w0.heap.modify 1 fun
      | .cells _ t frozen => .cells (Go.Pinned.utf8FirstZ.map fun z : Nat => Value.int .u8 (z : Int)).toArray t frozen
      | o => o }
theorem door_met7 (os : Os) (args : Array Value) : laidMetH Tryd.prog laid7 ((laidWorld7 os).forCall (fun _ _ => 0) ⟨#[], args, []⟩).memory :=
  laidMetH_of_parts3 (fuel := 8) (laidMet_of_run' 8 (by kernel_rfl) (by kernel_rfl)) (by kernel_rfl) (by kernel_rfl)
theorem gT10 : (Tryd.prog.globals[5]?).map (·.type) = some 113 := by kernel_rfl
theorem gT32 : (Tryd.prog.globals[6]?).map (·.type) = some 118 := by kernel_rfl
theorem gT64 : (Tryd.prog.globals[7]?).map (·.type) = some 119 := by kernel_rfl
theorem gTER : (Tryd.prog.globals[4]?).map (·.type) = some 61 := by kernel_rfl
theorem star : "*" ++ "errors.errorString" = "*errors.errorString" := by decide
theorem rowES (u : TypeId) (h : Tryd.prog.typeName? 3 u = some "*errors.errorString") : u = 103 :=
  typeName_ptr_named (nm := "errors.errorString") (by rw [star]; kernel_rfl) (by kernel_rfl) (by decide) u (by rw [star]; exact h)
theorem rx_of_laid {W : World} (h : laidMetH Tryd.prog laid7 W) : RX W := by
  rw [MakeChecks.laidMetH_plain _ _ _ (by kernel_rfl)] at h
  refine ⟨⟨?_, ?_, ?_⟩, ?_⟩
  · exact Lib.tabIs_of_head g10 gT10 Tryd.underlying113 Tryd.underlying64 (by kernel_rfl) (by kernel_rfl) h.tail.tail
  · exact Lib.tabIs_of_head g32 gT32 Tryd.underlying118 Tryd.underlying5 (by kernel_rfl) (by kernel_rfl) h
  · exact Lib.tabIs_of_head g64 gT64 Tryd.underlying119 Tryd.underlying5 (by kernel_rfl) (by kernel_rfl) h.tail
  · obtain ⟨a, s, hv, _⟩ := laid_sentinel h.tail.tail.tail.tail gER gTER Tryd.underlying61 rowES Tryd.underlying103 Tryd.underlying105 rfl rfl Tryd.underlying9 (by kernel_rfl) (by kernel_rfl)
    exact ⟨_, _, hv⟩
theorem sl_of_ints {W : World} {a : Option Addr} {len cap : Nat} {zs : List Int} (hn : zs.length = len) (hcl : len ≤ cap) (hcm : cap ≤ maxLen) (hno : a = none → cap = 0) (hz : ∀ z ∈ zs, (Lit.int .u32 z).wf = true)
    (ha : Rd W 1 a len (zs.map (Value.int .u32))) : Sl W a len cap (zs.map Int.toNat) := by
  have hb : ∀ z ∈ zs, 0 ≤ z ∧ z < 4294967296 := fun z h => by
    have := hz z h
    simp [Lit.wf, IntKind.min, IntKind.max, IntKind.signed, IntKind.bits] at this
    omega
  refine ⟨by simpa using hn, ?_, hcl, hcm, hno, ?_⟩
  · intro x hx
    obtain ⟨z, h1, rfl⟩ := List.mem_map.1 hx
    have := hb z h1
    unfold BB; omega
  · have e : U (zs.map Int.toNat) = zs.map (Value.int .u32) := by
      unfold U
      rw [List.map_map]
      apply List.map_congr_left
      intro z h1
      have := hb z h1
      simp only [Function.comp]
      rw [Int.toNat_of_nonneg this.1]
    rw [e]
    exact ha
theorem i64_of_wf {a : Int} (h : (Lit.int .i64 a).wf = true) : -9223372036854775808 ≤ a ∧ a ≤ 9223372036854775807 := by
  simp [Lit.wf, IntKind.min, IntKind.max, IntKind.signed, IntKind.bits] at h
  omega
end Go.Proofs.YtlmflomonbcjiaaDoor
