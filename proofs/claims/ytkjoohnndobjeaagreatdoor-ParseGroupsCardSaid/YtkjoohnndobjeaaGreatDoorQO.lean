/-
  An expression as an argument, opened.
  From the rows' conditions to the parser's walks: the listed variables, their witness.
  From the rows' conditions to the walks': an expression.
-/
import Derived.Test.YtkjoohnndobjeaaGreatDoorQC
import Derived.Test.YtkjoohnndobjeaaGreatDoorQH
import Derived.ChangeSlices
import Derived.ChangeArms
import Derived.Deep.Slices
import Derived.Deep.Strs
import Derived.WideKeyArgs
import Derived.Test.YtkjoohnndobjeaaGreatDoorQJ
import Derived.Test.YtkjoohnndobjeaaGreatDoorRows
import Derived.Lib.LaidTab
import Derived.Lib.SmallJoins
import Derived.LaidMore
import Derived.LaidSub
import Derived.LaidHandle
import Derived.MakeChecks
import Derived.Stop.LaidErr
import Derived.ProofKit
import Derived.OpenShut
import Derived.ChangeOld
import Derived.Below
import Derived.Stop.Joined
import Derived.WideKeyMaps2
import GoSem.PinnedTables
set_option linter.unusedVariables false
namespace Go.Proofs.YtkjoohnndobjeaaGreatDoor
open Go.RowKit Go.Fl Go.Fl.Fm Go.ChangeShapes Go.WideShapes
section
variable {H : Type} {enc : TypeId × Value → H} {w : World} {base : Nat} {spare : Nat → Bool} {held : Bool}
instance : Inhabited Nd := ⟨⟨⟨0, 0, 0, ByteArray.empty, 0⟩, none, 0, 0⟩⟩
theorem nds_len (l : List Nd) : (ndsCells l).length = l.length * 6 := by
  induction l with
  | nil => rfl
  | cons x l ih =>
    show (x.cells ++ ndsCells l).length = _
    rw [List.length_append, ih, List.length_cons]
    show 6 + _ = _
    omega
end
end Go.Proofs.YtkjoohnndobjeaaGreatDoor
namespace Go.Proofs.YtkjoohnndobjeaaGreatDoor
open Go.RowKit Go.Fl Go.Fl.Nm Go.Fl.Pa
open Go.ChangeShapes Go.WideShapes Go.ChangeAt Go.MapKept Go.WideMaps

theorem own : ownKnob Tryz.prog.godebug = none := by kernel_rfl
def laid8 : List (String × DataW Unit) := [("math/bits.deBruijn32tab", Rows.laid_math_bits_deBruijn32tab), ("math/bits.deBruijn64tab", Rows.laid_math_bits_deBruijn64tab), ("internal/strconv.uint64pow10", Rows.laid_internal_strconv_uint64pow10), ("unicode/utf8.acceptRanges", Rows.laid_unicode_utf8_acceptRanges), ("strconv.ErrRange", Rows.laid_strconv_ErrRange), ("strconv.ErrSyntax", Rows.laid_strconv_ErrSyntax), ("flowpipe/parse.functions", Rows.laid_flowpipe_parse_functions), ("unicode/utf8.first", Rows.laid_unicode_utf8_first)]
noncomputable def laidWorld8 (os : Os) : World :=
  let w0 := World.doorLaid Tryz.prog 400 os
  { w0 with heap := w0.heap.modify 7 fun
      | .cells _ t frozen => .cells (Go.Pinned.utf8FirstZ.map fun z : Nat => Value.int .u8 (z : Int)).toArray t frozen
      | o => o }
theorem door_met8 (os : Os) (args : Array Value) : laidMetH Tryz.prog laid8 ((laidWorld8 os).forCall (fun _ _ => 0) ⟨#[], args, []⟩).memory :=
  laidMetH_of_parts3 (fuel := 8) (laidMet_of_run' 8 (by kernel_rfl) (by kernel_rfl)) (by kernel_rfl) (by kernel_rfl)
theorem gT10 : (Tryz.prog.globals[2]?).map (·.type) = some 208 := by kernel_rfl
theorem gT32 : (Tryz.prog.globals[3]?).map (·.type) = some 223 := by kernel_rfl
theorem gT64 : (Tryz.prog.globals[4]?).map (·.type) = some 224 := by kernel_rfl
theorem gTER : (Tryz.prog.globals[6]?).map (·.type) = some 89 := by kernel_rfl
theorem star : "*" ++ "errors.errorString" = "*errors.errorString" := by decide
theorem rowES (u : TypeId) (h : Tryz.prog.typeName? 3 u = some "*errors.errorString") : u = 246 :=
  typeName_ptr_named (nm := "errors.errorString") (by rw [star]; kernel_rfl) (by kernel_rfl) (by decide) u (by rw [star]; exact h)
theorem rx_of_laid8 {W : World} (h : laidMetH Tryz.prog laid8 W) : RX W := by
  rw [MakeChecks.laidMetH_plain _ _ _ (by kernel_rfl)] at h
  refine ⟨⟨?_, ?_, ?_⟩, ?_⟩
  · exact Lib.tabIs_of_head g10 gT10 Tryz.underlying208 Tryz.underlying163 (by kernel_rfl) (by kernel_rfl) h.tail.tail
  · exact Lib.tabIs_of_head g32 gT32 Tryz.underlying223 Tryz.underlying5 (by kernel_rfl) (by kernel_rfl) h
  · exact Lib.tabIs_of_head g64 gT64 Tryz.underlying224 Tryz.underlying5 (by kernel_rfl) (by kernel_rfl) h.tail
  · obtain ⟨a, s, hv, _⟩ := laid_sentinel h.tail.tail.tail.tail gER gTER Tryz.underlying89 rowES Tryz.underlying246 Tryz.underlying248 rfl rfl Tryz.underlying9 (by kernel_rfl) (by kernel_rfl)
    exact ⟨_, _, hv⟩
theorem gFX : Tryz.prog.globalNamed "flowpipe/parse.functions" = some 1 := by kernel_rfl
theorem gTFX : (Tryz.prog.globals[1]?).map (·.type) = some 142 := by kernel_rfl
theorem at_funs (l : List UInt8) : (Rows.laid_flowpipe_parse_functions (H := Unit)).atKey (.string l) (.lit (.int .i64 0)) = .lit (.int .i64 (funK l)) := by
  unfold Rows.laid_flowpipe_parse_functions DataW.atKey funK
  simp only [List.find?_cons, Lit.sameKey]
  by_cases h1 : l = [99, 111, 115]
  · subst h1; rfl
  by_cases h2 : l = [101, 120, 112]
  · subst h2; rfl
  by_cases h3 : l = [108, 111, 103]
  · subst h3; rfl
  by_cases h4 : l = [115, 105, 110]
  · subst h4; rfl
  by_cases h5 : l = [115, 113, 114, 116]
  · subst h5; rfl
  have e : ∀ a : List UInt8, ¬ l = a → (a == l) = false := fun a h => beq_eq_false_iff_ne.2 (Ne.symm h)
  rw [e _ h1, e _ h2, e _ h3, e _ h4, e _ h5]
  simp only [List.find?_nil]
  rw [if_neg h2, if_neg h3, if_neg h4, if_neg h1, if_neg h5]
theorem fx_of_laid8 {W : World} (h : laidMetH Tryz.prog laid8 W) : FX W := by
  rw [MakeChecks.laidMetH_plain _ _ _ (by kernel_rfl)] at h
  obtain ⟨ps, ⟨g0, t0, cs0, f0, p0, q0, hg0, ht0, hv0, hd0, _⟩, _, _⟩ := h.tail.tail.tail.tail.tail.tail
  obtain rfl := Option.some.inj (gFX.symm.trans hg0)
  obtain rfl := Option.some.inj (gTFX.symm.trans ht0)
  rcases WideMaps.open_map Tryz.underlying142 Tryz.underlying3 hd0 with ⟨_, hx⟩ | ⟨bm, es, clock, hcs, hb, _, F, hx⟩
  · simp [Rows.laid_flowpipe_parse_functions] at hx
  simp only [Prod.mk.injEq] at hx
  have hcell : W.cell? ⟨1, 0, none⟩ = some (.map (some bm)) := by
    have := World.var?_cell hg0 hv0 0
    rw [Array.eq_one_of_toList hcs] at this
    simpa using this
  refine ⟨bm, es, clock, ⟨hcell, ?_, hb⟩, ?_⟩
  · unfold World.cell? at hcell
    apply Decidable.byContradiction
    intro hge
    rw [Array.getElem?_eq_none (by simpa using hge)] at hcell
    simp at hcell
  · intro w l hl hbw
    have zero : (zeroValue 3).run Tryz.prog w = .ok (.int .i64 0) w := by kernel_rfl
    obtain ⟨n, hrun, _, hat⟩ := WideMaps.fit_lookup (string_law Tryz.underlying9) Tryz.underlying142 zero hbw F (keyOf_string_mk (s := ⟨l.toArray⟩) Tryz.underlying9 (by show l.toArray.size ≤ maxLen; rw [List.size_toArray]; exact Nat.le_trans hl (by decide)))
    rw [← hx.1] at hat
    have := at_funs l
    rw [show (⟨l.toArray⟩ : ByteArray).data.toList = l from rfl, this] at hat
    cases hat
    exact hrun
end Go.Proofs.YtkjoohnndobjeaaGreatDoor
namespace Go.Proofs.YtkjoohnndobjeaaGreatDoor
open Go.RowKit Go.Fl Go.Fl.Nm Go.Fl.Fm Go.WideShapes Go.ChangeShapes
section
variable {H : Type} {enc : TypeId × Value → H} {w : World} {base : Nat} {spare : Nat → Bool} {held : Bool}
end
end Go.Proofs.YtkjoohnndobjeaaGreatDoor
