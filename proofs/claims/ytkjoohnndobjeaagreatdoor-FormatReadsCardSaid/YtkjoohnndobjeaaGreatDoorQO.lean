/-
  An expression as an argument, opened.
  From the rows' conditions to the parser's walks: the listed variables, their witness.
  From the rows' conditions to the walks': an expression.
-/
import Derived.Test.YtkjoohnndobjeaaGreatDoorQC
import Derived.Test.YtkjoohnndobjeaaGreatDoorQH
import Derived.ChangeSlices
import Derived.ChangeArms
import Derived.Deep.Slices
import Derived.Deep.Strs
import Derived.WideKeyArgs
import Derived.Test.YtkjoohnndobjeaaGreatDoorQJ
import Derived.Test.YtkjoohnndobjeaaGreatDoorRows
import Derived.Lib.LaidTab
import Derived.Lib.SmallJoins
import Derived.LaidMore
import Derived.LaidSub
import Derived.LaidHandle
import Derived.MakeChecks
import Derived.Stop.LaidErr
import Derived.ProofKit
import Derived.OpenShut
import Derived.ChangeOld
import Derived.Below
import Derived.Stop.Joined
import Derived.WideKeyMaps2
import GoSem.PinnedTables
set_option linter.unusedVariables false
set_option maxRecDepth 100000
namespace Go.Proofs.YtkjoohnndobjeaaGreatDoor
open Go.RowKit Go.Fl Go.Fl.Fm Go.ChangeShapes Go.WideShapes
section
variable {H : Type} {enc : TypeId × Value → H} {w : World} {base : Nat} {spare : Nat → Bool} {held : Bool}
theorem i64_wf {a : Int} (h : (Lit.int .i64 a).wf = true) : -9223372036854775808 ≤ a ∧ a ≤ 9223372036854775807 := by
 simp [Lit.wf, IntKind.min, IntKind.max, IntKind.signed, IntKind.bits] at h
 omega
theorem choose2 {α β : Type} [Inhabited α] [Inhabited β] {n : Nat} {p : Nat → α → β → Prop} (h : ∀ i, i < n → ∃ x y, p i x y) : ∃ (f : Nat → α) (g : Nat → β), ∀ i, i < n → p i (f i) (g i) := by
 obtain ⟨f, hf⟩ := Deep.choose_lt (α := α × β) (p := fun i x => p i x.1 x.2) (fun i hi => by
  obtain ⟨x, y, h1⟩ := h i hi
  exact ⟨(x, y), h1⟩)
 exact ⟨fun i => (f i).1, fun i => (f i).2, hf⟩
instance : Inhabited Nd := ⟨⟨⟨0, 0, 0, ByteArray.empty, 0⟩, none, 0, 0⟩⟩
theorem nds_len (l : List Nd) : (ndsCells l).length = l.length * 6 := by
 induction l with
 | nil => rfl
 | cons x l ih =>
  show (x.cells ++ ndsCells l).length = _
  rw [List.length_append, ih, List.length_cons]
  show 6 + _ = _
  omega
theorem open_ex : ∀ (fuel : Nat) (cs : List Value) (x : DataW H × List MemPlace), cs.length = 6 → DataW.trod enc Tryz.prog w base spare held fuel 29 cs = some x → ∃ T nd, cs = Nd.cells nd ∧ InE w T nd := by
 intro fuel
 induction fuel using Nat.strongRecOn with
 | _ fuel ih =>
  intro cs x hl h
  obtain ⟨U, n, ao, rfl, _, V, c⟩ := DataW.trod_struct Tryz.underlying29 h; have q : Tryz.prog.cellsOf 3 = 1 := (by kernel_rfl); have W : Tryz.prog.cellsOf 26 = 2 := (by kernel_rfl); have X : Tryz.prog.cellsOf 9 = 1 := (by kernel_rfl); have Y : Tryz.prog.cellsOf 27 = 1 := (by kernel_rfl); have Z : Tryz.prog.cellsOf 29 = 6 := (by kernel_rfl)
  match cs, hl, U, V with
  | [v0, v1, v2, v3, v4, v5], _, [y0, y1, y2, y3, y4], _ =>
   have h0 : DataW.trod enc Tryz.prog w base spare held n 3 [v0] = some y0 := (by have := c 0 _ rfl; simpa [q] using this); have h1 : DataW.trod enc Tryz.prog w base spare held n 26 [v1, v2] = some y1 := (by have := c 1 _ rfl; simpa [W] using this); have h2 : DataW.trod enc Tryz.prog w base spare held n 9 [v3] = some y2 := (by have := c 2 _ rfl; simpa [X] using this); have r : DataW.trod enc Tryz.prog w base spare held n 3 [v4] = some y3 := (by have := c 3 _ rfl; simpa [q] using this); have s : DataW.trod enc Tryz.prog w base spare held n 27 [v5] = some y4 := (by have := c 4 _ rfl; simpa [Y] using this); clear c; obtain ⟨d, B, _, q0⟩ := DataW.trod_int Tryz.underlying3 h0; obtain ⟨k, C, _, q3⟩ := DataW.trod_int Tryz.underlying3 r; obtain ⟨f, y, _, q2⟩ := DataW.trod_string Tryz.underlying9 h2; obtain ⟨ae, D, _, _, _, af, E⟩ := DataW.trod_struct Tryz.underlying26 h1
   match ae, af with
   | [z0, z1], _ =>
    have g0 : DataW.trod enc Tryz.prog w base spare held D 3 [v1] = some z0 := (by have := E 0 _ rfl; simpa [q] using this); have g1 : DataW.trod enc Tryz.prog w base spare held D 3 [v2] = some z1 := (by have := E 1 _ rfl; simpa [q] using this); obtain ⟨g, F, _, q4⟩ := DataW.trod_int Tryz.underlying3 g0; obtain ⟨l, G, _, q5⟩ := DataW.trod_int Tryz.underlying3 g1; simp only [List.cons.injEq, and_true] at B y C F G; subst B y C F G; have I := i64_wf q0; have J := i64_wf q3; have L := i64_wf q4; have M := i64_wf q5; have ok : HdOk ⟨d, g, l, f, k⟩ := ⟨I.1, I.2, L.1, L.2, M.1, M.2, J.1, J.2, q2⟩
    rcases DataW.trod_slice Tryz.underlying27 s with ⟨e6, _⟩ | ⟨a, len, cap, elems, rest, n2, hn2, e6, _, hb, hlc, hcm, hle, hel, _⟩
    ·
     simp only [List.cons.injEq, and_true] at e6; subst e6
     exact ⟨.mk ⟨d, g, l, f, k⟩ [], ⟨⟨d, g, l, f, k⟩, none, 0, 0⟩, rfl, .mk _ _ _ _ _ [] ok rfl (Nat.le_refl _) (Nat.zero_le _) rfl (Rd.none_ _ _) (fun i T v h => by cases h)⟩
    simp only [List.cons.injEq, and_true] at e6; subst e6; rw [Z] at hel
    obtain ⟨fT, m, N⟩ := choose2 (n := len) (p := fun i (T : TE) (nd : Nd) => w.cells? base (a.add (i * 6)) 6 = some nd.cells ∧ InE w T nd) (fun i hi => by
     have h := hel i hi; rw [List.getElem?_eq_getElem (by omega)] at h
     cases hc : w.cells? base (a.add (i * 6)) 6 with
     | none => rw [hc] at h; cases h
     | some cs' =>
      rw [hc] at h; obtain ⟨T, nd, e1, y⟩ := ih n2 (by omega) cs' _ (World.cells?_some hc).2.1 h
      exact ⟨T, nd, by rw [e1], y⟩)
    refine ⟨.mk ⟨d, g, l, f, k⟩ ((List.range len).map fT), ⟨⟨d, g, l, f, k⟩, some a, len, cap⟩, rfl, .mk _ _ _ _ _ ((List.range len).map m) ok (by simp) hlc hcm (by simp) ⟨?_, fun hn => ?_⟩ (fun i T v h1 h2 => ?_)⟩
    ·
     rw [nds_len]; simp
    ·
     obtain ⟨b, o, O⟩ := a
     have P := fun i hi => (World.cells?_some (N i hi).1).2.2
     have Q := P 0 hn 0 (by omega)
     have am : O = none := by
      have z : w.cell? (((⟨b, o, O⟩ : Addr).add (0 * 6)).add 0) = some (.int .i64 (m 0).h.kind) := Q
      simpa [Addr.add] using World.cell?_spot z
     subst am
     refine ⟨b, o, rfl, ?_, fun j u hu => ?_⟩
     ·
      have z : w.cell? (((⟨b, o, none⟩ : Addr).add (0 * 6)).add 0) = some (.int .i64 (m 0).h.kind) := Q
      exact World.block_lt_of_cell? _ _ z
     have hj : j < len * 6 := by
      have := (List.getElem?_eq_some_iff.1 hu).1
      rw [nds_len] at this
      simpa using this
     have hi : j / 6 < len := (by omega); have R : j % 6 < 6 := (by omega); have hv : ((List.range len).map m)[j / 6]? = some (m (j / 6)) := (by simp [hi]); have h1 := nds_at _ (j / 6) _ hv (j % 6) R; rw [show j / 6 * 6 + j % 6 = j by omega, hu] at h1; have h2 := P (j / 6) hi (j % 6) R; rw [← h1] at h2; rw [show o + j = o + (j / 6 * 6) + j % 6 by omega]; rw [add_plain, add_plain] at h2
     exact h2
    rw [List.getElem?_map] at h1 h2
    cases hg : (List.range len)[i]? with
    | none => rw [hg] at h1; cases h1
    | some i' =>
     rw [hg] at h1 h2
     have S : i' = i ∧ i < len := by
      have := List.getElem?_eq_some_iff.1 hg
      obtain ⟨r, s⟩ := this
      simp at r s
      exact ⟨s.symm, r⟩
     injection h1 with h1; injection h2 with h2; rw [← h1, ← h2, S.1]
     exact (N i S.2).2
end
end Go.Proofs.YtkjoohnndobjeaaGreatDoor
namespace Go.Proofs.YtkjoohnndobjeaaGreatDoor
open Go.RowKit Go.Fl Go.Fl.Nm Go.Fl.Pa
open Go.ChangeShapes Go.WideShapes Go.ChangeAt Go.MapKept Go.WideMaps

theorem own : ownKnob Tryz.prog.godebug = none := by kernel_rfl
theorem laidOut : laidOutB Tryz.prog = true := by kernel_rfl
def laid8 : List (String × DataW Unit) := [("math/bits.deBruijn32tab", Rows.laid_math_bits_deBruijn32tab), ("math/bits.deBruijn64tab", Rows.laid_math_bits_deBruijn64tab), ("internal/strconv.uint64pow10", Rows.laid_internal_strconv_uint64pow10), ("unicode/utf8.acceptRanges", Rows.laid_unicode_utf8_acceptRanges), ("strconv.ErrRange", Rows.laid_strconv_ErrRange), ("strconv.ErrSyntax", Rows.laid_strconv_ErrSyntax), ("flowpipe/parse.functions", Rows.laid_flowpipe_parse_functions), ("unicode/utf8.first", Rows.laid_unicode_utf8_first)]
noncomputable def laidWorld8 (os : Os) : World :=
  let w0 := World.doorLaid Tryz.prog 400 os
  { w0 with heap := w0.heap.modify 7 fun
      | .cells _ t frozen => .cells (Go.Pinned.utf8FirstZ.map fun z : Nat => Value.int .u8 (z : Int)).toArray t frozen
      | o => o }
theorem door_met8 (os : Os) (args : Array Value) : laidMetH Tryz.prog laid8 ((laidWorld8 os).forCall (fun _ _ => 0) ⟨#[], args, []⟩).memory :=
 laidMetH_of_parts3 (fuel := 8) (laidMet_of_run' 8 (by kernel_rfl) (by kernel_rfl)) (by kernel_rfl) (by kernel_rfl)
theorem gT10 : (Tryz.prog.globals[2]?).map (·.type) = some 208 := by kernel_rfl
theorem gT32 : (Tryz.prog.globals[3]?).map (·.type) = some 223 := by kernel_rfl
theorem gT64 : (Tryz.prog.globals[4]?).map (·.type) = some 224 := by kernel_rfl
theorem gTER : (Tryz.prog.globals[6]?).map (·.type) = some 89 := by kernel_rfl
theorem star : "*" ++ "errors.errorString" = "*errors.errorString" := by decide
theorem rowES (u : TypeId) (h : Tryz.prog.typeName? 3 u = some "*errors.errorString") : u = 246 :=
 typeName_ptr_named (nm := "errors.errorString") (by rw [star]; kernel_rfl) (by kernel_rfl) (by decide) u (by rw [star]; exact h)
theorem rx_of_laid8 {W : World} (h : laidMetH Tryz.prog laid8 W) : RX W := by
 rw [MakeChecks.laidMetH_plain _ _ _ (by kernel_rfl)] at h
 refine ⟨⟨?_, ?_, ?_⟩, ?_⟩
 ·
  exact Lib.tabIs_of_head g10 gT10 Tryz.underlying208 Tryz.underlying163 (by kernel_rfl) (by kernel_rfl) h.tail.tail
 ·
  exact Lib.tabIs_of_head g32 gT32 Tryz.underlying223 Tryz.underlying5 (by kernel_rfl) (by kernel_rfl) h
 ·
  exact Lib.tabIs_of_head g64 gT64 Tryz.underlying224 Tryz.underlying5 (by kernel_rfl) (by kernel_rfl) h.tail
 obtain ⟨a, s, hv, _⟩ := laid_sentinel h.tail.tail.tail.tail gER gTER Tryz.underlying89 rowES Tryz.underlying246 Tryz.underlying248 rfl rfl Tryz.underlying9 (by kernel_rfl) (by kernel_rfl)
 exact ⟨_, _, hv⟩
theorem gFX : Tryz.prog.globalNamed "flowpipe/parse.functions" = some 1 := by kernel_rfl
theorem gTFX : (Tryz.prog.globals[1]?).map (·.type) = some 142 := by kernel_rfl
theorem at_funs (l : List UInt8) : (Rows.laid_flowpipe_parse_functions (H := Unit)).atKey (.string l) (.lit (.int .i64 0)) = .lit (.int .i64 (funK l)) := by
 unfold Rows.laid_flowpipe_parse_functions DataW.atKey funK
 simp only [List.find?_cons, Lit.sameKey]
 by_cases h1 : l = [99, 111, 115]
 ·
  subst h1; rfl
 by_cases h2 : l = [101, 120, 112]
 ·
  subst h2; rfl
 by_cases h3 : l = [108, 111, 103]
 ·
  subst h3; rfl
 by_cases h4 : l = [115, 105, 110]
 ·
  subst h4; rfl
 by_cases h5 : l = [115, 113, 114, 116]
 ·
  subst h5; rfl
 have e : ∀ a : List UInt8, ¬ l = a → (a == l) = false := fun a h => beq_eq_false_iff_ne.2 (Ne.symm h)
 rw [e _ h1, e _ h2, e _ h3, e _ h4, e _ h5]
 simp only [List.find?_nil]
 rw [if_neg h2, if_neg h3, if_neg h4, if_neg h1, if_neg h5]
theorem fx_of_laid8 {W : World} (h : laidMetH Tryz.prog laid8 W) : FX W := by
 rw [MakeChecks.laidMetH_plain _ _ _ (by kernel_rfl)] at h
 obtain ⟨k, ⟨m, o, p, q, r, u, c, d, f, i, _⟩, _, _⟩ := h.tail.tail.tail.tail.tail.tail
 obtain rfl := Option.some.inj (gFX.symm.trans c)
 obtain rfl := Option.some.inj (gTFX.symm.trans d)
 rcases WideMaps.open_map Tryz.underlying142 Tryz.underlying3 i with ⟨_, hx⟩ | ⟨bm, es, clock, hcs, hb, _, F, hx⟩
 ·
  simp [Rows.laid_flowpipe_parse_functions] at hx
 simp only [Prod.mk.injEq] at hx
 have a : W.cell? ⟨1, 0, none⟩ = some (.map (some bm)) := by
  have := World.var?_cell c f 0
  rw [Array.eq_one_of_toList hcs] at this
  simpa using this
 refine ⟨bm, es, clock, ⟨a, ?_, hb⟩, ?_⟩
 ·
  unfold World.cell? at a
  apply Decidable.byContradiction
  intro hge
  rw [Array.getElem?_eq_none (by simpa using hge)] at a
  simp at a
 intro w l hl hbw
 have zero : (zeroValue 3).run Tryz.prog w = .ok (.int .i64 0) w := by kernel_rfl
 obtain ⟨n, j, _, b⟩ := WideMaps.fit_lookup (string_law Tryz.underlying9) Tryz.underlying142 zero hbw F (keyOf_string_mk (s := ⟨l.toArray⟩) Tryz.underlying9 (by show l.toArray.size ≤ maxLen; rw [List.size_toArray]; exact Nat.le_trans hl (by decide)))
 rw [← hx.1] at b
 have := at_funs l
 rw [show (⟨l.toArray⟩ : ByteArray).data.toList = l from rfl, this] at b
 cases b
 exact j
end Go.Proofs.YtkjoohnndobjeaaGreatDoor
namespace Go.Proofs.YtkjoohnndobjeaaGreatDoor
open Go.RowKit Go.Fl Go.Fl.Nm Go.Fl.Fm Go.WideShapes Go.ChangeShapes
section
variable {H : Type} {enc : TypeId × Value → H} {w : World} {base : Nat} {spare : Nat → Bool} {held : Bool}
end
end Go.Proofs.YtkjoohnndobjeaaGreatDoor
