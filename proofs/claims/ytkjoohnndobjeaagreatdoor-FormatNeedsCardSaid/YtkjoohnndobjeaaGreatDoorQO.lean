/-
  An expression as an argument, opened.
  From the rows' conditions to the parser's walks: the listed variables, their witness.
  From the rows' conditions to the walks': an expression.
-/
import Derived.Test.YtkjoohnndobjeaaGreatDoorQC
import Derived.Test.YtkjoohnndobjeaaGreatDoorQH
import Derived.ChangeSlices
import Derived.ChangeArms
import Derived.Deep.Slices
import Derived.Deep.Strs
import Derived.WideKeyArgs
import Derived.Test.YtkjoohnndobjeaaGreatDoorQJ
import Derived.Test.YtkjoohnndobjeaaGreatDoorRows
import Derived.Lib.LaidTab
import Derived.Lib.SmallJoins
import Derived.LaidMore
import Derived.LaidSub
import Derived.LaidHandle
import Derived.MakeChecks
import Derived.Stop.LaidErr
import Derived.ProofKit
import Derived.OpenShut
import Derived.ChangeOld
import Derived.Below
import Derived.Stop.Joined
import Derived.WideKeyMaps2
import GoSem.PinnedTables
set_option linter.unusedVariables false
namespace Go.Proofs.YtkjoohnndobjeaaGreatDoor
open Go.RowKit Go.Fl Go.Fl.Fm Go.ChangeShapes Go.WideShapes
section
variable {H : Type} {enc : TypeId × Value → H} {w : World} {base : Nat} {spare : Nat → Bool} {held : Bool}
theorem i64_wf {a : Int} (h : (Lit.int .i64 a).wf = true) : -9223372036854775808 ≤ a ∧ a ≤ 9223372036854775807 := by
  simp [Lit.wf, IntKind.min, IntKind.max, IntKind.signed, IntKind.bits] at h
  omega
theorem choose2 {α β : Type} [Inhabited α] [Inhabited β] {n : Nat} {p : Nat → α → β → Prop} (h : ∀ i, i < n → ∃ x y, p i x y) : ∃ (f : Nat → α) (g : Nat → β), ∀ i, i < n → p i (f i) (g i) := by
  obtain ⟨f, hf⟩ := Deep.choose_lt (α := α × β) (p := fun i x => p i x.1 x.2) (fun i hi => by
    obtain ⟨x, y, h1⟩ := h i hi
    exact ⟨(x, y), h1⟩)
  exact ⟨fun i => (f i).1, fun i => (f i).2, hf⟩
instance : Inhabited Nd := ⟨⟨⟨0, 0, 0, ByteArray.empty, 0⟩, none, 0, 0⟩⟩
theorem nds_len (l : List Nd) : (ndsCells l).length = l.length * 6 := by
  induction l with
  | nil => rfl
  | cons x l ih =>
    show (x.cells ++ ndsCells l).length = _
    rw [List.length_append, ih, List.length_cons]
    show 6 + _ = _
    omega
set_option maxRecDepth 100000 in
theorem open_ex : ∀ (fuel : Nat) (cs : List Value) (x : DataW H × List MemPlace), cs.length = 6 → DataW.trod enc Tryz.prog w base spare held fuel 29 cs = some x → ∃ T nd, cs = Nd.cells nd ∧ InE w T nd := by
  intro fuel
  induction fuel using Nat.strongRecOn with
  | _ fuel ih =>
    intro cs x hl h
    obtain ⟨xs, n, hfu, rfl, _, hlen, hf⟩ := DataW.trod_struct Tryz.underlying29 h
    have c0 : Tryz.prog.cellsOf 3 = 1 := by kernel_rfl
    have c1 : Tryz.prog.cellsOf 26 = 2 := by kernel_rfl
    have c2 : Tryz.prog.cellsOf 9 = 1 := by kernel_rfl
    have c4 : Tryz.prog.cellsOf 27 = 1 := by kernel_rfl
    have c6 : Tryz.prog.cellsOf 29 = 6 := by kernel_rfl
    match cs, hl, xs, hlen with
    | [v0, v1, v2, v3, v4, v5], _, [y0, y1, y2, y3, y4], _ =>
      have h0 : DataW.trod enc Tryz.prog w base spare held n 3 [v0] = some y0 := by have := hf 0 _ rfl; simpa [c0] using this
      have h1 : DataW.trod enc Tryz.prog w base spare held n 26 [v1, v2] = some y1 := by have := hf 1 _ rfl; simpa [c1] using this
      have h2 : DataW.trod enc Tryz.prog w base spare held n 9 [v3] = some y2 := by have := hf 2 _ rfl; simpa [c2] using this
      have h3 : DataW.trod enc Tryz.prog w base spare held n 3 [v4] = some y3 := by have := hf 3 _ rfl; simpa [c0] using this
      have h4 : DataW.trod enc Tryz.prog w base spare held n 27 [v5] = some y4 := by have := hf 4 _ rfl; simpa [c4] using this
      clear hf
      obtain ⟨kd, e0, _, q0⟩ := DataW.trod_int Tryz.underlying3 h0
      obtain ⟨k, e3, _, q3⟩ := DataW.trod_int Tryz.underlying3 h3
      obtain ⟨nm, e2, _, q2⟩ := DataW.trod_string Tryz.underlying9 h2
      obtain ⟨xs1, n1, _, _, _, hlen1, hf1⟩ := DataW.trod_struct Tryz.underlying26 h1
      match xs1, hlen1 with
      | [z0, z1], _ =>
        have g0 : DataW.trod enc Tryz.prog w base spare held n1 3 [v1] = some z0 := by have := hf1 0 _ rfl; simpa [c0] using this
        have g1 : DataW.trod enc Tryz.prog w base spare held n1 3 [v2] = some z1 := by have := hf1 1 _ rfl; simpa [c0] using this
        obtain ⟨nn, e4, _, q4⟩ := DataW.trod_int Tryz.underlying3 g0
        obtain ⟨dd, e5, _, q5⟩ := DataW.trod_int Tryz.underlying3 g1
        simp only [List.cons.injEq, and_true] at e0 e2 e3 e4 e5
        subst e0 e2 e3 e4 e5
        have b0 := i64_wf q0
        have b3 := i64_wf q3
        have b4 := i64_wf q4
        have b5 := i64_wf q5
        have ok : HdOk ⟨kd, nn, dd, nm, k⟩ := ⟨b0.1, b0.2, b4.1, b4.2, b5.1, b5.2, b3.1, b3.2, q2⟩
        rcases DataW.trod_slice Tryz.underlying27 h4 with ⟨e6, _⟩ | ⟨a, len, cap, elems, rest, n2, hn2, e6, _, hb, hlc, hcm, hle, hel, _⟩
        · simp only [List.cons.injEq, and_true] at e6
          subst e6
          exact ⟨.mk ⟨kd, nn, dd, nm, k⟩ [], ⟨⟨kd, nn, dd, nm, k⟩, none, 0, 0⟩, rfl, .mk _ _ _ _ _ [] ok rfl (Nat.le_refl _) (Nat.zero_le _) rfl (Rd.none_ _ _) (fun i T v h => by cases h)⟩
        · simp only [List.cons.injEq, and_true] at e6
          subst e6
          rw [c6] at hel
          obtain ⟨fT, fN, hfn⟩ := choose2 (n := len) (p := fun i (T : TE) (nd : Nd) => w.cells? base (a.add (i * 6)) 6 = some nd.cells ∧ InE w T nd) (fun i hi => by
            have h := hel i hi
            rw [List.getElem?_eq_getElem (by omega)] at h
            cases hc : w.cells? base (a.add (i * 6)) 6 with
            | none => rw [hc] at h; cases h
            | some cs' =>
              rw [hc] at h
              obtain ⟨T, nd, e1, e2⟩ := ih n2 (by omega) cs' _ (World.cells?_some hc).2.1 h
              exact ⟨T, nd, by rw [e1], e2⟩)
          refine ⟨.mk ⟨kd, nn, dd, nm, k⟩ ((List.range len).map fT), ⟨⟨kd, nn, dd, nm, k⟩, some a, len, cap⟩, rfl, .mk _ _ _ _ _ ((List.range len).map fN) ok (by simp) hlc hcm (by simp) ⟨?_, fun hn => ?_⟩ (fun i T v h1 h2 => ?_)⟩
          · rw [nds_len]; simp
          · obtain ⟨b, off, spot⟩ := a
            have hcell := fun i hi => (World.cells?_some (hfn i hi).1).2.2
            have h00 := hcell 0 hn 0 (by omega)
            have hspot : spot = none := by
              have h01 : w.cell? (((⟨b, off, spot⟩ : Addr).add (0 * 6)).add 0) = some (.int .i64 (fN 0).h.kind) := h00
              simpa [Addr.add] using World.cell?_spot h01
            subst hspot
            refine ⟨b, off, rfl, ?_, fun j u hu => ?_⟩
            · have h01 : w.cell? (((⟨b, off, none⟩ : Addr).add (0 * 6)).add 0) = some (.int .i64 (fN 0).h.kind) := h00
              exact World.block_lt_of_cell? _ _ h01
            · have hj : j < len * 6 := by
                have := (List.getElem?_eq_some_iff.1 hu).1
                rw [nds_len] at this
                simpa using this
              have hi : j / 6 < len := by omega
              have hr : j % 6 < 6 := by omega
              have hv : ((List.range len).map fN)[j / 6]? = some (fN (j / 6)) := by simp [hi]
              have h1 := nds_at _ (j / 6) _ hv (j % 6) hr
              rw [show j / 6 * 6 + j % 6 = j by omega, hu] at h1
              have h2 := hcell (j / 6) hi (j % 6) hr
              rw [← h1] at h2
              rw [show off + j = off + (j / 6 * 6) + j % 6 by omega]
              rw [add_plain, add_plain] at h2
              exact h2
          · rw [List.getElem?_map] at h1 h2
            cases hg : (List.range len)[i]? with
            | none => rw [hg] at h1; cases h1
            | some i' =>
              rw [hg] at h1 h2
              have hi' : i' = i ∧ i < len := by
                have := List.getElem?_eq_some_iff.1 hg
                obtain ⟨h3, h4⟩ := this
                simp at h3 h4
                exact ⟨h4.symm, h3⟩
              injection h1 with h1
              injection h2 with h2
              rw [← h1, ← h2, hi'.1]
              exact (hfn i hi'.2).2
end
end Go.Proofs.YtkjoohnndobjeaaGreatDoor
namespace Go.Proofs.YtkjoohnndobjeaaGreatDoor
open Go.RowKit Go.Fl Go.Fl.Nm Go.Fl.Pa
open Go.ChangeShapes Go.WideShapes Go.ChangeAt Go.MapKept Go.WideMaps

theorem own : ownKnob Tryz.prog.godebug = none := by kernel_rfl
theorem laidOut : laidOutB Tryz.prog = true := by kernel_rfl
def laid8 : List (String × DataW Unit) := [("math/bits.deBruijn32tab", Rows.laid_math_bits_deBruijn32tab), ("math/bits.deBruijn64tab", Rows.laid_math_bits_deBruijn64tab), ("internal/strconv.uint64pow10", Rows.laid_internal_strconv_uint64pow10), ("unicode/utf8.acceptRanges", Rows.laid_unicode_utf8_acceptRanges), ("strconv.ErrRange", Rows.laid_strconv_ErrRange), ("strconv.ErrSyntax", Rows.laid_strconv_ErrSyntax), ("flowpipe/parse.functions", Rows.laid_flowpipe_parse_functions), ("unicode/utf8.first", Rows.laid_unicode_utf8_first)]
noncomputable def laidWorld8 (os : Os) : World :=
  let w0 := World.doorLaid Tryz.prog 400 os
  { w0 with heap := w0.heap.modify 7 fun
      | .cells _ t frozen => .cells (Go.Pinned.utf8FirstZ.map fun z : Nat => Value.int .u8 (z : Int)).toArray t frozen
      | o => o }
theorem door_met8 (os : Os) (args : Array Value) : laidMetH Tryz.prog laid8 ((laidWorld8 os).forCall (fun _ _ => 0) ⟨#[], args, []⟩).memory :=
  laidMetH_of_parts3 (fuel := 8) (laidMet_of_run' 8 (by kernel_rfl) (by kernel_rfl)) (by kernel_rfl) (by kernel_rfl)
theorem gT10 : (Tryz.prog.globals[2]?).map (·.type) = some 208 := by kernel_rfl
theorem gT32 : (Tryz.prog.globals[3]?).map (·.type) = some 223 := by kernel_rfl
theorem gT64 : (Tryz.prog.globals[4]?).map (·.type) = some 224 := by kernel_rfl
theorem gTER : (Tryz.prog.globals[6]?).map (·.type) = some 89 := by kernel_rfl
theorem star : "*" ++ "errors.errorString" = "*errors.errorString" := by decide
theorem rowES (u : TypeId) (h : Tryz.prog.typeName? 3 u = some "*errors.errorString") : u = 246 :=
  typeName_ptr_named (nm := "errors.errorString") (by rw [star]; kernel_rfl) (by kernel_rfl) (by decide) u (by rw [star]; exact h)
theorem rx_of_laid8 {W : World} (h : laidMetH Tryz.prog laid8 W) : RX W := by
  rw [MakeChecks.laidMetH_plain _ _ _ (by kernel_rfl)] at h
  refine ⟨⟨?_, ?_, ?_⟩, ?_⟩
  · exact Lib.tabIs_of_head g10 gT10 Tryz.underlying208 Tryz.underlying163 (by kernel_rfl) (by kernel_rfl) h.tail.tail
  · exact Lib.tabIs_of_head g32 gT32 Tryz.underlying223 Tryz.underlying5 (by kernel_rfl) (by kernel_rfl) h
  · exact Lib.tabIs_of_head g64 gT64 Tryz.underlying224 Tryz.underlying5 (by kernel_rfl) (by kernel_rfl) h.tail
  · obtain ⟨a, s, hv, _⟩ := laid_sentinel h.tail.tail.tail.tail gER gTER Tryz.underlying89 rowES Tryz.underlying246 Tryz.underlying248 rfl rfl Tryz.underlying9 (by kernel_rfl) (by kernel_rfl)
    exact ⟨_, _, hv⟩
theorem gFX : Tryz.prog.globalNamed "flowpipe/parse.functions" = some 1 := by kernel_rfl
theorem gTFX : (Tryz.prog.globals[1]?).map (·.type) = some 142 := by kernel_rfl
theorem at_funs (l : List UInt8) : (Rows.laid_flowpipe_parse_functions (H := Unit)).atKey (.string l) (.lit (.int .i64 0)) = .lit (.int .i64 (funK l)) := by
  unfold Rows.laid_flowpipe_parse_functions DataW.atKey funK
  simp only [List.find?_cons, Lit.sameKey]
  by_cases h1 : l = [99, 111, 115]
  · subst h1; rfl
  by_cases h2 : l = [101, 120, 112]
  · subst h2; rfl
  by_cases h3 : l = [108, 111, 103]
  · subst h3; rfl
  by_cases h4 : l = [115, 105, 110]
  · subst h4; rfl
  by_cases h5 : l = [115, 113, 114, 116]
  · subst h5; rfl
  have e : ∀ a : List UInt8, ¬ l = a → (a == l) = false := fun a h => beq_eq_false_iff_ne.2 (Ne.symm h)
  rw [e _ h1, e _ h2, e _ h3, e _ h4, e _ h5]
  simp only [List.find?_nil]
  rw [if_neg h2, if_neg h3, if_neg h4, if_neg h1, if_neg h5]
theorem fx_of_laid8 {W : World} (h : laidMetH Tryz.prog laid8 W) : FX W := by
  rw [MakeChecks.laidMetH_plain _ _ _ (by kernel_rfl)] at h
  obtain ⟨ps, ⟨g0, t0, cs0, f0, p0, q0, hg0, ht0, hv0, hd0, _⟩, _, _⟩ := h.tail.tail.tail.tail.tail.tail
  obtain rfl := Option.some.inj (gFX.symm.trans hg0)
  obtain rfl := Option.some.inj (gTFX.symm.trans ht0)
  rcases WideMaps.open_map Tryz.underlying142 Tryz.underlying3 hd0 with ⟨_, hx⟩ | ⟨bm, es, clock, hcs, hb, _, F, hx⟩
  · simp [Rows.laid_flowpipe_parse_functions] at hx
  simp only [Prod.mk.injEq] at hx
  have hcell : W.cell? ⟨1, 0, none⟩ = some (.map (some bm)) := by
    have := World.var?_cell hg0 hv0 0
    rw [Array.eq_one_of_toList hcs] at this
    simpa using this
  refine ⟨bm, es, clock, ⟨hcell, ?_, hb⟩, ?_⟩
  · unfold World.cell? at hcell
    apply Decidable.byContradiction
    intro hge
    rw [Array.getElem?_eq_none (by simpa using hge)] at hcell
    simp at hcell
  · intro w l hl hbw
    have zero : (zeroValue 3).run Tryz.prog w = .ok (.int .i64 0) w := by kernel_rfl
    obtain ⟨n, hrun, _, hat⟩ := WideMaps.fit_lookup (string_law Tryz.underlying9) Tryz.underlying142 zero hbw F (keyOf_string_mk (s := ⟨l.toArray⟩) Tryz.underlying9 (by show l.toArray.size ≤ maxLen; rw [List.size_toArray]; exact Nat.le_trans hl (by decide)))
    rw [← hx.1] at hat
    have := at_funs l
    rw [show (⟨l.toArray⟩ : ByteArray).data.toList = l from rfl, this] at hat
    cases hat
    exact hrun
end Go.Proofs.YtkjoohnndobjeaaGreatDoor
namespace Go.Proofs.YtkjoohnndobjeaaGreatDoor
open Go.RowKit Go.Fl Go.Fl.Nm Go.Fl.Fm Go.WideShapes Go.ChangeShapes
section
variable {H : Type} {enc : TypeId × Value → H} {w : World} {base : Nat} {spare : Nat → Bool} {held : Bool}
set_option maxRecDepth 100000 in
theorem open_exv {r : Reach} {b0 : Nat} {v : Value} {d : DataW H} {ps : List MemPlace} (hv : Value.okWide Tryz.prog w r b0 29 v) (h : DataW.Trod enc Tryz.prog w base spare held 29 v d ps) :
    ∃ (T : TE) (nd : Nd), v = nd.val ∧ InE w T nd := by
  obtain ⟨⟨cs⟩, rfl, hsz⟩ := okWide_struct Tryz.underlying29 hv
  have hC : Tryz.prog.cellsOf 29 = 6 := by kernel_rfl
  rw [hC] at hsz
  obtain ⟨fuel, hf⟩ := h
  have hf' : DataW.trod enc Tryz.prog w base spare held fuel 29 cs = some (d, ps) := hf
  obtain ⟨T, nd, e, hin⟩ := open_ex fuel cs _ (by simpa using hsz) hf'
  subst e
  exact ⟨T, nd, rfl, hin⟩
end
end Go.Proofs.YtkjoohnndobjeaaGreatDoor
