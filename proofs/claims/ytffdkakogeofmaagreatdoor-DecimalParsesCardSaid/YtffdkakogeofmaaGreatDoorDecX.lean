/-
  From the rows' conditions to the walks': the listed variables, their witness, the library's bound of a short search, the arguments.
-/
import Derived.Test.YtffdkakogeofmaaGreatDoorDecI
import Derived.Test.YtffdkakogeofmaaGreatDoorPkB
import Derived.Test.YtffdkakogeofmaaGreatDoorRows
import Derived.Lib.LaidTab
import Derived.Lib.SmallJoins
import Derived.LaidMore
import Derived.LaidSub
import Derived.LaidHandle
import Derived.MakeChecks
import Derived.Clock
import Derived.Stop.LaidErr
import Derived.Shelf.Vars
import Derived.Handed
import Derived.ProofKit
import Derived.ChangeOld
import Derived.Below
import GoSem.PinnedTables
set_option linter.unusedVariables false
namespace Go.Proofs.YtffdkakogeofmaaGreatDoor
open Go.RowKit Go.Fl Go.Fl.Nm Go.WideShapes Go.ChangeShapes
theorem own : ownKnob Tryz.prog.godebug = none := by kernel_rfl
theorem laidOut : laidOutB Tryz.prog = true := by kernel_rfl
def laid5 : List (String × DataW Unit) := [("math/bits.deBruijn32tab", Rows.laid_math_bits_deBruijn32tab), ("math/bits.deBruijn64tab", Rows.laid_math_bits_deBruijn64tab), ("internal/strconv.uint64pow10", Rows.laid_internal_strconv_uint64pow10), ("unicode/utf8.acceptRanges", Rows.laid_unicode_utf8_acceptRanges), ("unicode/utf8.first", Rows.laid_unicode_utf8_first)]
noncomputable def laidWorld5 (os : Os) : World :=
  let w0 := World.doorLaid Tryz.prog 400 os
  { w0 with heap := w0.heap.modify 2 fun
      | .cells _ t frozen => .cells (Go.Pinned.utf8FirstZ.map fun z : Nat => Value.int .u8 (z : Int)).toArray t frozen
      | o => o }
theorem door_met5 (os : Os) (args : Array Value) : laidMetH Tryz.prog laid5 ((laidWorld5 os).forCall (fun _ _ => 0) ⟨#[], args, []⟩).memory :=
  laidMetH_of_parts3 (fuel := 8) (laidMet_of_run' 8 (by kernel_rfl) (by kernel_rfl)) (by kernel_rfl) (by kernel_rfl)
theorem gT10 : (Tryz.prog.globals[5]?).map (·.type) = some 180 := by kernel_rfl
theorem gT32 : (Tryz.prog.globals[4]?).map (·.type) = some 175 := by kernel_rfl
theorem gT64 : (Tryz.prog.globals[6]?).map (·.type) = some 187 := by kernel_rfl
theorem rb_of_laid {W : World} (h : laidMetH Tryz.prog laid5 W) : RB W := by
  rw [MakeChecks.laidMetH_plain _ _ _ (by kernel_rfl)] at h
  refine ⟨?_, ?_, ?_⟩
  · exact Lib.tabIs_of_head g10 gT10 Tryz.underlying180 Tryz.underlying96 (by kernel_rfl) (by kernel_rfl) h.tail.tail
  · exact Lib.tabIs_of_head g32 gT32 Tryz.underlying175 Tryz.underlying5 (by kernel_rfl) (by kernel_rfl) h
  · exact Lib.tabIs_of_head g64 gT64 Tryz.underlying187 Tryz.underlying5 (by kernel_rfl) (by kernel_rfl) h.tail
theorem mxl_of_shaped {W : World} (h : W.ShapedOpen Tryz.prog) : MXL W := by
  obtain ⟨m, hm⟩ := cell_of_shapedOpen_int (P := Tryz.prog) (g := 0) (t := 3) (zero := #[.int .i64 0]) h (of_decide_eq_true (by kernel_rfl)) (by kernel_rfl) rfl (by kernel_rfl) (by kernel_rfl) Tryz.underlying3
  exact ⟨Clock.block_lt hm, m, hm⟩
theorem sl_of_ints {W : World} {a : Option Addr} {len cap : Nat} {zs : List Int} (hn : zs.length = len) (hcl : len ≤ cap) (hcm : cap ≤ maxLen) (hno : a = none → cap = 0) (hz : ∀ z ∈ zs, (Lit.int .u32 z).wf = true)
    (ha : Rd W 1 a len (zs.map (Value.int .u32))) : Sl W a len cap (zs.map Int.toNat) := by
  have hb : ∀ z ∈ zs, 0 ≤ z ∧ z < 4294967296 := fun z h => by
    have := hz z h
    simp [Lit.wf, IntKind.min, IntKind.max, IntKind.signed, IntKind.bits] at this
    omega
  refine ⟨by simpa using hn, ?_, hcl, hcm, hno, ?_⟩
  · intro x hx
    obtain ⟨z, h1, rfl⟩ := List.mem_map.1 hx
    have := hb z h1
    unfold BB; omega
  · have e : U (zs.map Int.toNat) = zs.map (Value.int .u32) := by
      unfold U
      rw [List.map_map]
      apply List.map_congr_left
      intro z h1
      have := hb z h1
      simp only [Function.comp]
      rw [Int.toNat_of_nonneg this.1]
    rw [e]
    exact ha
section
variable {H : Type} {enc : TypeId × Value → H}
/-- The wrap of a row whose walk needs the listed variables and the world's shape. -/
theorem handed_listed_shaped {a : Assume} {C : Checked} {os : Os} {f : FuncId} {fn : Func} {s : ChangeSpec} {conds : List PathCond} {apart fresh handsOn again : Bool} {X : World → Array Value → Prop}
    (hX : ∀ (w w' : World) (args : Array Value), w.heap = w'.heap → X w args → X w' args)
    (hown : ownKnob C.prog.godebug = none) (started : os.Started) (noInit : C.prog.inits.idxOf? f = none) (hfn : C.prog.funcs[f]? = some fn)
    (wit : ∃ (w : World) (tape : Tape) (i : Input), w.os = os ∧ (w.forCall tape i).Shaped C.prog ∧ i.vars = [] ∧ Input.okWide C.prog (w.forCall tape i) .any w.heap.size f i ∧
      ((s.pre enc C.prog fn conds apart (w.forCall tape i).memory i.args ∧ X (w.forCall tape i).memory i.args) ∧ sizedMet enc C.prog fn (OpenSpec.ofChange s) apart (w.forCall tape i).memory i.args) ∧ a.holds C.prog (lone (Frame.enter C.prog f i.args .normal) [] (w.forCall tape i)))
    (walk : ∀ (W : World) (base : Nat) (args : Array Value) (ds gs : List (DataW H)) (before : List MemPlace),
      (∀ (j : Nat) t v, fn.params[j]? = some t → args[j]? = some v → Value.okWide C.prog W .any base t v) →
      DataW.Whole enc C.prog fn.params.toList s.vars apart W args.toList ds gs before → X W args → W.ShapedOpen C.prog →
      Calls C.prog f args W fun e W' => ∃ v, e = .returned v ∧ s.post enc C.prog fn apart fresh handsOn again W args v W') :
    ReturnsInHanded a C os f .any (fun w args => (s.pre enc C.prog fn conds apart w args ∧ X w args) ∧ sizedMet enc C.prog fn (OpenSpec.ofChange s) apart w args) (s.post enc C.prog fn apart fresh handsOn again) := by
  refine returnsInHanded_of_calls hown started noInit wit fun w tape i _ shaped _ ok pre _ => ?_
  obtain ⟨_, _, _, gn, hgn, _, _, _, _, hval⟩ := ok
  obtain rfl : gn = fn := Option.some.inj (hgn.symm.trans hfn)
  obtain ⟨⟨⟨ds, gs, before, whole, _⟩, hx⟩, _⟩ := pre
  refine (walk (w.forCall tape i) w.heap.size i.args ds gs before hval (DataW.Whole.of_heap (w' := w.forCall tape i) (by rfl) whole) (hX _ _ _ (by rfl) hx) shaped).mono ?_
  rintro e W' ⟨v, rfl, hp⟩
  exact ChangeSpec.post_blind hp
variable {w : World} {base : Nat} {spare : Nat → Bool} {held : Bool}
/-- A dyadic number, opened. -/
theorem open_dyc {n : Nat} {cs : List Value} {x : DataW H × List MemPlace} (hl : cs.length = 3) (h : DataW.trod enc Tryz.prog w base spare held n 25 cs = some x) :
    ∃ (ng : Bool) (a : Option Addr) (len cap : Nat) (ex : Int) (zs : List Nat), cs = [.bool ng, .slice a len cap, .int .i64 ex] ∧ Sl w a len cap zs ∧ (Lit.int .i64 ex).wf = true := by
  obtain ⟨y0, y1, y2, m, _, _, h0, h1, h2⟩ := Deep.trod_struct3 Tryz.underlying25 h
  have c0 : Tryz.prog.cellsOf 4 = 1 := by kernel_rfl
  have c1 : Tryz.prog.cellsOf 23 = 1 := by kernel_rfl
  have c2 : Tryz.prog.cellsOf 3 = 1 := by kernel_rfl
  simp only [c0, c1, c2] at h0 h1 h2
  match cs, hl with
  | [v0, v1, v2], _ =>
    simp only [List.drop_zero, List.drop_succ_cons, List.take_succ_cons, List.take_zero] at h0 h1 h2
    obtain ⟨ng, e0, _⟩ := DataW.trod_bool Tryz.underlying4 h0
    obtain ⟨a, len, cap, e1⟩ := Joins.slice_form Tryz.underlying23 h1
    obtain ⟨ex, e2, _, we⟩ := DataW.trod_int Tryz.underlying3 h2
    simp at e0 e1 e2
    subst e0 e1 e2
    obtain ⟨_, hcl, hcm, hno, zs, hn, hz, ha⟩ := open_ints_rd Tryz.underlying23 Tryz.underlying49 (by kernel_rfl) h1
    exact ⟨ng, a, len, cap, ex, _, rfl, sl_of_ints hn hcl hcm hno hz ha, we⟩
set_option maxRecDepth 100000 in
/-- A dyadic number as an argument, opened. -/
theorem open_dyv {r : Reach} {b0 : Nat} {v : Value} {d : DataW H} {ps : List MemPlace} (hv : Value.okWide Tryz.prog w r b0 25 v) (h : DataW.Trod enc Tryz.prog w base spare held 25 v d ps) :
    ∃ (ng : Bool) (a : Option Addr) (len cap : Nat) (ex : Int) (zs : List Nat), v = .agg #[.bool ng, .slice a len cap, .int .i64 ex] ∧ Sl w a len cap zs ∧ (Lit.int .i64 ex).wf = true := by
  obtain ⟨⟨cs⟩, rfl, hsz⟩ := okWide_struct Tryz.underlying25 hv
  have hC : Tryz.prog.cellsOf 25 = 3 := by kernel_rfl
  rw [hC] at hsz
  obtain ⟨fuel, hf⟩ := h
  have hf' : DataW.trod enc Tryz.prog w base spare held fuel 25 cs = some (d, ps) := hf
  obtain ⟨ng, a, len, cap, ex, zs, e, s, we⟩ := open_dyc (by simpa using hsz) hf'
  subst e
  exact ⟨ng, a, len, cap, ex, zs, rfl, s, we⟩
set_option maxRecDepth 100000 in
/-- An interval, opened. -/
theorem open_iv {r : Reach} {b0 : Nat} {v : Value} {d : DataW H} {ps : List MemPlace} (hv : Value.okWide Tryz.prog w r b0 27 v) (h : DataW.Trod enc Tryz.prog w base spare held 27 v d ps) :
    ∃ (ng : Bool) (a : Option Addr) (len cap : Nat) (ex : Int) (zs : List Nat) (ng' : Bool) (a' : Option Addr) (len' cap' : Nat) (ex' : Int) (zs' : List Nat) (al : Bool),
      v = .agg #[.bool ng, .slice a len cap, .int .i64 ex, .bool ng', .slice a' len' cap', .int .i64 ex', .bool al] ∧ Sl w a len cap zs ∧ Sl w a' len' cap' zs' ∧ (Lit.int .i64 ex).wf = true ∧ (Lit.int .i64 ex').wf = true := by
  obtain ⟨⟨cs⟩, rfl, hsz⟩ := okWide_struct Tryz.underlying27 hv
  have hC : Tryz.prog.cellsOf 27 = 7 := by kernel_rfl
  rw [hC] at hsz
  obtain ⟨fuel, hf⟩ := h
  have hf' : DataW.trod enc Tryz.prog w base spare held fuel 27 cs = some (d, ps) := hf
  obtain ⟨y0, y1, y2, m, _, _, h0, h1, h2⟩ := Deep.trod_struct3 Tryz.underlying27 hf'
  have c0 : Tryz.prog.cellsOf 4 = 1 := by kernel_rfl
  have c1 : Tryz.prog.cellsOf 25 = 3 := by kernel_rfl
  simp only [c0, c1] at h0 h1 h2
  match cs, hsz with
  | [v0, v1, v2, v3, v4, v5, v6], _ =>
    simp only [List.drop_zero, List.drop_succ_cons, List.take_succ_cons, List.take_zero] at h0 h1 h2
    obtain ⟨ng, a, len, cap, ex, zs, e1, s1, w1⟩ := open_dyc (by rfl) h0
    obtain ⟨ng', a', len', cap', ex', zs', e2, s2, w2⟩ := open_dyc (by rfl) h1
    obtain ⟨al, e0, _⟩ := DataW.trod_bool Tryz.underlying4 h2
    simp at e0 e1 e2
    obtain ⟨rfl, rfl, rfl⟩ := e1
    obtain ⟨rfl, rfl, rfl⟩ := e2
    subst e0
    exact ⟨ng, a, len, cap, ex, zs, ng', a', len', cap', ex', zs', al, rfl, s1, s2, w1, w2⟩
end
theorem i64_of_wf {a : Int} (h : (Lit.int .i64 a).wf = true) : -9223372036854775808 ≤ a ∧ a ≤ 9223372036854775807 := by
  simp [Lit.wf, IntKind.min, IntKind.max, IntKind.signed, IntKind.bits] at h
  omega
end Go.Proofs.YtffdkakogeofmaaGreatDoor
