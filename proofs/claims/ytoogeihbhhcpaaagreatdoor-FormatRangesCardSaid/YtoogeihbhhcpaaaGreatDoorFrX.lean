/-
  From the row's conditions to the walk's: the listed tables, a range, a list of intervals.
-/
import Derived.Test.YtoogeihbhhcpaaaGreatDoorPkM
import Derived.Test.YtoogeihbhhcpaaaGreatDoorFrD
import Derived.Test.YtoogeihbhhcpaaaGreatDoorPkB
import Derived.Test.YtoogeihbhhcpaaaGreatDoorRows
import Derived.Lib.LaidTab
import Derived.Lib.SmallJoins
import Derived.LaidMore
import Derived.LaidSub
import Derived.LaidHandle
import Derived.MakeChecks
import Derived.Stop.LaidErr
import Derived.ProofKit
import Derived.ChangeOld
import Derived.Below
set_option linter.unusedVariables false
namespace Go.Proofs.YtoogeihbhhcpaaaGreatDoor
open Go.RowKit Go.Fl Go.Fl.Nm Go.Fl.Fm Go.WideShapes Go.ChangeShapes
theorem own : ownKnob Tryz.prog.godebug = none := by kernel_rfl
theorem laidOut : laidOutB Tryz.prog = true := by kernel_rfl
def laid3 : List (String × DataW Unit) := [("math/bits.deBruijn32tab", Rows.laid_math_bits_deBruijn32tab), ("math/bits.deBruijn64tab", Rows.laid_math_bits_deBruijn64tab), ("internal/strconv.uint64pow10", Rows.laid_internal_strconv_uint64pow10)]
theorem door_met (os : Os) (args : Array Value) : laidMetH Tryz.prog laid3 ((World.doorLaid Tryz.prog 400 os).forCall (fun _ _ => 0) ⟨#[], args, []⟩).memory :=
  laidMetH_of_parts3 (fuel := 8) (laidMet_of_run' 8 (by kernel_rfl) (by kernel_rfl)) (by kernel_rfl) (by kernel_rfl)
theorem gT10 : (Tryz.prog.globals[1]?).map (·.type) = some 184 := by kernel_rfl
theorem gT32 : (Tryz.prog.globals[3]?).map (·.type) = some 193 := by kernel_rfl
theorem gT64 : (Tryz.prog.globals[4]?).map (·.type) = some 194 := by kernel_rfl
theorem rb_of_laid {W : World} (h : laidMetH Tryz.prog laid3 W) : RB W := by
  rw [MakeChecks.laidMetH_plain _ _ _ (by kernel_rfl)] at h
  refine ⟨?_, ?_, ?_⟩
  · exact Lib.tabIs_of_head g10 gT10 Tryz.underlying184 Tryz.underlying101 (by kernel_rfl) (by kernel_rfl) h.tail.tail
  · exact Lib.tabIs_of_head g32 gT32 Tryz.underlying193 Tryz.underlying5 (by kernel_rfl) (by kernel_rfl) h
  · exact Lib.tabIs_of_head g64 gT64 Tryz.underlying194 Tryz.underlying5 (by kernel_rfl) (by kernel_rfl) h.tail
theorem sl_of_ints {W : World} {a : Option Addr} {len cap : Nat} {zs : List Int} (hn : zs.length = len) (hcl : len ≤ cap) (hcm : cap ≤ maxLen) (hno : a = none → cap = 0) (hz : ∀ z ∈ zs, (Lit.int .u32 z).wf = true)
    (ha : Rd W 1 a len (zs.map (Value.int .u32))) : Sl W a len cap (zs.map Int.toNat) := by
  have hb : ∀ z ∈ zs, 0 ≤ z ∧ z < 4294967296 := fun z h => by
    have := hz z h
    simp [Lit.wf, IntKind.min, IntKind.max, IntKind.signed, IntKind.bits] at this
    omega
  refine ⟨by simpa using hn, ?_, hcl, hcm, hno, ?_⟩
  · intro x hx
    obtain ⟨z, h1, rfl⟩ := List.mem_map.1 hx
    have := hb z h1
    unfold BB; omega
  · have e : U (zs.map Int.toNat) = zs.map (Value.int .u32) := by
      unfold U
      rw [List.map_map]
      apply List.map_congr_left
      intro z h1
      have := hb z h1
      simp only [Function.comp]
      rw [Int.toNat_of_nonneg this.1]
    rw [e]
    exact ha
instance : Inhabited IvN := ⟨⟨false, none, 0, 0, 0, [], false, none, 0, 0, 0, [], false⟩⟩
section
variable {H : Type} {enc : TypeId × Value → H} {w : World} {base : Nat} {spare : Nat → Bool} {held : Bool}
/-- A dyadic number, opened. -/
theorem open_dyc {n : Nat} {cs : List Value} {x : DataW H × List MemPlace} (hl : cs.length = 3) (h : DataW.trod enc Tryz.prog w base spare held n 40 cs = some x) :
    ∃ (ng : Bool) (a : Option Addr) (len cap : Nat) (ex : Int) (zs : List Nat), cs = [.bool ng, .slice a len cap, .int .i64 ex] ∧ Sl w a len cap zs ∧ (Lit.int .i64 ex).wf = true := by
  obtain ⟨y0, y1, y2, m, _, _, h0, h1, h2⟩ := Deep.trod_struct3 Tryz.underlying40 h
  have c0 : Tryz.prog.cellsOf 4 = 1 := by kernel_rfl
  have c1 : Tryz.prog.cellsOf 38 = 1 := by kernel_rfl
  have c2 : Tryz.prog.cellsOf 3 = 1 := by kernel_rfl
  simp only [c0, c1, c2] at h0 h1 h2
  match cs, hl with
  | [v0, v1, v2], _ =>
    simp only [List.drop_zero, List.drop_succ_cons, List.take_succ_cons, List.take_zero] at h0 h1 h2
    obtain ⟨ng, e0, _⟩ := DataW.trod_bool Tryz.underlying4 h0
    obtain ⟨a, len, cap, e1⟩ := Joins.slice_form Tryz.underlying38 h1
    obtain ⟨ex, e2, _, we⟩ := DataW.trod_int Tryz.underlying3 h2
    simp at e0 e1 e2
    subst e0 e1 e2
    obtain ⟨_, hcl, hcm, hno, zs, hn, hz, ha⟩ := open_ints_rd Tryz.underlying38 Tryz.underlying125 (by kernel_rfl) h1
    exact ⟨ng, a, len, cap, ex, _, rfl, sl_of_ints hn hcl hcm hno hz ha, we⟩
set_option maxRecDepth 100000 in
/-- An interval, opened. -/
theorem open_ivc {n : Nat} {cs : List Value} {x : DataW H × List MemPlace} (hl : cs.length = 7) (h : DataW.trod enc Tryz.prog w base spare held n 42 cs = some x) : ∃ z : IvN, cs = z.cells ∧ InI w z := by
  obtain ⟨y0, y1, y2, m, _, _, h0, h1, h2⟩ := Deep.trod_struct3 Tryz.underlying42 h
  have c0 : Tryz.prog.cellsOf 4 = 1 := by kernel_rfl
  have c1 : Tryz.prog.cellsOf 40 = 3 := by kernel_rfl
  simp only [c0, c1] at h0 h1 h2
  match cs, hl with
  | [v0, v1, v2, v3, v4, v5, v6], _ =>
    simp only [List.drop_zero, List.drop_succ_cons, List.take_succ_cons, List.take_zero] at h0 h1 h2
    obtain ⟨ng, a, len, cap, ex, zs, e1, s1, w1⟩ := open_dyc (by rfl) h0
    obtain ⟨ng', a', len', cap', ex', zs', e2, s2, w2⟩ := open_dyc (by rfl) h1
    obtain ⟨al, e0, _⟩ := DataW.trod_bool Tryz.underlying4 h2
    simp at e0 e1 e2
    obtain ⟨rfl, rfl, rfl⟩ := e1
    obtain ⟨rfl, rfl, rfl⟩ := e2
    subst e0
    exact ⟨⟨ng, a, len, cap, ex, zs, ng', a', len', cap', ex', zs', al⟩, rfl, ⟨s1, s2⟩⟩
set_option maxRecDepth 100000 in
theorem open_rtc {n : Nat} {cs : List Value} {x : DataW H × List MemPlace} (hl : cs.length = 2) (h : DataW.trod enc Tryz.prog w base spare held n 25 cs = some x) :
    ∃ (a b : Int), cs = [.int .i64 a, .int .i64 b] ∧ -9223372036854775808 ≤ a ∧ a ≤ 9223372036854775807 ∧ -9223372036854775808 ≤ b ∧ b ≤ 9223372036854775807 := by
  obtain ⟨xs, n1, _, _, _, hlen, hf⟩ := DataW.trod_struct Tryz.underlying25 h
  have c0 : Tryz.prog.cellsOf 3 = 1 := by kernel_rfl
  match cs, hl, xs, hlen with
  | [v0, v1], _, [y0, y1], _ =>
    have h0 : DataW.trod enc Tryz.prog w base spare held n1 3 [v0] = some y0 := by have := hf 0 _ rfl; simpa [c0] using this
    have h1 : DataW.trod enc Tryz.prog w base spare held n1 3 [v1] = some y1 := by have := hf 1 _ rfl; simpa [c0] using this
    obtain ⟨a, e0, _, q0⟩ := DataW.trod_int Tryz.underlying3 h0
    obtain ⟨b, e1, _, q1⟩ := DataW.trod_int Tryz.underlying3 h1
    simp only [List.cons.injEq, and_true] at e0 e1
    subst e0 e1
    exact ⟨a, b, rfl, (i64_wf q0).1, (i64_wf q0).2, (i64_wf q1).1, (i64_wf q1).2⟩
set_option maxRecDepth 100000 in
theorem open_rgc {n : Nat} {cs : List Value} {x : DataW H × List MemPlace} (hl : cs.length = 4) (h : DataW.trod enc Tryz.prog w base spare held n 36 cs = some x) :
    ∃ (a b c e : Int), cs = [.int .i64 a, .int .i64 b, .int .i64 c, .int .i64 e] ∧ R4 a b c e := by
  obtain ⟨xs, n1, _, _, _, hlen, hf⟩ := DataW.trod_struct Tryz.underlying36 h
  have c0 : Tryz.prog.cellsOf 25 = 2 := by kernel_rfl
  match cs, hl, xs, hlen with
  | [v0, v1, v2, v3], _, [y0, y1], _ =>
    have h0 : DataW.trod enc Tryz.prog w base spare held n1 25 [v0, v1] = some y0 := by have := hf 0 _ rfl; simpa [c0] using this
    have h1 : DataW.trod enc Tryz.prog w base spare held n1 25 [v2, v3] = some y1 := by have := hf 1 _ rfl; simpa [c0] using this
    obtain ⟨a, b, e0, b1, b2, b3, b4⟩ := open_rtc rfl h0
    obtain ⟨c, e, e1, b5, b6, b7, b8⟩ := open_rtc rfl h1
    simp only [List.cons.injEq, and_true] at e0 e1
    obtain ⟨rfl, rfl⟩ := e0
    obtain ⟨rfl, rfl⟩ := e1
    exact ⟨a, b, c, e, rfl, b1, b2, b3, b4, b5, b6, b7, b8⟩
set_option maxRecDepth 100000 in
/-- A list of intervals as an argument, opened. -/
theorem open_ivs {r : Reach} {b0 : Nat} {v : Value} {d : DataW H} {ps : List MemPlace} (hv : Value.okWide Tryz.prog w r b0 37 v) (h : DataW.Trod enc Tryz.prog w base spare held 37 v d ps) :
    ∃ (A : Option Addr) (len cap : Nat) (xs : List IvN), v = .slice A len cap ∧ InB w A len cap xs := by
  obtain ⟨a0, l0, c0, rfl⟩ := okWide_slice Tryz.underlying37 hv
  obtain ⟨fuel, hf⟩ := h
  have hf' : DataW.trod enc Tryz.prog w base spare held fuel 37 [.slice a0 l0 c0] = some (d, ps) := hf
  obtain ⟨A, len, cap, xs, e, h1, h2, h3, h4, h5⟩ := open_rows IvN.cells (fun z => InI w z) (by omega) (fun _ => rfl) Tryz.underlying37 (by kernel_rfl) hf' (fun n cs x _ hl h => open_ivc hl h)
  exact ⟨A, len, cap, xs, e, h1, h2, h3, h4, h5⟩
set_option maxRecDepth 100000 in
/-- A range as an argument, opened. -/
theorem open_rg {r : Reach} {b0 : Nat} {v : Value} {d : DataW H} {ps : List MemPlace} (hv : Value.okWide Tryz.prog w r b0 36 v) (h : DataW.Trod enc Tryz.prog w base spare held 36 v d ps) :
    ∃ (a b c e : Int), v = .agg #[.int .i64 a, .int .i64 b, .int .i64 c, .int .i64 e] ∧ R4 a b c e := by
  obtain ⟨⟨cs⟩, rfl, hsz⟩ := okWide_struct Tryz.underlying36 hv
  have hC : Tryz.prog.cellsOf 36 = 4 := by kernel_rfl
  rw [hC] at hsz
  obtain ⟨fuel, hf⟩ := h
  have hf' : DataW.trod enc Tryz.prog w base spare held fuel 36 cs = some (d, ps) := hf
  obtain ⟨a, b, c, e, e1, k⟩ := open_rgc (by simpa using hsz) hf'
  subst e1
  exact ⟨a, b, c, e, rfl, k⟩
end
end Go.Proofs.YtoogeihbhhcpaaaGreatDoor
