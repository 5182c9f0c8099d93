/-
  From the row's conditions to the walk's: the listed tables, a problem.
-/
import Derived.Test.YtoogeihbhhcpaaaGreatDoorPkM
import Derived.Test.YtoogeihbhhcpaaaGreatDoorFpA
import Derived.Test.YtoogeihbhhcpaaaGreatDoorRows
import Derived.Lib.LaidTab
import Derived.Lib.SmallJoins
import Derived.LaidMore
import Derived.LaidSub
import Derived.LaidHandle
import Derived.MakeChecks
import Derived.Stop.LaidErr
import Derived.ProofKit
import Derived.ChangeOld
import Derived.Below
set_option linter.unusedVariables false
namespace Go.Proofs.YtoogeihbhhcpaaaGreatDoor
open Go.RowKit Go.Fl Go.Fl.Nm Go.Fl.Fm Go.WideShapes Go.ChangeShapes
theorem own : ownKnob Tryz.prog.godebug = none := by kernel_rfl
theorem laidOut : laidOutB Tryz.prog = true := by kernel_rfl
def laid3 : List (String × DataW Unit) := [("math/bits.deBruijn32tab", Rows.laid_math_bits_deBruijn32tab), ("math/bits.deBruijn64tab", Rows.laid_math_bits_deBruijn64tab), ("internal/strconv.uint64pow10", Rows.laid_internal_strconv_uint64pow10)]
theorem door_met (os : Os) (args : Array Value) : laidMetH Tryz.prog laid3 ((World.doorLaid Tryz.prog 400 os).forCall (fun _ _ => 0) ⟨#[], args, []⟩).memory :=
  laidMetH_of_parts3 (fuel := 8) (laidMet_of_run' 8 (by kernel_rfl) (by kernel_rfl)) (by kernel_rfl) (by kernel_rfl)
theorem gT10 : (Tryz.prog.globals[1]?).map (·.type) = some 184 := by kernel_rfl
theorem gT32 : (Tryz.prog.globals[3]?).map (·.type) = some 193 := by kernel_rfl
theorem gT64 : (Tryz.prog.globals[4]?).map (·.type) = some 194 := by kernel_rfl
theorem rb_of_laid {W : World} (h : laidMetH Tryz.prog laid3 W) : RB W := by
  rw [MakeChecks.laidMetH_plain _ _ _ (by kernel_rfl)] at h
  refine ⟨?_, ?_, ?_⟩
  · exact Lib.tabIs_of_head g10 gT10 Tryz.underlying184 Tryz.underlying101 (by kernel_rfl) (by kernel_rfl) h.tail.tail
  · exact Lib.tabIs_of_head g32 gT32 Tryz.underlying193 Tryz.underlying5 (by kernel_rfl) (by kernel_rfl) h
  · exact Lib.tabIs_of_head g64 gT64 Tryz.underlying194 Tryz.underlying5 (by kernel_rfl) (by kernel_rfl) h.tail
instance : Inhabited DcN := ⟨⟨ByteArray.empty, 0, 0, 0, 0⟩⟩
instance : Inhabited EqN := ⟨⟨ByteArray.empty, default, default⟩⟩
instance : Inhabited EdN := ⟨⟨default, default, 0, ByteArray.empty, none, 0, 0, []⟩⟩
instance : Inhabited MdN := ⟨⟨ByteArray.empty, none, 0, 0, [], none, 0, 0, []⟩⟩
section
variable {H : Type} {enc : TypeId × Value → H} {w : World} {base : Nat} {spare : Nat → Bool} {held : Bool}
set_option maxRecDepth 100000 in
theorem open_rtc {n : Nat} {cs : List Value} {x : DataW H × List MemPlace} (hl : cs.length = 2) (h : DataW.trod enc Tryz.prog w base spare held n 25 cs = some x) :
    ∃ (a b : Int), cs = [.int .i64 a, .int .i64 b] ∧ -9223372036854775808 ≤ a ∧ a ≤ 9223372036854775807 ∧ -9223372036854775808 ≤ b ∧ b ≤ 9223372036854775807 := by
  obtain ⟨xs, n1, _, _, _, hlen, hf⟩ := DataW.trod_struct Tryz.underlying25 h
  have c0 : Tryz.prog.cellsOf 3 = 1 := by kernel_rfl
  match cs, hl, xs, hlen with
  | [v0, v1], _, [y0, y1], _ =>
    have h0 : DataW.trod enc Tryz.prog w base spare held n1 3 [v0] = some y0 := by have := hf 0 _ rfl; simpa [c0] using this
    have h1 : DataW.trod enc Tryz.prog w base spare held n1 3 [v1] = some y1 := by have := hf 1 _ rfl; simpa [c0] using this
    obtain ⟨a, e0, _, q0⟩ := DataW.trod_int Tryz.underlying3 h0
    obtain ⟨b, e1, _, q1⟩ := DataW.trod_int Tryz.underlying3 h1
    simp only [List.cons.injEq, and_true] at e0 e1
    subst e0 e1
    exact ⟨a, b, rfl, (i64_wf q0).1, (i64_wf q0).2, (i64_wf q1).1, (i64_wf q1).2⟩
set_option maxRecDepth 100000 in
theorem open_rgc {n : Nat} {cs : List Value} {x : DataW H × List MemPlace} (hl : cs.length = 4) (h : DataW.trod enc Tryz.prog w base spare held n 36 cs = some x) :
    ∃ (a b c e : Int), cs = [.int .i64 a, .int .i64 b, .int .i64 c, .int .i64 e] ∧ R4 a b c e := by
  obtain ⟨xs, n1, _, _, _, hlen, hf⟩ := DataW.trod_struct Tryz.underlying36 h
  have c0 : Tryz.prog.cellsOf 25 = 2 := by kernel_rfl
  match cs, hl, xs, hlen with
  | [v0, v1, v2, v3], _, [y0, y1], _ =>
    have h0 : DataW.trod enc Tryz.prog w base spare held n1 25 [v0, v1] = some y0 := by have := hf 0 _ rfl; simpa [c0] using this
    have h1 : DataW.trod enc Tryz.prog w base spare held n1 25 [v2, v3] = some y1 := by have := hf 1 _ rfl; simpa [c0] using this
    obtain ⟨a, b, e0, b1, b2, b3, b4⟩ := open_rtc rfl h0
    obtain ⟨c, e, e1, b5, b6, b7, b8⟩ := open_rtc rfl h1
    simp only [List.cons.injEq, and_true] at e0 e1
    obtain ⟨rfl, rfl⟩ := e0
    obtain ⟨rfl, rfl⟩ := e1
    exact ⟨a, b, c, e, rfl, b1, b2, b3, b4, b5, b6, b7, b8⟩
set_option maxRecDepth 100000 in
theorem open_dcc {n : Nat} {cs : List Value} {x : DataW H × List MemPlace} (hl : cs.length = 5) (h : DataW.trod enc Tryz.prog w base spare held n 82 cs = some x) : ∃ z : DcN, cs = z.cells ∧ InD w z := by
  obtain ⟨xs, n1, _, _, _, hlen, hf⟩ := DataW.trod_struct Tryz.underlying82 h
  have k0 : Tryz.prog.cellsOf 9 = 1 := by kernel_rfl
  have k1 : Tryz.prog.cellsOf 36 = 4 := by kernel_rfl
  match cs, hl, xs, hlen with
  | [v0, v1, v2, v3, v4], _, [y0, y1], _ =>
    have h0 : DataW.trod enc Tryz.prog w base spare held n1 9 [v0] = some y0 := by have := hf 0 _ rfl; simpa [k0] using this
    have h1 : DataW.trod enc Tryz.prog w base spare held n1 36 [v1, v2, v3, v4] = some y1 := by have := hf 1 _ rfl; simpa [k0, k1] using this
    clear hf
    obtain ⟨s, e0, _, q0⟩ := DataW.trod_string Tryz.underlying9 h0
    obtain ⟨a, b, c, e, e1, k⟩ := open_rgc rfl h1
    simp only [List.cons.injEq, and_true] at e0 e1
    obtain ⟨rfl, rfl, rfl, rfl⟩ := e1
    subst e0
    exact ⟨⟨s, a, b, c, e⟩, rfl, k, q0⟩
set_option maxRecDepth 100000 in
theorem open_eqc {n : Nat} {cs : List Value} {x : DataW H × List MemPlace} (hl : cs.length = 7) (h : DataW.trod enc Tryz.prog w base spare held n 75 cs = some x) : ∃ z : EqN, cs = z.cells ∧ InQ w z := by
  obtain ⟨xs, n1, _, _, _, hlen, hf⟩ := DataW.trod_struct Tryz.underlying75 h
  have k0 : Tryz.prog.cellsOf 9 = 1 := by kernel_rfl
  have k1 : Tryz.prog.cellsOf 51 = 6 := by kernel_rfl
  match cs, hl, xs, hlen with
  | [v0, v1, v2, v3, v4, v5, v6], _, [y0, y1], _ =>
    have h0 : DataW.trod enc Tryz.prog w base spare held n1 9 [v0] = some y0 := by have := hf 0 _ rfl; simpa [k0] using this
    have h1 : DataW.trod enc Tryz.prog w base spare held n1 51 [v1, v2, v3, v4, v5, v6] = some y1 := by have := hf 1 _ rfl; simpa [k0, k1] using this
    clear hf
    obtain ⟨s, e0, _, q0⟩ := DataW.trod_string Tryz.underlying9 h0
    obtain ⟨T, nd, e1, hE⟩ := open_ex _ _ _ rfl h1
    simp only [Nd.cells, List.cons.injEq, and_true] at e0 e1
    obtain ⟨rfl, rfl, rfl, rfl, rfl, rfl⟩ := e1
    subst e0
    exact ⟨⟨s, nd, T⟩, rfl, hE, q0⟩
set_option maxRecDepth 100000 in
theorem open_rsc {n : Nat} {cs : List Value} {x : DataW H × List MemPlace} (hl : cs.length = 7) (h : DataW.trod enc Tryz.prog w base spare held n 83 cs = some x) : ∃ z : EqN, cs = z.cells ∧ InQ w z := by
  obtain ⟨xs, n1, _, _, _, hlen, hf⟩ := DataW.trod_struct Tryz.underlying83 h
  have k0 : Tryz.prog.cellsOf 9 = 1 := by kernel_rfl
  have k1 : Tryz.prog.cellsOf 51 = 6 := by kernel_rfl
  match cs, hl, xs, hlen with
  | [v0, v1, v2, v3, v4, v5, v6], _, [y0, y1], _ =>
    have h0 : DataW.trod enc Tryz.prog w base spare held n1 9 [v0] = some y0 := by have := hf 0 _ rfl; simpa [k0] using this
    have h1 : DataW.trod enc Tryz.prog w base spare held n1 51 [v1, v2, v3, v4, v5, v6] = some y1 := by have := hf 1 _ rfl; simpa [k0, k1] using this
    clear hf
    obtain ⟨s, e0, _, q0⟩ := DataW.trod_string Tryz.underlying9 h0
    obtain ⟨T, nd, e1, hE⟩ := open_ex _ _ _ rfl h1
    simp only [Nd.cells, List.cons.injEq, and_true] at e0 e1
    obtain ⟨rfl, rfl, rfl, rfl, rfl, rfl⟩ := e1
    subst e0
    exact ⟨⟨s, nd, T⟩, rfl, hE, q0⟩
set_option maxRecDepth 100000 in
theorem open_edc {n : Nat} {cs : List Value} {x : DataW H × List MemPlace} (hl : cs.length = 9) (h : DataW.trod enc Tryz.prog w base spare held n 64 cs = some x) : ∃ z : EdN, cs = z.cells ∧ InG w z := by
  obtain ⟨xs, n1, _, _, _, hlen, hf⟩ := DataW.trod_struct Tryz.underlying64 h
  have k0 : Tryz.prog.cellsOf 51 = 6 := by kernel_rfl
  have k1 : Tryz.prog.cellsOf 3 = 1 := by kernel_rfl
  have k2 : Tryz.prog.cellsOf 9 = 1 := by kernel_rfl
  have k3 : Tryz.prog.cellsOf 62 = 1 := by kernel_rfl
  match cs, hl, xs, hlen with
  | [v0, v1, v2, v3, v4, v5, v6, v7, v8], _, [y0, y1, y2, y3], _ =>
    have h0 : DataW.trod enc Tryz.prog w base spare held n1 51 [v0, v1, v2, v3, v4, v5] = some y0 := by have := hf 0 _ rfl; simpa [k0] using this
    have h1 : DataW.trod enc Tryz.prog w base spare held n1 3 [v6] = some y1 := by have := hf 1 _ rfl; simpa [k0, k1] using this
    have h2 : DataW.trod enc Tryz.prog w base spare held n1 9 [v7] = some y2 := by have := hf 2 _ rfl; simpa [k0, k1, k2] using this
    have h3 : DataW.trod enc Tryz.prog w base spare held n1 62 [v8] = some y3 := by have := hf 3 _ rfl; simpa [k0, k1, k2, k3] using this
    clear hf
    obtain ⟨T, nd, e0, hE⟩ := open_ex _ _ _ rfl h0
    obtain ⟨dr, e1, _, q1⟩ := DataW.trod_int Tryz.underlying3 h1
    obtain ⟨s, e2, _, q2⟩ := DataW.trod_string Tryz.underlying9 h2
    obtain ⟨A, len, cap, rs, e3, hl3, hc3, hm3, hr3, hi3⟩ := open_rows EqN.cells (fun z => InQ w z) (by omega) (fun _ => rfl) Tryz.underlying62 (by kernel_rfl) h3 (fun n cs x _ hl h => open_rsc hl h)
    simp only [Nd.cells, List.cons.injEq, and_true] at e0 e1 e2
    obtain ⟨rfl, rfl, rfl, rfl, rfl, rfl⟩ := e0
    subst e1 e2 e3
    exact ⟨⟨nd, T, dr, s, A, len, cap, rs⟩, rfl, hE, (i64_wf q1).1, (i64_wf q1).2, q2, hl3, hc3, hm3, hr3, hi3⟩
set_option maxRecDepth 100000 in
theorem open_mdc {n : Nat} {cs : List Value} {x : DataW H × List MemPlace} (hl : cs.length = 3) (h : DataW.trod enc Tryz.prog w base spare held n 61 cs = some x) : ∃ z : MdN, cs = z.cells ∧ InM w z := by
  obtain ⟨xs, n1, _, _, _, hlen, hf⟩ := DataW.trod_struct Tryz.underlying61 h
  have k0 : Tryz.prog.cellsOf 9 = 1 := by kernel_rfl
  have k1 : Tryz.prog.cellsOf 58 = 1 := by kernel_rfl
  have k2 : Tryz.prog.cellsOf 59 = 1 := by kernel_rfl
  match cs, hl, xs, hlen with
  | [v0, v1, v2], _, [y0, y1, y2], _ =>
    have h0 : DataW.trod enc Tryz.prog w base spare held n1 9 [v0] = some y0 := by have := hf 0 _ rfl; simpa [k0] using this
    have h1 : DataW.trod enc Tryz.prog w base spare held n1 58 [v1] = some y1 := by have := hf 1 _ rfl; simpa [k0, k1] using this
    have h2 : DataW.trod enc Tryz.prog w base spare held n1 59 [v2] = some y2 := by have := hf 2 _ rfl; simpa [k0, k1, k2] using this
    clear hf
    obtain ⟨s, e0, _, q0⟩ := DataW.trod_string Tryz.underlying9 h0
    obtain ⟨A, n, c, fl, e1, hl1, hc1, hm1, hr1, hi1⟩ := open_rows EqN.cells (fun z => InQ w z) (by omega) (fun _ => rfl) Tryz.underlying58 (by kernel_rfl) h1 (fun n cs x _ hl h => open_eqc hl h)
    obtain ⟨B, m, d, ed, e2, hl2, hc2, hm2, hr2, hi2⟩ := open_rows EdN.cells (fun z => InG w z) (by omega) (fun _ => rfl) Tryz.underlying59 (by kernel_rfl) h2 (fun n cs x _ hl h => open_edc hl h)
    simp only [List.cons.injEq, and_true] at e0
    subst e0 e1 e2
    exact ⟨⟨s, A, n, c, fl, B, m, d, ed⟩, rfl, q0, ⟨hl1, hc1, hm1, hr1, hi1⟩, ⟨hl2, hc2, hm2, hr2, hi2⟩⟩
set_option maxRecDepth 100000 in
theorem open_pbc {n : Nat} {cs : List Value} {x : DataW H × List MemPlace} (hl : cs.length = 5) (h : DataW.trod enc Tryz.prog w base spare held n 27 cs = some x) : ∃ z : PbN, cs = z.cells ∧ InP w z := by
  obtain ⟨xs, n1, _, _, _, hlen, hf⟩ := DataW.trod_struct Tryz.underlying27 h
  have k0 : Tryz.prog.cellsOf 22 = 1 := by kernel_rfl
  have k1 : Tryz.prog.cellsOf 23 = 1 := by kernel_rfl
  have k2 : Tryz.prog.cellsOf 25 = 2 := by kernel_rfl
  match cs, hl, xs, hlen with
  | [v0, v1, v2, v3, v4], _, [y0, y1, y2, y3], _ =>
    have h0 : DataW.trod enc Tryz.prog w base spare held n1 22 [v0] = some y0 := by have := hf 0 _ rfl; simpa [k0] using this
    have h1 : DataW.trod enc Tryz.prog w base spare held n1 22 [v1] = some y1 := by have := hf 1 _ rfl; simpa [k0] using this
    have h2 : DataW.trod enc Tryz.prog w base spare held n1 23 [v2] = some y2 := by have := hf 2 _ rfl; simpa [k0, k1] using this
    have h3 : DataW.trod enc Tryz.prog w base spare held n1 25 [v3, v4] = some y3 := by have := hf 3 _ rfl; simpa [k0, k1, k2] using this
    clear hf
    obtain ⟨A, n, c, sT, e0, hl0, hc0, hm0, hr0, hi0⟩ := open_rows DcN.cells (fun z => InD w z) (by omega) (fun _ => rfl) Tryz.underlying22 (by kernel_rfl) h0 (fun n cs x _ hl h => open_dcc hl h)
    obtain ⟨B, m, d, pa, e1, hl1, hc1, hm1, hr1, hi1⟩ := open_rows DcN.cells (fun z => InD w z) (by omega) (fun _ => rfl) Tryz.underlying22 (by kernel_rfl) h1 (fun n cs x _ hl h => open_dcc hl h)
    obtain ⟨C, k, e, ms, e2, hl2, hc2, hm2, hr2, hi2⟩ := open_rows MdN.cells (fun z => InM w z) (by omega) (fun _ => rfl) Tryz.underlying23 (by kernel_rfl) h2 (fun n cs x _ hl h => open_mdc hl h)
    obtain ⟨t, u, e3, b1, b2, b3, b4⟩ := open_rtc rfl h3
    simp only [List.cons.injEq, and_true] at e3
    obtain ⟨rfl, rfl⟩ := e3
    subst e0 e1 e2
    exact ⟨⟨A, n, c, sT, B, m, d, pa, C, k, e, ms, t, u⟩, rfl, ⟨hl0, hc0, hm0, hr0, hi0⟩, ⟨hl1, hc1, hm1, hr1, hi1⟩, ⟨hl2, hc2, hm2, hr2, hi2⟩, b1, b2, b3, b4⟩
set_option maxRecDepth 100000 in
/-- A problem as an argument, opened. -/
theorem open_pb {r : Reach} {b0 : Nat} {v : Value} {d : DataW H} {ps : List MemPlace} (hv : Value.okWide Tryz.prog w r b0 27 v) (h : DataW.Trod enc Tryz.prog w base spare held 27 v d ps) : ∃ x : PbN, v = x.val ∧ InP w x := by
  obtain ⟨⟨cs⟩, rfl, hsz⟩ := okWide_struct Tryz.underlying27 hv
  have hC : Tryz.prog.cellsOf 27 = 5 := by kernel_rfl
  rw [hC] at hsz
  obtain ⟨fuel, hf⟩ := h
  have hf' : DataW.trod enc Tryz.prog w base spare held fuel 27 cs = some (d, ps) := hf
  obtain ⟨x, e1, k⟩ := open_pbc (by simpa using hsz) hf'
  subst e1
  exact ⟨x, rfl, k⟩
end
end Go.Proofs.YtoogeihbhhcpaaaGreatDoor
