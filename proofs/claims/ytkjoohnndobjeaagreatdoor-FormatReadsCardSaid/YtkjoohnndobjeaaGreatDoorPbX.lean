/-
  From the rows' conditions to the walks': problems and ranges as arguments.
-/
import Derived.Test.YtkjoohnndobjeaaGreatDoorQV
import Derived.Test.YtkjoohnndobjeaaGreatDoorQO
set_option linter.unusedVariables false
set_option maxRecDepth 100000
namespace Go.Proofs.YtkjoohnndobjeaaGreatDoor
open Go.RowKit Go.Fl Go.Fl.Nm Go.Fl.Fm Go.WideShapes Go.ChangeShapes
instance : Inhabited DcN := ⟨⟨ByteArray.empty, 0, 0, 0, 0⟩⟩
instance : Inhabited EqN := ⟨⟨ByteArray.empty, default, default⟩⟩
instance : Inhabited EdN := ⟨⟨default, default, 0, ByteArray.empty, none, 0, 0, []⟩⟩
instance : Inhabited MdN := ⟨⟨ByteArray.empty, none, 0, 0, [], none, 0, 0, []⟩⟩
section
variable {H : Type} {enc : TypeId × Value → H} {w : World} {base : Nat} {spare : Nat → Bool} {held : Bool}
theorem open_rtc {n : Nat} {cs : List Value} {x : DataW H × List MemPlace} (hl : cs.length = 2) (h : DataW.trod enc Tryz.prog w base spare held n 26 cs = some x) :
 ∃ (a b : Int), cs = [.int .i64 a, .int .i64 b] ∧ -9223372036854775808 ≤ a ∧ a ≤ 9223372036854775807 ∧ -9223372036854775808 ≤ b ∧ b ≤ 9223372036854775807 := by
 obtain ⟨xs, n1, _, _, _, hlen, hf⟩ := DataW.trod_struct Tryz.underlying26 h
 have c0 : Tryz.prog.cellsOf 3 = 1 := by kernel_rfl
 match cs, hl, xs, hlen with
 | [v0, v1], _, [y0, y1], _ =>
  have h0 : DataW.trod enc Tryz.prog w base spare held n1 3 [v0] = some y0 := by have := hf 0 _ rfl; simpa [c0] using this
  have h1 : DataW.trod enc Tryz.prog w base spare held n1 3 [v1] = some y1 := by have := hf 1 _ rfl; simpa [c0] using this
  obtain ⟨a, e0, _, q0⟩ := DataW.trod_int Tryz.underlying3 h0
  obtain ⟨b, e1, _, q1⟩ := DataW.trod_int Tryz.underlying3 h1
  simp only [List.cons.injEq, and_true] at e0 e1
  subst e0 e1
  exact ⟨a, b, rfl, (i64_wf q0).1, (i64_wf q0).2, (i64_wf q1).1, (i64_wf q1).2⟩
theorem open_rgc {n : Nat} {cs : List Value} {x : DataW H × List MemPlace} (hl : cs.length = 4) (h : DataW.trod enc Tryz.prog w base spare held n 62 cs = some x) :
 ∃ (a b c e : Int), cs = [.int .i64 a, .int .i64 b, .int .i64 c, .int .i64 e] ∧ R4 a b c e := by
 obtain ⟨xs, n1, _, _, _, hlen, hf⟩ := DataW.trod_struct Tryz.underlying62 h
 have c0 : Tryz.prog.cellsOf 26 = 2 := by kernel_rfl
 match cs, hl, xs, hlen with
 | [v0, v1, v2, v3], _, [y0, y1], _ =>
  have h0 : DataW.trod enc Tryz.prog w base spare held n1 26 [v0, v1] = some y0 := by have := hf 0 _ rfl; simpa [c0] using this
  have h1 : DataW.trod enc Tryz.prog w base spare held n1 26 [v2, v3] = some y1 := by have := hf 1 _ rfl; simpa [c0] using this
  obtain ⟨a, b, e0, b1, b2, b3, b4⟩ := open_rtc rfl h0
  obtain ⟨c, e, e1, b5, b6, b7, b8⟩ := open_rtc rfl h1
  simp only [List.cons.injEq, and_true] at e0 e1
  obtain ⟨rfl, rfl⟩ := e0
  obtain ⟨rfl, rfl⟩ := e1
  exact ⟨a, b, c, e, rfl, b1, b2, b3, b4, b5, b6, b7, b8⟩
theorem open_dcc {n : Nat} {cs : List Value} {x : DataW H × List MemPlace} (hl : cs.length = 5) (h : DataW.trod enc Tryz.prog w base spare held n 76 cs = some x) : ∃ z : DcN, cs = z.cells ∧ InD w z := by
 obtain ⟨xs, n1, _, _, _, hlen, hf⟩ := DataW.trod_struct Tryz.underlying76 h
 have k0 : Tryz.prog.cellsOf 9 = 1 := by kernel_rfl
 have k1 : Tryz.prog.cellsOf 62 = 4 := by kernel_rfl
 match cs, hl, xs, hlen with
 | [v0, v1, v2, v3, v4], _, [y0, y1], _ =>
  have h0 : DataW.trod enc Tryz.prog w base spare held n1 9 [v0] = some y0 := by have := hf 0 _ rfl; simpa [k0] using this
  have h1 : DataW.trod enc Tryz.prog w base spare held n1 62 [v1, v2, v3, v4] = some y1 := by have := hf 1 _ rfl; simpa [k0, k1] using this
  clear hf
  obtain ⟨s, e0, _, q0⟩ := DataW.trod_string Tryz.underlying9 h0
  obtain ⟨a, b, c, e, e1, k⟩ := open_rgc rfl h1
  simp only [List.cons.injEq, and_true] at e0 e1
  obtain ⟨rfl, rfl, rfl, rfl⟩ := e1
  subst e0
  exact ⟨⟨s, a, b, c, e⟩, rfl, k, q0⟩
theorem open_eqc {n : Nat} {cs : List Value} {x : DataW H × List MemPlace} (hl : cs.length = 7) (h : DataW.trod enc Tryz.prog w base spare held n 78 cs = some x) : ∃ z : EqN, cs = z.cells ∧ InQ w z := by
 obtain ⟨xs, n1, _, _, _, hlen, hf⟩ := DataW.trod_struct Tryz.underlying78 h
 have k0 : Tryz.prog.cellsOf 9 = 1 := by kernel_rfl
 have k1 : Tryz.prog.cellsOf 29 = 6 := by kernel_rfl
 match cs, hl, xs, hlen with
 | [v0, v1, v2, v3, v4, v5, v6], _, [y0, y1], _ =>
  have h0 : DataW.trod enc Tryz.prog w base spare held n1 9 [v0] = some y0 := by have := hf 0 _ rfl; simpa [k0] using this
  have h1 : DataW.trod enc Tryz.prog w base spare held n1 29 [v1, v2, v3, v4, v5, v6] = some y1 := by have := hf 1 _ rfl; simpa [k0, k1] using this
  clear hf
  obtain ⟨s, e0, _, q0⟩ := DataW.trod_string Tryz.underlying9 h0
  obtain ⟨T, nd, e1, hE⟩ := open_ex _ _ _ rfl h1
  simp only [Nd.cells, List.cons.injEq, and_true] at e0 e1
  obtain ⟨rfl, rfl, rfl, rfl, rfl, rfl⟩ := e1
  subst e0
  exact ⟨⟨s, nd, T⟩, rfl, hE, q0⟩
theorem open_rsc {n : Nat} {cs : List Value} {x : DataW H × List MemPlace} (hl : cs.length = 7) (h : DataW.trod enc Tryz.prog w base spare held n 82 cs = some x) : ∃ z : EqN, cs = z.cells ∧ InQ w z := by
 obtain ⟨xs, n1, _, _, _, hlen, hf⟩ := DataW.trod_struct Tryz.underlying82 h
 have k0 : Tryz.prog.cellsOf 9 = 1 := by kernel_rfl
 have k1 : Tryz.prog.cellsOf 29 = 6 := by kernel_rfl
 match cs, hl, xs, hlen with
 | [v0, v1, v2, v3, v4, v5, v6], _, [y0, y1], _ =>
  have h0 : DataW.trod enc Tryz.prog w base spare held n1 9 [v0] = some y0 := by have := hf 0 _ rfl; simpa [k0] using this
  have h1 : DataW.trod enc Tryz.prog w base spare held n1 29 [v1, v2, v3, v4, v5, v6] = some y1 := by have := hf 1 _ rfl; simpa [k0, k1] using this
  clear hf
  obtain ⟨s, e0, _, q0⟩ := DataW.trod_string Tryz.underlying9 h0
  obtain ⟨T, nd, e1, hE⟩ := open_ex _ _ _ rfl h1
  simp only [Nd.cells, List.cons.injEq, and_true] at e0 e1
  obtain ⟨rfl, rfl, rfl, rfl, rfl, rfl⟩ := e1
  subst e0
  exact ⟨⟨s, nd, T⟩, rfl, hE, q0⟩
theorem open_edc {n : Nat} {cs : List Value} {x : DataW H × List MemPlace} (hl : cs.length = 9) (h : DataW.trod enc Tryz.prog w base spare held n 81 cs = some x) : ∃ z : EdN, cs = z.cells ∧ InG w z := by
 obtain ⟨l, b, _, _, _, m, a⟩ := DataW.trod_struct Tryz.underlying81 h
 have c : Tryz.prog.cellsOf 29 = 6 := by kernel_rfl
 have d : Tryz.prog.cellsOf 3 = 1 := by kernel_rfl
 have f : Tryz.prog.cellsOf 9 = 1 := by kernel_rfl
 have o : Tryz.prog.cellsOf 79 = 1 := by kernel_rfl
 match cs, hl, l, m with
 | [v0, v1, v2, v3, v4, v5, v6, v7, v8], _, [y0, y1, y2, y3], _ =>
  have p : DataW.trod enc Tryz.prog w base spare held b 29 [v0, v1, v2, v3, v4, v5] = some y0 := (by have := a 0 _ rfl; simpa [c] using this); have q : DataW.trod enc Tryz.prog w base spare held b 3 [v6] = some y1 := (by have := a 1 _ rfl; simpa [c, d] using this); have r : DataW.trod enc Tryz.prog w base spare held b 9 [v7] = some y2 := (by have := a 2 _ rfl; simpa [c, d, f] using this); have u : DataW.trod enc Tryz.prog w base spare held b 79 [v8] = some y3 := (by have := a 3 _ rfl; simpa [c, d, f, o] using this); clear a; obtain ⟨T, v, g, y⟩ := open_ex _ _ _ rfl p; obtain ⟨B, i, _, j⟩ := DataW.trod_int Tryz.underlying3 q; obtain ⟨s, k, _, C⟩ := DataW.trod_string Tryz.underlying9 r; obtain ⟨A, D, E, F, G, I, J, L, M, N⟩ := open_rows EqN.cells (fun z => InQ w z) (by omega) (fun _ => rfl) Tryz.underlying79 (by kernel_rfl) u (fun n cs x _ hl h => open_rsc hl h); simp only [Nd.cells, List.cons.injEq, and_true] at g i k; obtain ⟨rfl, rfl, rfl, rfl, rfl, rfl⟩ := g; subst i k G
  exact ⟨⟨v, T, B, s, A, D, E, F⟩, rfl, y, (i64_wf j).1, (i64_wf j).2, C, I, J, L, M, N⟩
theorem open_mdc {n : Nat} {cs : List Value} {x : DataW H × List MemPlace} (hl : cs.length = 3) (h : DataW.trod enc Tryz.prog w base spare held n 74 cs = some x) : ∃ z : MdN, cs = z.cells ∧ InM w z := by
 obtain ⟨j, b, _, _, _, k, a⟩ := DataW.trod_struct Tryz.underlying74 h
 have f : Tryz.prog.cellsOf 9 = 1 := by kernel_rfl
 have g : Tryz.prog.cellsOf 71 = 1 := by kernel_rfl
 have l : Tryz.prog.cellsOf 72 = 1 := by kernel_rfl
 match cs, hl, j, k with
 | [v0, v1, v2], _, [y0, y1, y2], _ =>
  have o : DataW.trod enc Tryz.prog w base spare held b 9 [v0] = some y0 := (by have := a 0 _ rfl; simpa [f] using this); have p : DataW.trod enc Tryz.prog w base spare held b 71 [v1] = some y1 := (by have := a 1 _ rfl; simpa [f, g] using this); have q : DataW.trod enc Tryz.prog w base spare held b 72 [v2] = some y2 := (by have := a 2 _ rfl; simpa [f, g, l] using this); clear a; obtain ⟨s, i, _, r⟩ := DataW.trod_string Tryz.underlying9 o; obtain ⟨A, n, c, u, v, y, C, D, E, F⟩ := open_rows EqN.cells (fun z => InQ w z) (by omega) (fun _ => rfl) Tryz.underlying71 (by kernel_rfl) p (fun n cs x _ hl h => open_eqc hl h); obtain ⟨B, m, d, G, I, J, L, M, N, O⟩ := open_rows EdN.cells (fun z => InG w z) (by omega) (fun _ => rfl) Tryz.underlying72 (by kernel_rfl) q (fun n cs x _ hl h => open_edc hl h); simp only [List.cons.injEq, and_true] at i; subst i v I
  exact ⟨⟨s, A, n, c, u, B, m, d, G⟩, rfl, r, ⟨y, C, D, E, F⟩, ⟨J, L, M, N, O⟩⟩
theorem open_pbc {n : Nat} {cs : List Value} {x : DataW H × List MemPlace} (hl : cs.length = 5) (h : DataW.trod enc Tryz.prog w base spare held n 68 cs = some x) : ∃ z : PbN, cs = z.cells ∧ InP w z := by
 obtain ⟨j, b, _, _, _, l, a⟩ := DataW.trod_struct Tryz.underlying68 h
 have f : Tryz.prog.cellsOf 65 = 1 := by kernel_rfl
 have g : Tryz.prog.cellsOf 66 = 1 := by kernel_rfl
 have o : Tryz.prog.cellsOf 26 = 2 := by kernel_rfl
 match cs, hl, j, l with
 | [v0, v1, v2, v3, v4], _, [y0, y1, y2, y3], _ =>
  have p : DataW.trod enc Tryz.prog w base spare held b 65 [v0] = some y0 := (by have := a 0 _ rfl; simpa [f] using this); have q : DataW.trod enc Tryz.prog w base spare held b 65 [v1] = some y1 := (by have := a 1 _ rfl; simpa [f] using this); have r : DataW.trod enc Tryz.prog w base spare held b 66 [v2] = some y2 := (by have := a 2 _ rfl; simpa [f, g] using this); have s : DataW.trod enc Tryz.prog w base spare held b 26 [v3, v4] = some y3 := (by have := a 3 _ rfl; simpa [f, g, o] using this); clear a; obtain ⟨A, n, c, v, y, D, E, F, G, I⟩ := open_rows DcN.cells (fun z => InD w z) (by omega) (fun _ => rfl) Tryz.underlying65 (by kernel_rfl) p (fun n cs x _ hl h => open_dcc hl h); obtain ⟨B, m, d, J, L, M, N, O, P, Q⟩ := open_rows DcN.cells (fun z => InD w z) (by omega) (fun _ => rfl) Tryz.underlying65 (by kernel_rfl) q (fun n cs x _ hl h => open_dcc hl h); obtain ⟨C, k, e, R, S, T, U, V, W, X⟩ := open_rows MdN.cells (fun z => InM w z) (by omega) (fun _ => rfl) Tryz.underlying66 (by kernel_rfl) r (fun n cs x _ hl h => open_mdc hl h); obtain ⟨t, u, i, Y, Z, b3, b4⟩ := open_rtc rfl s; simp only [List.cons.injEq, and_true] at i; obtain ⟨rfl, rfl⟩ := i; subst y L S
  exact ⟨⟨A, n, c, v, B, m, d, J, C, k, e, R, t, u⟩, rfl, ⟨D, E, F, G, I⟩, ⟨M, N, O, P, Q⟩, ⟨T, U, V, W, X⟩, Y, Z, b3, b4⟩
/-- A problem as an argument, opened. -/
theorem open_pb {r : Reach} {b0 : Nat} {v : Value} {d : DataW H} {ps : List MemPlace} (hv : Value.okWide Tryz.prog w r b0 68 v) (h : DataW.Trod enc Tryz.prog w base spare held 68 v d ps) : ∃ x : PbN, v = x.val ∧ InP w x := by
 obtain ⟨⟨cs⟩, rfl, hsz⟩ := okWide_struct Tryz.underlying68 hv
 have hC : Tryz.prog.cellsOf 68 = 5 := by kernel_rfl
 rw [hC] at hsz
 obtain ⟨fuel, hf⟩ := h
 have hf' : DataW.trod enc Tryz.prog w base spare held fuel 68 cs = some (d, ps) := hf
 obtain ⟨x, e1, k⟩ := open_pbc (by simpa using hsz) hf'
 subst e1
 exact ⟨x, rfl, k⟩
/-- A range as an argument, opened. -/
theorem open_rgv {r : Reach} {b0 : Nat} {v : Value} {d : DataW H} {ps : List MemPlace} (hv : Value.okWide Tryz.prog w r b0 62 v) (h : DataW.Trod enc Tryz.prog w base spare held 62 v d ps) : ∃ a b c e : Int, v = .agg #[.int .i64 a, .int .i64 b, .int .i64 c, .int .i64 e] ∧ R4 a b c e := by
 obtain ⟨⟨cs⟩, rfl, hsz⟩ := okWide_struct Tryz.underlying62 hv
 have hC : Tryz.prog.cellsOf 62 = 4 := by kernel_rfl
 rw [hC] at hsz
 obtain ⟨fuel, hf⟩ := h
 have hf' : DataW.trod enc Tryz.prog w base spare held fuel 62 cs = some (d, ps) := hf
 obtain ⟨a, b, c, e, e1, k⟩ := open_rgc (by simpa using hsz) hf'
 subst e1
 exact ⟨a, b, c, e, rfl, k⟩
end
end Go.Proofs.YtkjoohnndobjeaaGreatDoor
