/-
  An expression as an argument, opened.
  A slice of structs as an argument, opened: for any type of elements.
-/
import Derived.Test.YtoogeihbhhcpaaaGreatDoorPkP
import Derived.Test.YtoogeihbhhcpaaaGreatDoorFmB
import Derived.ChangeSlices
import Derived.ChangeArms
import Derived.Deep.Slices
import Derived.Deep.Strs
import Derived.WideKeyArgs
set_option linter.unusedVariables false
namespace Go.Proofs.YtoogeihbhhcpaaaGreatDoor
open Go.RowKit Go.Fl Go.Fl.Fm Go.ChangeShapes Go.WideShapes
section
variable {H : Type} {enc : TypeId × Value → H} {w : World} {base : Nat} {spare : Nat → Bool} {held : Bool}
theorem i64_wf {a : Int} (h : (Lit.int .i64 a).wf = true) : -9223372036854775808 ≤ a ∧ a ≤ 9223372036854775807 := by
  simp [Lit.wf, IntKind.min, IntKind.max, IntKind.signed, IntKind.bits] at h
  omega
theorem choose2 {α β : Type} [Inhabited α] [Inhabited β] {n : Nat} {p : Nat → α → β → Prop} (h : ∀ i, i < n → ∃ x y, p i x y) : ∃ (f : Nat → α) (g : Nat → β), ∀ i, i < n → p i (f i) (g i) := by
  obtain ⟨f, hf⟩ := Deep.choose_lt (α := α × β) (p := fun i x => p i x.1 x.2) (fun i hi => by
    obtain ⟨x, y, h1⟩ := h i hi
    exact ⟨(x, y), h1⟩)
  exact ⟨fun i => (f i).1, fun i => (f i).2, hf⟩
instance : Inhabited Nd := ⟨⟨⟨0, 0, 0, ByteArray.empty, 0⟩, none, 0, 0⟩⟩
theorem nds_len (l : List Nd) : (ndsCells l).length = l.length * 6 := by
  induction l with
  | nil => rfl
  | cons x l ih =>
    show (x.cells ++ ndsCells l).length = _
    rw [List.length_append, ih, List.length_cons]
    show 6 + _ = _
    omega
set_option maxRecDepth 100000 in
theorem open_ex : ∀ (fuel : Nat) (cs : List Value) (x : DataW H × List MemPlace), cs.length = 6 → DataW.trod enc Tryz.prog w base spare held fuel 51 cs = some x → ∃ T nd, cs = Nd.cells nd ∧ InE w T nd := by
  intro fuel
  induction fuel using Nat.strongRecOn with
  | _ fuel ih =>
    intro cs x hl h
    obtain ⟨xs, n, hfu, rfl, _, hlen, hf⟩ := DataW.trod_struct Tryz.underlying51 h
    have c0 : Tryz.prog.cellsOf 3 = 1 := by kernel_rfl
    have c1 : Tryz.prog.cellsOf 25 = 2 := by kernel_rfl
    have c2 : Tryz.prog.cellsOf 9 = 1 := by kernel_rfl
    have c4 : Tryz.prog.cellsOf 49 = 1 := by kernel_rfl
    have c6 : Tryz.prog.cellsOf 51 = 6 := by kernel_rfl
    match cs, hl, xs, hlen with
    | [v0, v1, v2, v3, v4, v5], _, [y0, y1, y2, y3, y4], _ =>
      have h0 : DataW.trod enc Tryz.prog w base spare held n 3 [v0] = some y0 := by have := hf 0 _ rfl; simpa [c0] using this
      have h1 : DataW.trod enc Tryz.prog w base spare held n 25 [v1, v2] = some y1 := by have := hf 1 _ rfl; simpa [c1] using this
      have h2 : DataW.trod enc Tryz.prog w base spare held n 9 [v3] = some y2 := by have := hf 2 _ rfl; simpa [c2] using this
      have h3 : DataW.trod enc Tryz.prog w base spare held n 3 [v4] = some y3 := by have := hf 3 _ rfl; simpa [c0] using this
      have h4 : DataW.trod enc Tryz.prog w base spare held n 49 [v5] = some y4 := by have := hf 4 _ rfl; simpa [c4] using this
      clear hf
      obtain ⟨kd, e0, _, q0⟩ := DataW.trod_int Tryz.underlying3 h0
      obtain ⟨k, e3, _, q3⟩ := DataW.trod_int Tryz.underlying3 h3
      obtain ⟨nm, e2, _, q2⟩ := DataW.trod_string Tryz.underlying9 h2
      obtain ⟨xs1, n1, _, _, _, hlen1, hf1⟩ := DataW.trod_struct Tryz.underlying25 h1
      match xs1, hlen1 with
      | [z0, z1], _ =>
        have g0 : DataW.trod enc Tryz.prog w base spare held n1 3 [v1] = some z0 := by have := hf1 0 _ rfl; simpa [c0] using this
        have g1 : DataW.trod enc Tryz.prog w base spare held n1 3 [v2] = some z1 := by have := hf1 1 _ rfl; simpa [c0] using this
        obtain ⟨nn, e4, _, q4⟩ := DataW.trod_int Tryz.underlying3 g0
        obtain ⟨dd, e5, _, q5⟩ := DataW.trod_int Tryz.underlying3 g1
        simp only [List.cons.injEq, and_true] at e0 e2 e3 e4 e5
        subst e0 e2 e3 e4 e5
        have b0 := i64_wf q0
        have b3 := i64_wf q3
        have b4 := i64_wf q4
        have b5 := i64_wf q5
        have ok : HdOk ⟨kd, nn, dd, nm, k⟩ := ⟨b0.1, b0.2, b4.1, b4.2, b5.1, b5.2, b3.1, b3.2, q2⟩
        rcases DataW.trod_slice Tryz.underlying49 h4 with ⟨e6, _⟩ | ⟨a, len, cap, elems, rest, n2, hn2, e6, _, hb, hlc, hcm, hle, hel, _⟩
        · simp only [List.cons.injEq, and_true] at e6
          subst e6
          exact ⟨.mk ⟨kd, nn, dd, nm, k⟩ [], ⟨⟨kd, nn, dd, nm, k⟩, none, 0, 0⟩, rfl, .mk _ _ _ _ _ [] ok rfl (Nat.le_refl _) (Nat.zero_le _) rfl (Rd.none_ _ _) (fun i T v h => by cases h)⟩
        · simp only [List.cons.injEq, and_true] at e6
          subst e6
          rw [c6] at hel
          obtain ⟨fT, fN, hfn⟩ := choose2 (n := len) (p := fun i (T : TE) (nd : Nd) => w.cells? base (a.add (i * 6)) 6 = some nd.cells ∧ InE w T nd) (fun i hi => by
            have h := hel i hi
            rw [List.getElem?_eq_getElem (by omega)] at h
            cases hc : w.cells? base (a.add (i * 6)) 6 with
            | none => rw [hc] at h; cases h
            | some cs' =>
              rw [hc] at h
              obtain ⟨T, nd, e1, e2⟩ := ih n2 (by omega) cs' _ (World.cells?_some hc).2.1 h
              exact ⟨T, nd, by rw [e1], e2⟩)
          refine ⟨.mk ⟨kd, nn, dd, nm, k⟩ ((List.range len).map fT), ⟨⟨kd, nn, dd, nm, k⟩, some a, len, cap⟩, rfl, .mk _ _ _ _ _ ((List.range len).map fN) ok (by simp) hlc hcm (by simp) ⟨?_, fun hn => ?_⟩ (fun i T v h1 h2 => ?_)⟩
          · rw [nds_len]; simp
          · obtain ⟨b, off, spot⟩ := a
            have hcell := fun i hi => (World.cells?_some (hfn i hi).1).2.2
            have h00 := hcell 0 hn 0 (by omega)
            have hspot : spot = none := by
              have h01 : w.cell? (((⟨b, off, spot⟩ : Addr).add (0 * 6)).add 0) = some (.int .i64 (fN 0).h.kind) := h00
              simpa [Addr.add] using World.cell?_spot h01
            subst hspot
            refine ⟨b, off, rfl, ?_, fun j u hu => ?_⟩
            · have h01 : w.cell? (((⟨b, off, none⟩ : Addr).add (0 * 6)).add 0) = some (.int .i64 (fN 0).h.kind) := h00
              exact World.block_lt_of_cell? _ _ h01
            · have hj : j < len * 6 := by
                have := (List.getElem?_eq_some_iff.1 hu).1
                rw [nds_len] at this
                simpa using this
              have hi : j / 6 < len := by omega
              have hr : j % 6 < 6 := by omega
              have hv : ((List.range len).map fN)[j / 6]? = some (fN (j / 6)) := by simp [hi]
              have h1 := nds_at _ (j / 6) _ hv (j % 6) hr
              rw [show j / 6 * 6 + j % 6 = j by omega, hu] at h1
              have h2 := hcell (j / 6) hi (j % 6) hr
              rw [← h1] at h2
              rw [show off + j = off + (j / 6 * 6) + j % 6 by omega]
              rw [add_plain, add_plain] at h2
              exact h2
          · rw [List.getElem?_map] at h1 h2
            cases hg : (List.range len)[i]? with
            | none => rw [hg] at h1; cases h1
            | some i' =>
              rw [hg] at h1 h2
              have hi' : i' = i ∧ i < len := by
                have := List.getElem?_eq_some_iff.1 hg
                obtain ⟨h3, h4⟩ := this
                simp at h3 h4
                exact ⟨h4.symm, h3⟩
              injection h1 with h1
              injection h2 with h2
              rw [← h1, ← h2, hi'.1]
              exact (hfn i hi'.2).2
end
end Go.Proofs.YtoogeihbhhcpaaaGreatDoor
namespace Go.Proofs.YtoogeihbhhcpaaaGreatDoor
open Go.RowKit Go.Fl Go.ChangeShapes Go.WideShapes
section
variable {H : Type} {enc : TypeId × Value → H} {w : World} {base : Nat} {spare : Nat → Bool} {held : Bool}
theorem rows_len {Z : Type} {m : Nat} (cells : Z → List Value) (hlen : ∀ z, (cells z).length = m) (l : List Z) : (l.flatMap cells).length = l.length * m := by
  induction l with
  | nil => simp
  | cons x l ih => rw [List.flatMap_cons, List.length_append, ih, hlen, List.length_cons, Nat.succ_mul]; omega
theorem rows_at {Z : Type} {m : Nat} (cells : Z → List Value) (hlen : ∀ z, (cells z).length = m) (l : List Z) (k : Nat) (v : Z) (h : l[k]? = some v) (j : Nat) (hj : j < m) : (l.flatMap cells)[k * m + j]? = (cells v)[j]? := by
  induction l generalizing k with
  | nil => cases h
  | cons x l ih =>
    rw [List.flatMap_cons]
    cases k with
    | zero =>
      have : x = v := by simpa using h
      subst this
      rw [Nat.zero_mul, Nat.zero_add, List.getElem?_append_left (by rw [hlen]; exact hj)]
    | succ k =>
      have h' : l[k]? = some v := by simpa using h
      rw [List.getElem?_append_right (by rw [hlen, Nat.succ_mul]; omega), hlen, show (k + 1) * m + j - m = k * m + j by rw [Nat.succ_mul]; omega]
      exact ih k h'
theorem open_rows {Z : Type} [Inhabited Z] {E tS : TypeId} {m : Nat} (cells : Z → List Value) (Pw : Z → Prop) (hm : 0 < m) (hlen : ∀ z, (cells z).length = m) (ht : Tryz.prog.underlying tS = some (.slice E)) (hc : Tryz.prog.cellsOf E = m)
    {fuel : Nat} {v : Value} {y : DataW H × List MemPlace} (h : DataW.trod enc Tryz.prog w base spare held fuel tS [v] = some y)
    (hE : ∀ (n : Nat) (cs : List Value) (x : DataW H × List MemPlace), n < fuel → cs.length = m → DataW.trod enc Tryz.prog w base spare held n E cs = some x → ∃ z, cs = cells z ∧ Pw z) :
    ∃ (A : Option Addr) (len cap : Nat) (zs : List Z), v = .slice A len cap ∧ zs.length = len ∧ len ≤ cap ∧ cap ≤ maxLen ∧ Rd w m A len (zs.flatMap cells) ∧ ∀ z ∈ zs, Pw z := by
  rcases DataW.trod_slice ht h with ⟨e6, _⟩ | ⟨a, len, cap, elems, rest, n2, hn2, e6, _, hb, hlc, hcm, hle, hel, _⟩
  · simp only [List.cons.injEq, and_true] at e6
    subst e6
    exact ⟨none, 0, 0, [], rfl, rfl, Nat.le_refl _, Nat.zero_le _, Rd.none_ _ _, fun z hz => by cases hz⟩
  · simp only [List.cons.injEq, and_true] at e6
    subst e6
    rw [hc] at hel
    obtain ⟨f, hfn⟩ := Deep.choose_lt (n := len) (p := fun i (z : Z) => w.cells? base (a.add (i * m)) m = some (cells z) ∧ Pw z) (fun i hi => by
      have h := hel i hi
      rw [List.getElem?_eq_getElem (by omega)] at h
      cases hc' : w.cells? base (a.add (i * m)) m with
      | none => rw [hc'] at h; cases h
      | some cs' =>
        rw [hc'] at h
        obtain ⟨z, e1, e2⟩ := hE n2 cs' _ (by omega) (World.cells?_some hc').2.1 h
        exact ⟨z, by rw [e1], e2⟩)
    refine ⟨some a, len, cap, (List.range len).map f, rfl, by simp, hlc, hcm, ⟨?_, fun hn => ?_⟩, fun z hz => ?_⟩
    · rw [rows_len cells hlen]; simp
    · obtain ⟨b, off, spot⟩ := a
      have hcell := fun i hi => (World.cells?_some (hfn i hi).1).2.2
      obtain ⟨u0, hu0⟩ : ∃ u, (cells (f 0))[0]? = some u := ⟨_, List.getElem?_eq_getElem (by rw [hlen]; exact hm)⟩
      have h00 := hcell 0 hn 0 hm
      rw [hu0] at h00
      have hspot : spot = none := by simpa [Addr.add] using World.cell?_spot h00
      subst hspot
      have hlt : b < w.heap.size := by simpa [Addr.add] using World.block_lt_of_cell? _ _ h00
      refine ⟨b, off, rfl, hlt, fun j u hu => ?_⟩
      have hj : j < len * m := by
        have := (List.getElem?_eq_some_iff.1 hu).1
        rw [rows_len cells hlen] at this
        simpa using this
      have hi : j / m < len := Nat.div_lt_of_lt_mul (by rw [Nat.mul_comm]; exact hj)
      have hr : j % m < m := Nat.mod_lt _ hm
      have hjm : j / m * m + j % m = j := by rw [Nat.mul_comm]; exact Nat.div_add_mod j m
      have hv : ((List.range len).map f)[j / m]? = some (f (j / m)) := by simp [hi]
      have h1 := rows_at cells hlen _ (j / m) _ hv (j % m) hr
      rw [hjm, hu] at h1
      have h2 := hcell (j / m) hi (j % m) hr
      rw [← h1] at h2
      rw [show off + j = off + (j / m * m) + j % m by omega]
      rw [add_plain, add_plain] at h2
      exact h2
    · obtain ⟨i, hi, rfl⟩ := List.mem_map.1 hz
      exact (hfn i (List.mem_range.1 hi)).2
end
end Go.Proofs.YtoogeihbhhcpaaaGreatDoor
