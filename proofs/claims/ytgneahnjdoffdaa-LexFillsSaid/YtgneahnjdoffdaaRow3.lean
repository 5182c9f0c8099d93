/-
  An argument that is a slice of tokens, opened to cells. Of no program.
-/
import Derived.Test.YtgneahnjdoffdaaLexV
import Derived.Deep.Slices
import Derived.Deep.Fields
import Derived.ChangeSame
import Derived.ChangeOld
namespace Go.Fl
open Go.ChangeShapes Go.WideShapes Go.Deep Go.RowKit Go.Proofs.Ytgneahnjdoffdaa

section
variable {H : Type} {enc : TypeId × Value → H} {P : Program} {w : World} {base : Nat} {spare : Nat → Bool} {held : Bool}

theorem rd_of_cells (a : Addr) (len : Nat) (ts : List TI) (hn : ts.length = len)
    (hc : ∀ i t, ts[i]? = some t → ∀ j, j < 4 → w.cell? (a.add (i * 4 + j)) = t.cells[j]?) : Rd w 4 (some a) len (tiCells ts) := by
  have hlen : (tiCells ts).length = len * 4 := by
    rw [← hn]
    clear hc hn
    induction ts with
    | nil => rfl
    | cons t ts ih => rw [show tiCells (t :: ts) = t.cells ++ tiCells ts from rfl, List.length_append, ih]; simp [TI.cells]; omega
  refine ⟨hlen, fun h0 => ?_⟩
  obtain ⟨t0, ht0⟩ : ∃ t, ts[0]? = some t := ⟨_, List.getElem?_eq_getElem (by omega)⟩
  have h00 := hc 0 t0 ht0 0 (by omega)
  have hspot : a.spot = none ∧ a.block < w.heap.size := by
    simp only [Nat.zero_mul, Nat.add_zero, Addr.add, if_pos] at h00
    unfold World.cell? at h00
    simp only [TI.cells, List.getElem?_cons_zero] at h00
    split at h00
    · rename_i c e f hh
      refine ⟨?_, (Array.getElem?_eq_some_iff.1 hh).1⟩
      split at h00
      · cases h00
      · rename_i hs
        simpa using hs
    · cases h00
  obtain ⟨b, off, sp⟩ := a
  obtain ⟨rfl, hb⟩ : sp = none ∧ b < w.heap.size := hspot
  refine ⟨b, off, rfl, hb, fun j u hu => ?_⟩
  have hj : j < ts.length * 4 := by
    have := (List.getElem?_eq_some_iff.1 hu).1
    rw [hlen] at this
    omega
  obtain ⟨t, ht⟩ : ∃ t, ts[j / 4]? = some t := ⟨_, List.getElem?_eq_getElem (by omega)⟩
  have h1 := hc (j / 4) t ht (j % 4) (by omega)
  have h2 := ti_at ts (j / 4) t ht (j % 4) (by omega)
  rw [show j / 4 * 4 + j % 4 = j by omega] at h1 h2
  rw [Addr.add_lit] at h1
  rw [h1, ← h2, hu]

theorem open_tok {e : TypeId} {n : Nat} {cs : List Value} {x : DataW H × List MemPlace} {fs gs : Array Field} {f0 f1 f2 g0 g1 : Field}
    (he : P.underlying e = some (.struct fs)) (hfs : fs = #[f0, f1, f2]) (ho0 : f0.offset = 0 ∧ P.cellsOf f0.type = 1 ∧ P.underlying f0.type = some (.int .i64)) (ho1 : f1.offset = 1 ∧ P.cellsOf f1.type = 1 ∧ P.underlying f1.type = some .string)
    (ho2 : f2.offset = 2 ∧ P.cellsOf f2.type = 2 ∧ P.underlying f2.type = some (.struct gs)) (hgs : gs = #[g0, g1]) (hg0 : g0.offset = 0 ∧ P.cellsOf g0.type = 1 ∧ P.underlying g0.type = some (.int .i64)) (hg1 : g1.offset = 1 ∧ P.cellsOf g1.type = 1 ∧ P.underlying g1.type = some (.int .i64))
    (hl : cs.length = 4) (h : DataW.trod enc P w base spare held n e cs = some x) : ∃ t : TI, t.text.length ≤ maxLen ∧ cs = t.cells := by
  subst hfs hgs
  obtain ⟨xs, m, _, _, _, hxl, hf⟩ := DataW.trod_struct he h
  match cs, hl with
  | [c0, c1, c2, c3], _ =>
    have h0 := hf 0 f0 rfl
    have h1 := hf 1 f1 rfl
    have h2 := hf 2 f2 rfl
    rw [ho0.1, ho0.2.1, List.getElem?_eq_getElem (by rw [hxl]; simp)] at h0
    rw [ho1.1, ho1.2.1, List.getElem?_eq_getElem (by rw [hxl]; simp)] at h1
    rw [ho2.1, ho2.2.1, List.getElem?_eq_getElem (by rw [hxl]; simp)] at h2
    obtain ⟨k, hk, _⟩ := DataW.trod_int ho0.2.2 h0
    obtain ⟨s, hs, _, hsz⟩ := DataW.trod_string ho1.2.2 h1
    obtain ⟨ys, m2, _, _, _, hyl, hg⟩ := DataW.trod_struct ho2.2.2 h2
    have h3 := hg 0 g0 rfl
    have h4 := hg 1 g1 rfl
    rw [hg0.1, hg0.2.1, List.getElem?_eq_getElem (by rw [hyl]; simp)] at h3
    rw [hg1.1, hg1.2.1, List.getElem?_eq_getElem (by rw [hyl]; simp)] at h4
    obtain ⟨l, hl, _⟩ := DataW.trod_int hg0.2.2 h3
    obtain ⟨c, hc, _⟩ := DataW.trod_int hg1.2.2 h4
    simp at hk hs hl hc
    subst hk hs hl hc
    exact ⟨⟨k, s.data.toList, l, c⟩, by rw [length_data]; exact hsz, rfl⟩

theorem open_toks {t e : TypeId} {fuel : Nat} {a : Option Addr} {len cap : Nat} {x : DataW H × List MemPlace} {fs gs : Array Field} {f0 f1 f2 g0 g1 : Field} (ht : P.underlying t = some (.slice e)) (hC : P.cellsOf e = 4)
    (he : P.underlying e = some (.struct fs)) (hfs : fs = #[f0, f1, f2]) (ho0 : f0.offset = 0 ∧ P.cellsOf f0.type = 1 ∧ P.underlying f0.type = some (.int .i64)) (ho1 : f1.offset = 1 ∧ P.cellsOf f1.type = 1 ∧ P.underlying f1.type = some .string)
    (ho2 : f2.offset = 2 ∧ P.cellsOf f2.type = 2 ∧ P.underlying f2.type = some (.struct gs)) (hgs : gs = #[g0, g1]) (hg0 : g0.offset = 0 ∧ P.cellsOf g0.type = 1 ∧ P.underlying g0.type = some (.int .i64)) (hg1 : g1.offset = 1 ∧ P.cellsOf g1.type = 1 ∧ P.underlying g1.type = some (.int .i64))
    (h : DataW.trod enc P w base spare held fuel t [.slice a len cap] = some x) :
    len ≤ maxLen ∧ ∃ ts : List TI, ts.length = len ∧ (∀ t ∈ ts, t.text.length ≤ maxLen) ∧ Rd w 4 a len (tiCells ts) := by
  rcases open_slice ht h with ⟨hcs, _⟩ | ⟨ad, l, c, m, n, D, Pl, hcs, hb, hl, hm, hmm, hx, hi⟩
  · injection hcs with hcs
    injection hcs with h1 h2 h3
    subst h1 h2 h3
    exact ⟨by omega, [], rfl, by simp, Rd.none_ _ _⟩
  · injection hcs with hcs
    injection hcs with h1 h2 h3
    subst h1 h2 h3
    refine ⟨by omega, ?_⟩
    have hlm : len ≤ m := by rw [hmm]; split <;> omega
    have hall : ∀ i : Nat, ∃ T : TI, i < len → T.text.length ≤ maxLen ∧ ∀ j, j < 4 → w.cell? (ad.add (i * 4 + j)) = T.cells[j]? := by
      intro i
      by_cases hil : i < len
      · obtain ⟨cs', hc, ht'⟩ := hi i (by omega)
        rw [hC] at hc
        obtain ⟨_, hcl, hat⟩ := World.cells?_some hc
        obtain ⟨T, hT, rfl⟩ := open_tok he hfs ho0 ho1 ho2 hgs hg0 hg1 hcl ht'
        refine ⟨T, fun _ => ⟨hT, fun j hj => ?_⟩⟩
        rw [← hat j hj, add_add]
      · exact ⟨⟨0, [], 0, 0⟩, fun h => absurd h hil⟩
    obtain ⟨f, hf⟩ := Classical.axiomOfChoice hall
    refine ⟨(List.range len).map f, by simp, ?_, rd_of_cells ad len _ (by simp) ?_⟩
    · intro t ht
      obtain ⟨i, hi, rfl⟩ := List.mem_map.1 ht
      exact (hf i (by simpa using hi)).1
    · intro i t ht j hj
      rw [List.getElem?_map] at ht
      by_cases hil : i < len
      · rw [List.getElem?_range hil] at ht
        injection ht with ht
        subst ht
        exact (hf i hil).2 j hj
      · rw [List.getElem?_eq_none (by simpa using hil)] at ht
        cases ht
end
end Go.Fl
