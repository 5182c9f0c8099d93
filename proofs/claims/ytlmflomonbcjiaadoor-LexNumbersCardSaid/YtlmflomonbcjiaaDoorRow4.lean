/-
  An argument that is a slice of integers, opened to a list. Of no program.
-/
import Derived.Test.YtlmflomonbcjiaaDoorRow
import Derived.ChangeSlices
import Derived.ChangeSame
import Derived.ChangeOld
namespace Go.Fl
open Go.ChangeShapes Go.WideShapes Go.RowKit

section
variable {H : Type} {enc : TypeId × Value → H} {P : Program} {w : World} {base : Nat} {spare : Nat → Bool} {held : Bool}

theorem open_ints_rd {t e : TypeId} {k : IntKind} {fuel : Nat} {a : Option Addr} {len cap : Nat} {x : DataW H × List MemPlace} (ht : P.underlying t = some (.slice e)) (he : P.underlying e = some (.int k)) (hc : P.cellsOf e = 1)
    (h : DataW.trod enc P w base spare held fuel t [.slice a len cap] = some x) :
    len ≤ maxLen ∧ len ≤ cap ∧ cap ≤ maxLen ∧ (a = none → cap = 0) ∧ ∃ zs : List Int, zs.length = len ∧ (∀ z ∈ zs, (Lit.int k z).wf = true) ∧ Rd w 1 a len (zs.map (Value.int k)) := by
  rcases open_ints ht he hc h with ⟨hcs, _⟩ | ⟨ad, l, c, zs, hcs, hb, hl, hm, hlen, _, hcell, hwf⟩
  · injection hcs with hcs
    injection hcs with h1 h2 h3
    subst h1 h2 h3
    exact ⟨by omega, by omega, by unfold maxLen; omega, fun _ => rfl, [], rfl, by simp, Rd.none_ _ _⟩
  · injection hcs with hcs
    injection hcs with h1 h2 h3
    subst h1 h2 h3
    have hlz : len ≤ zs.length := by rw [hlen]; split <;> omega
    refine ⟨by omega, hl, hm, fun h => (by cases h), zs.take len, by simp; omega, fun z hz => hwf z (List.mem_of_mem_take hz), ⟨by simp; omega, fun h0 => ?_⟩⟩
    have h00 := hcell 0 (by omega)
    have hspot : ad.spot = none ∧ ad.block < w.heap.size := by
      simp only [Addr.add, if_pos] at h00
      unfold World.cell? at h00
      split at h00
      · rename_i c e f hh
        refine ⟨?_, (Array.getElem?_eq_some_iff.1 hh).1⟩
        split at h00
        · cases h00
        · rename_i hs
          simpa using hs
      · cases h00
    obtain ⟨b, off, sp⟩ := ad
    obtain ⟨rfl, hbl⟩ : sp = none ∧ b < w.heap.size := hspot
    refine ⟨b, off, rfl, hbl, fun j u hu => ?_⟩
    rw [List.getElem?_map] at hu
    have hj : j < len := by
      rcases Nat.lt_or_ge j len with h | h
      · exact h
      · rw [List.getElem?_eq_none (by simp; omega)] at hu; cases hu
    rw [List.getElem?_take_of_lt hj, List.getElem?_eq_getElem (by omega)] at hu
    simp only [Option.map_some] at hu
    injection hu with hu
    have hcj := hcell j (by omega)
    rw [Addr.add_lit] at hcj
    rw [hcj, ← hu, List.getD_eq_getElem?_getD, List.getElem?_eq_getElem (by omega)]
    rfl
end
end Go.Fl
