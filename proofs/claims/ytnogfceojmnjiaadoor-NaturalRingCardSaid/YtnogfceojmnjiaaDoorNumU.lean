/-
  The walks of the reference: Trim, at, Cmp, Bits.
-/
import Derived.Test.YtnogfceojmnjiaaDoorNumT
import Derived.Laws.AppendOwnNone
set_option linter.unusedVariables false
namespace Go.Fl.Nm
open Go.RowKit Go.Fl
/-- A limb; 0 behind the end. -/
def at0 (l : List Nat) (i : Nat) : Nat := l.getD i 0
theorem at0_in {l : List Nat} {i x : Nat} (h : l[i]? = some x) : at0 l i = x := by simp [at0, h]
theorem at0_out {l : List Nat} {i : Nat} (h : l.length ≤ i) : at0 l i = 0 := by simp [at0, List.getElem?_eq_none h]
theorem at0_lt {l : List Nat} (h : ok l) (i : Nat) : at0 l i < 4294967296 := by
  rcases Nat.lt_or_ge i l.length with hi | hi
  · rw [at0_in (List.getElem?_eq_getElem hi)]
    exact ok_at h (List.getElem?_eq_getElem hi)
  · rw [at0_out hi]; omega
theorem take_at0 (l : List Nat) (i : Nat) : val (l.take (i + 1)) = val (l.take i) + BB ^ i * at0 l i := by
  rcases Nat.lt_or_ge i l.length with hi | hi
  · rw [at0_in (List.getElem?_eq_getElem hi)]
    exact val_take_succ (List.getElem?_eq_getElem hi)
  · rw [at0_out hi, List.take_of_length_le hi, List.take_of_length_le (by omega)]; simp
def padL (N : Nat) (l : List Nat) : List Nat := l ++ List.replicate (N - l.length) 0
theorem pad_val (N : Nat) (l : List Nat) : val (padL N l) = val l := by unfold padL; rw [val_append, val_zeros]; simp
theorem pad_ok {N : Nat} {l : List Nat} (h : ok l) : ok (padL N l) := ok_append.2 ⟨h, ok_zeros _⟩
theorem pad_at {N : Nat} {l : List Nat} {i : Nat} (hi : i < N) : (padL N l)[i]? = some (at0 l i) := by
  unfold padL
  rcases Nat.lt_or_ge i l.length with h | h
  · rw [List.getElem?_append_left h, at0_in (List.getElem?_eq_getElem h)]
    exact List.getElem?_eq_getElem h
  · rw [List.getElem?_append_right h, at0_out h, List.getElem?_replicate, if_pos (by omega)]
theorem pad_len {N : Nat} {l : List Nat} (h : l.length ≤ N) : (padL N l).length = N := by simp [padL]; omega
theorem pad_drop {N k : Nat} {a b : List Nat} (ha : a.length ≤ N) (hb : b.length ≤ N) (h : ∀ j, k ≤ j → at0 a j = at0 b j) : (padL N a).drop k = (padL N b).drop k := by
  apply List.ext_getElem?
  intro i
  rw [List.getElem?_drop, List.getElem?_drop]
  rcases Nat.lt_or_ge (k + i) N with hi | hi
  · rw [pad_at hi, pad_at hi, h _ (by omega)]
  · rw [List.getElem?_eq_none (by rw [pad_len ha]; exact hi), List.getElem?_eq_none (by rw [pad_len hb]; exact hi)]
theorem at0_less {a b : List Nat} {N i : Nat} (hoa : ok a) (ha : a.length ≤ N) (hb : b.length ≤ N) (hi : i < N) (h : at0 a i < at0 b i) (hd : ∀ j, i + 1 ≤ j → at0 a j = at0 b j) : val a < val b := by
  rw [← pad_val N a, ← pad_val N b]
  exact val_lt_of_top (pad_ok hoa) (pad_at hi) (pad_at hi) h (pad_drop ha hb hd)
theorem at0_eq {a b : List Nat} {N : Nat} (ha : a.length ≤ N) (hb : b.length ≤ N) (h : ∀ j, 0 ≤ j → at0 a j = at0 b j) : val a = val b := by
  have := pad_drop ha hb h
  rw [List.drop_zero, List.drop_zero] at this
  rw [← pad_val N a, this, pad_val]
theorem Nw.empty (w : World) (t : TypeId) (base : Nat) (ad : Addr) : Nw w t base (some ad) 0 0 [] :=
  ⟨⟨rfl, ok_nil, Nat.le_refl _, by unfold maxLen; omega, fun h => (by cases h), rfl, fun h => absurd h (by omega)⟩, fun h => absurd h (by omega)⟩
theorem blen_half {x : Nat} (h : 0 < x) : blen x = blen (x / 2) + 1 := by
  by_cases h1 : x = 1
  · subst h1; rfl
  · have h2 : x / 2 ≠ 0 := by omega
    have e : x = 2 ^ 1 * (x / 2) + x % 2 := by omega
    have := blen_mul (x := x / 2) (k := 1) (r := x % 2) h2 (by omega)
    rw [← e] at this
    omega
end Go.Fl.Nm

namespace Go.Proofs.YtnogfceojmnjiaaDoor
open Go.RowKit Go.Fl Go.Fl.Nm

/-- What the reference returns: the limbs of a number, in memory of its own. -/
def RP (v : Nat) (w : World) (e : Ending) (w' : World) : Prop :=
  ∃ (A : Option Addr) (n c : Nat), e = .returned (.slice A n c) ∧ Hid (Nw w' tU w.heap.size A n c (limbs v)) ∧ Hid (Below w.heap.size w w')

end Go.Proofs.YtnogfceojmnjiaaDoor
