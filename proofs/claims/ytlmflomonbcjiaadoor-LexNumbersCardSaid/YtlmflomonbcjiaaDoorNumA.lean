/-
  Slices of limbs; walks of trim, Cmp.
-/
import Derived.Test.YtlmflomonbcjiaaDoorNumPlain
import Derived.Test.YtlmflomonbcjiaaDoorRow2
import Derived.Test.YtlmflomonbcjiaaDoorRow4
import Derived.Deep.LoopGhost
import Derived.Test.YtlmflomonbcjiaaDoorProg
namespace Go.Fl.Nm
open Go.RowKit Go.Fl

/-- The cells of limbs. -/
def U (l : List Nat) : List Value := l.map fun x : Nat => Value.int .u32 (x : Int)
theorem U_len (l : List Nat) : (U l).length = l.length := by simp [U]
theorem U_at (l : List Nat) (i x : Nat) (h : l[i]? = some x) : (U l)[i]? = some (.int .u32 x) := by simp [U, h]
theorem U_nil : U [] = [] := rfl
theorem U_take (l : List Nat) (n : Nat) : U (l.take n) = (U l).take n := by simp [U]
theorem U_drop (l : List Nat) (n : Nat) : U (l.drop n) = (U l).drop n := by simp [U]
theorem U_append (a b : List Nat) : U (a ++ b) = U a ++ U b := by simp [U]
theorem U_set (l : List Nat) (i x : Nat) : U (l.set i x) = (U l).set i (.int .u32 x) := by simp [U, List.map_set]

/-- The slice value '.slice A n c' holds the limbs l. -/
def Sl (w : World) (A : Option Addr) (n c : Nat) (l : List Nat) : Prop :=
  l.length = n ∧ ok l ∧ n ≤ c ∧ c ≤ maxLen ∧ (A = none → c = 0) ∧ Rd w 1 A n (U l)

section
variable {w w' : World} {A : Option Addr} {n c : Nat} {l : List Nat}
theorem Sl.len (h : Sl w A n c l) : l.length = n := h.1
theorem Sl.ok (h : Sl w A n c l) : ok l := h.2.1
theorem Sl.cap (h : Sl w A n c l) : n ≤ c := h.2.2.1
theorem Sl.capMax (h : Sl w A n c l) : c ≤ maxLen := h.2.2.2.1
theorem Sl.nil (h : Sl w A n c l) : A = none → c = 0 := h.2.2.2.2.1
theorem Sl.rd (h : Sl w A n c l) : Rd w 1 A n (U l) := h.2.2.2.2.2
theorem Sl.max (h : Sl w A n c l) : n ≤ maxLen := Nat.le_trans h.cap h.capMax
theorem Sl.below (h : Sl w A n c l) (hb : Below w.heap.size w w') : Sl w' A n c l := ⟨h.1, h.2.1, h.2.2.1, h.2.2.2.1, h.2.2.2.2.1, h.rd.below hb⟩
theorem Sl.alloc (h : Sl w A n c l) (o : Obj) : Sl (w.alloc o) A n c l := ⟨h.1, h.2.1, h.2.2.1, h.2.2.2.1, h.2.2.2.2.1, h.rd.alloc o⟩
theorem Sl.drewN (h : Sl w A n c l) (k : Nat) : Sl (w.drewN k) A n c l := h
theorem Sl.none_ (w : World) : Sl w none 0 0 [] := ⟨rfl, ok_nil, Nat.le_refl _, by unfold maxLen; omega, fun _ => rfl, Rd.none_ _ _⟩
theorem Sl.at_ (h : Sl w A n c l) {i : Nat} (hi : i < n) : ∃ b off x, A = some ⟨b, off, none⟩ ∧ b < w.heap.size ∧ l[i]? = some x ∧ x < BB ∧ w.cell? ⟨b, off + i, none⟩ = some (.int .u32 x) := by
  obtain ⟨b, off, hA, hb, hc⟩ := h.rd.at_ (by omega)
  have hil : i < l.length := by rw [h.len]; exact hi
  exact ⟨b, off, l[i], hA, hb, List.getElem?_eq_getElem hil, ok_at h.ok (List.getElem?_eq_getElem hil), hc i _ (U_at l i _ (List.getElem?_eq_getElem hil))⟩
/-- The first m limbs, with any capacity from m on. -/
theorem Sl.cut (h : Sl w A n c l) {m c' : Nat} (hm : m ≤ n) (hc : m ≤ c') (hc' : c' ≤ maxLen) (hn : A = none → c' = 0) : Sl w A m c' (l.take m) :=
  ⟨by rw [List.length_take, h.len]; omega, ok_take h.ok m, hc, hc', hn, by
    refine ⟨by rw [U_len, List.length_take, h.len]; omega, fun h0 => ?_⟩
    obtain ⟨b, off, hA, hb, hcell⟩ := h.rd.at_ (by omega)
    refine ⟨b, off, hA, hb, fun j u hu => hcell j u ?_⟩
    rw [U_take] at hu
    have hj : j < m := by
      rcases Nat.lt_or_ge j m with hj | hj
      · exact hj
      · rw [List.getElem?_eq_none (by simp; omega)] at hu; cases hu
    rwa [List.getElem?_take_of_lt hj] at hu⟩
end
end Go.Fl.Nm

namespace Go.Proofs.YtlmflomonbcjiaaDoor
open Go.RowKit Go.Fl Go.Fl.Nm

end Go.Proofs.YtlmflomonbcjiaaDoor
