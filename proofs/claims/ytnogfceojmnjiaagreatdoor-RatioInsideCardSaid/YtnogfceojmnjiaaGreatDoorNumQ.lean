/-
  The walks of natural's Sqrt and Gcd.
-/
import Derived.Test.YtnogfceojmnjiaaGreatDoorNumP
set_option linter.unusedVariables false
namespace Go.Fl.Nm
/-- A step of Newton's method stays above the root. -/
theorem newton_up (a x : Nat) (hx : 0 < x) : a < ((x + a / x) / 2 + 1) * ((x + a / x) / 2 + 1) := by
  have h1 : a < x * (a / x + 1) := by
    have := Nat.div_add_mod a x
    have := Nat.mod_lt a hx
    rw [Nat.mul_add]; omega
  generalize a / x = q at *
  have h2 : x + (q + 1) ≤ 2 * ((x + q) / 2 + 1) := by omega
  generalize (x + q) / 2 + 1 = y at *
  have h3 : x * (q + 1) ≤ y * y := by
    generalize q + 1 = z at *
    rcases Nat.le_total x z with h | h
    · obtain ⟨d, rfl⟩ := Nat.exists_eq_add_of_le h
      obtain ⟨f, rfl⟩ := Nat.exists_eq_add_of_le (show x ≤ y by omega)
      have h5 : x * d ≤ x * (f + f) := Nat.mul_le_mul_left _ (by omega)
      have h6 := Nat.mul_comm f x
      simp only [Nat.mul_add, Nat.add_mul] at h5 ⊢
      omega
    · obtain ⟨d, rfl⟩ := Nat.exists_eq_add_of_le h
      obtain ⟨f, rfl⟩ := Nat.exists_eq_add_of_le (show z ≤ y by omega)
      have h5 : d * z ≤ (f + f) * z := Nat.mul_le_mul_right _ (by omega)
      have h6 := Nat.mul_comm f z
      simp only [Nat.mul_add, Nat.add_mul] at h5 ⊢
      omega
  omega
theorem newton_end (a x : Nat) (hx : 0 < x) (h : x ≤ (x + a / x) / 2) : x * x ≤ a := by
  have h1 : x ≤ a / x := by omega
  have h2 : x * x ≤ x * (a / x) := Nat.mul_le_mul_left _ h1
  have := Nat.mul_div_le a x
  omega
theorem newton_start (a n : Nat) (h : a < 2 ^ n) : a < (2 ^ ((n + 1) / 2) + 1) * (2 ^ ((n + 1) / 2) + 1) := by
  have h1 : 2 ^ n ≤ 2 ^ ((n + 1) / 2) * 2 ^ ((n + 1) / 2) := by
    rw [← Nat.pow_add]; exact Nat.pow_le_pow_right (by omega) (by omega)
  have h2 : 2 ^ ((n + 1) / 2) * 2 ^ ((n + 1) / 2) ≤ (2 ^ ((n + 1) / 2) + 1) * (2 ^ ((n + 1) / 2) + 1) := Nat.mul_le_mul (by omega) (by omega)
  omega
theorem blen_limbs (a : Nat) : blen a ≤ 32 * (limbs a).length := by
  apply blen_le
  by_cases h : a = 0
  · subst h; exact Nat.two_pow_pos _
  · have := (limbs_len h).2
    rw [BB_pow, ← Nat.pow_mul] at this
    exact this
theorem len_two_pow {x p k : Nat} (h : x ≤ 2 ^ p) (hp : p < 32 * k) : (limbs x).length ≤ k := by
  apply limbs_len_le
  rw [BB_pow, ← Nat.pow_mul]
  exact Nat.lt_of_le_of_lt h (Nat.pow_lt_pow_right (by omega) hp)
end Go.Fl.Nm

namespace Go.Proofs.YtnogfceojmnjiaaGreatDoor
open Go.RowKit Go.Fl Go.Fl.Nm

def SqrtP (a : Nat) (w : World) (e : Ending) (w' : World) : Prop := ∃ r, r * r ≤ a ∧ a < (r + 1) * (r + 1) ∧ Res w.heap.size r w e w'
def SqRel (w : World) (a x0 : Nat) (k : Nat) (xv : Value) (wr : World) : Prop :=
  ∃ (X : Option Addr) (nx cx : Nat) (lx : List Nat), xv = .slice X nx cx ∧ Hid (Nw wr tU w.heap.size X nx cx lx) ∧ Hid (val lx = k) ∧ nx ≤ 200 ∧ Hid (a < (k + 1) * (k + 1)) ∧ 0 < k ∧ Hid (k ≤ x0) ∧ Hid (Below w.heap.size w wr)

theorem trim_nw {w : World} {base : Nat} {A : Option Addr} {n c : Nat} {l : List Nat} (h : Nw w tU base A n c l) : tl l ≤ n ∧ Nw w tU base A (tl l) c (l.take (tl l)) := by
  have hta := (trim_sl h.sl).1
  exact ⟨hta, h.cut hta (by have := h.sl.cap; omega) h.sl.capMax h.sl.nil⟩

def GcdRel (w : World) (G : Nat) (k : Nat) (av bv : Value) (wr : World) : Prop :=
  ∃ (X : Option Addr) (nx cx : Nat) (lx : List Nat) (Y : Option Addr) (ny cy : Nat) (ly : List Nat), av = .slice X nx cx ∧ bv = .slice Y ny cy ∧ Hid (Nw wr tU w.heap.size X nx cx lx) ∧ Hid (Nw wr tU w.heap.size Y ny cy ly) ∧
    Hid (val ly = k) ∧ nx ≤ 256 ∧ ny ≤ 256 ∧ Hid (tl ly = ny) ∧ Hid (Nat.gcd (val lx) k = G) ∧ Hid (Below w.heap.size w wr)

end Go.Proofs.YtnogfceojmnjiaaGreatDoor
