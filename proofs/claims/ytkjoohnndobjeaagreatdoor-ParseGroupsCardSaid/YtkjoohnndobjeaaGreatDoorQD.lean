/-
  Plain mathematics of numbers as lists of limbs. Of no program.
  An argument that is a slice of integers, opened to a list. Of no program.
  Slices of limbs; walks of trim, Cmp.
  Bits of words of 32 and 64 bits. Of no program.
  Walks of math/bits.Add32, Sub32, Div32.
  Contracts of the kit's shelf at this dump: written by its lay-shelf.mjs and lay-plain.mjs, cut down to what is used here (cutshelf.py).
  Walks of long, Clip, done, Cmp, Bits.
  Walks of Cmp, done; new slices.
  New slices of limbs; the walk of add.
  The walk of sub.
  The walk of mul.
  The walks of short, shr, shl.
-/
import Derived.Test.YtkjoohnndobjeaaGreatDoorQA
import Derived.Test.YtkjoohnndobjeaaGreatDoorQC
import Derived.ChangeSlices
import Derived.ChangeSame
import Derived.ChangeOld
import Derived.Deep.LoopGhost
import Derived.Test.YtkjoohnndobjeaaGreatDoorProg
import Derived.Laws.BitsLemmas
import Derived.Shelf.Small.Bits
import Derived.Ground.SlgnProg
import Derived.Shelf.SlicesE.Clone
import Derived.Laws.MakeOwn
set_option linter.unusedVariables false
namespace Go.Fl.Nm

/-- The base of the limbs: 2^32. -/
def BB : Nat := 4294967296
theorem BB_pos : 0 < BB := by decide
theorem BB_pow : BB = 2 ^ 32 := by decide
/-- The value of limbs, the least one first. -/
def val : List Nat → Nat
  | [] => 0
  | x :: l => x + BB * val l
/-- Each limb is one. -/
def ok (l : List Nat) : Prop := ∀ x ∈ l, x < BB
/-- The length without the zero limbs at the end. -/
def tl : List Nat → Nat
  | [] => 0
  | x :: l => if tl l = 0 then (if x = 0 then 0 else 1) else tl l + 1
/-- The limbs of a number. -/
def limbs (n : Nat) : List Nat := if _h : n = 0 then [] else n % BB :: limbs (n / BB)
termination_by n
decreasing_by exact Nat.div_lt_self (by omega) (by decide)

theorem ok_nil : ok [] := by intro x h; cases h
theorem ok_cons {x : Nat} {l : List Nat} : ok (x :: l) ↔ x < BB ∧ ok l := by simp [ok]
theorem ok_take {l : List Nat} (h : ok l) (n : Nat) : ok (l.take n) := fun x hx => h x (List.mem_of_mem_take hx)
theorem ok_at {l : List Nat} (h : ok l) {i x : Nat} (hx : l[i]? = some x) : x < BB := h x (List.mem_of_getElem? hx)
theorem val_nil : val [] = 0 := rfl
theorem val_cons (x : Nat) (l : List Nat) : val (x :: l) = x + BB * val l := rfl
theorem val_append (a b : List Nat) : val (a ++ b) = val a + BB ^ a.length * val b := by
  induction a with
  | nil => simp [val_nil]
  | cons x a ih => rw [List.cons_append, val_cons, val_cons, ih, List.length_cons, Nat.pow_succ, Nat.mul_add, ← Nat.mul_assoc, Nat.mul_comm BB (BB ^ a.length)]; omega
theorem val_snoc (a : List Nat) (x : Nat) : val (a ++ [x]) = val a + BB ^ a.length * x := by rw [val_append, val_cons, val_nil]; simp
theorem val_lt {l : List Nat} (h : ok l) : val l < BB ^ l.length := by
  induction l with
  | nil => simp [val_nil]
  | cons x l ih =>
    have h1 := (ok_cons.1 h).1
    have h2 := ih (ok_cons.1 h).2
    rw [val_cons, List.length_cons, Nat.pow_succ]
    calc x + BB * val l < BB + BB * val l := by omega
      _ = BB * (val l + 1) := by rw [Nat.mul_add]; omega
      _ ≤ BB * BB ^ l.length := Nat.mul_le_mul_left _ h2
      _ = BB ^ l.length * BB := Nat.mul_comm _ _
theorem val_split (l : List Nat) (k : Nat) (hk : k ≤ l.length) : val l = val (l.take k) + BB ^ k * val (l.drop k) := by
  conv => lhs; rw [← List.take_append_drop k l]
  rw [val_append, List.length_take, Nat.min_eq_left hk]
theorem take_succ_at {α : Type} {l : List α} {i : Nat} {x : α} (h : l[i]? = some x) : l.take (i + 1) = l.take i ++ [x] := by
  obtain ⟨hi, rfl⟩ := List.getElem?_eq_some_iff.1 h
  exact List.take_succ_eq_append_getElem hi
theorem val_take_succ {l : List Nat} {i x : Nat} (h : l[i]? = some x) : val (l.take (i + 1)) = val (l.take i) + BB ^ i * x := by
  have hi := (List.getElem?_eq_some_iff.1 h).1
  rw [take_succ_at h, val_snoc, List.length_take, Nat.min_eq_left (by omega)]
/- Trimming. -/
theorem tl_le (l : List Nat) : tl l ≤ l.length := by
  induction l with
  | nil => simp [tl]
  | cons x l ih => simp only [tl, List.length_cons]; split <;> (try split) <;> omega
theorem tl_zero (l : List Nat) : tl l = 0 ↔ ∀ x ∈ l, x = 0 := by
  induction l with
  | nil => simp [tl]
  | cons x l ih =>
    simp only [tl, List.mem_cons, forall_eq_or_imp]
    by_cases h : tl l = 0
    · rw [if_pos h]
      have h2 := ih.1 h
      by_cases hx : x = 0
      · simp [hx]; exact h2
      · simp [hx]
    · rw [if_neg h]
      constructor
      · intro h1; omega
      · intro h1; exact absurd (ih.2 h1.2) h
theorem tl_last {l : List Nat} {x : Nat} (h : 0 < tl l) (hx : l[tl l - 1]? = some x) : x ≠ 0 := by
  induction l with
  | nil => simp [tl] at h
  | cons y l ih =>
    simp only [tl] at h hx
    by_cases h0 : tl l = 0
    · rw [if_pos h0] at h hx
      by_cases hy : y = 0
      · simp [hy] at h
      · simp [hy] at hx; omega
    · rw [if_neg h0] at h hx
      have : tl l + 1 - 1 = (tl l - 1) + 1 := by omega
      rw [this] at hx
      exact ih (by omega) (by simpa using hx)
theorem tl_drop (l : List Nat) : ∀ x ∈ l.drop (tl l), x = 0 := by
  induction l with
  | nil => simp
  | cons y l ih =>
    simp only [tl]
    by_cases h0 : tl l = 0
    · rw [if_pos h0]
      have h2 := (tl_zero l).1 h0
      by_cases hy : y = 0
      · simp [hy]; exact h2
      · simp [hy]; exact h2
    · rw [if_neg h0]; simpa using ih
theorem val_zero_of {l : List Nat} (h : ∀ x ∈ l, x = 0) : val l = 0 := by
  induction l with
  | nil => rfl
  | cons x l ih => rw [val_cons, h x (by simp), ih (fun y hy => h y (by simp [hy]))]; rfl
theorem val_trim (l : List Nat) : val (l.take (tl l)) = val l := by
  rw [val_split l (tl l) (tl_le l), val_zero_of (tl_drop l)]; simp
theorem val_zero_iff {l : List Nat} : val l = 0 ↔ tl l = 0 := by
  induction l with
  | nil => simp [tl, val_nil]
  | cons x l ih =>
    rw [val_cons]
    simp only [tl]
    have := BB_pos
    by_cases h : tl l = 0
    · rw [if_pos h, ih.2 h]
      by_cases hx : x = 0 <;> simp [hx]
    · rw [if_neg h]
      have h1 : val l ≠ 0 := fun e => h (ih.1 e)
      constructor
      · intro h2
        have : BB * val l = 0 := by omega
        rcases Nat.mul_eq_zero.1 this with h3 | h3
        · omega
        · exact absurd h3 h1
      · intro h2; omega
/-- A number without zero limbs at the end is at least the power of its length less one. -/
theorem val_ge {l : List Nat} (h : 0 < tl l) : BB ^ (tl l - 1) ≤ val l := by
  have hl := tl_le l
  obtain ⟨x, hx⟩ : ∃ x, l[tl l - 1]? = some x := ⟨_, List.getElem?_eq_getElem (by omega)⟩
  have hx0 := tl_last h hx
  have h1 := val_trim l
  rw [show l.take (tl l) = l.take (tl l - 1 + 1) by congr 1; omega, val_take_succ hx] at h1
  have h2 : BB ^ (tl l - 1) * 1 ≤ BB ^ (tl l - 1) * x := Nat.mul_le_mul_left _ (by omega)
  omega
theorem limbs_zero : limbs 0 = [] := by unfold limbs; simp
theorem limbs_pos {n : Nat} (h : n ≠ 0) : limbs n = n % BB :: limbs (n / BB) := by
  conv => lhs; unfold limbs
  simp [h]
theorem limbs_ok (n : Nat) : ok (limbs n) := by
  induction n using Nat.strongRecOn with
  | ind n ih =>
    by_cases h : n = 0
    · rw [h, limbs_zero]; exact ok_nil
    · rw [limbs_pos h]
      exact ok_cons.2 ⟨Nat.mod_lt _ BB_pos, ih _ (Nat.div_lt_self (by omega) (by decide))⟩
theorem val_limbs (n : Nat) : val (limbs n) = n := by
  induction n using Nat.strongRecOn with
  | ind n ih =>
    by_cases h : n = 0
    · rw [h, limbs_zero]; rfl
    · rw [limbs_pos h, val_cons, ih _ (Nat.div_lt_self (by omega) (by decide))]
      exact Nat.mod_add_div _ _
/-- A list without zero limbs at the end is the list of its value. -/
theorem trim_limbs {l : List Nat} (h : ok l) : l.take (tl l) = limbs (val l) := by
  induction l with
  | nil => simp [tl, val_nil, limbs_zero]
  | cons x l ih =>
    have hx := (ok_cons.1 h).1
    have ih := ih (ok_cons.1 h).2
    have hd : (x + BB * val l) / BB = val l := by
      rw [Nat.add_mul_div_left _ _ BB_pos, Nat.div_eq_of_lt hx]; omega
    have hm : (x + BB * val l) % BB = x := by rw [Nat.add_mul_mod_self_left, Nat.mod_eq_of_lt hx]
    by_cases h0 : tl l = 0
    · have hv : val l = 0 := val_zero_iff.2 h0
      simp only [tl, if_pos h0, val_cons]
      by_cases hx0 : x = 0
      · simp [hx0, hv, limbs_zero]
      · rw [if_neg hx0, limbs_pos (by omega), hd, hm, hv, limbs_zero]; simp
    · have hv : val l ≠ 0 := fun e => h0 (val_zero_iff.1 e)
      have : BB * val l ≠ 0 := fun e => by rcases Nat.mul_eq_zero.1 e with h | h; exact absurd h (by decide); exact hv h
      simp only [tl, if_neg h0, val_cons]
      rw [limbs_pos (by omega), hd, hm, List.take_succ_cons, ih]
theorem tl_limbs {l : List Nat} (h : ok l) : tl l = (limbs (val l)).length := by
  rw [← trim_limbs h, List.length_take, Nat.min_eq_left (tl_le l)]
theorem tl_of_limbs (n : Nat) : tl (limbs n) = (limbs n).length := by rw [tl_limbs (limbs_ok n), val_limbs]
theorem limbs_len {n : Nat} (h : n ≠ 0) : BB ^ ((limbs n).length - 1) ≤ n ∧ n < BB ^ (limbs n).length := by
  have h1 : 0 < tl (limbs n) := by
    rcases Nat.eq_zero_or_pos (tl (limbs n)) with h0 | h0
    · exact absurd (by rw [← val_limbs n]; exact val_zero_iff.2 h0) h
    · exact h0
  have h2 := val_ge h1
  have h3 := val_lt (limbs_ok n)
  rw [val_limbs] at h2 h3
  rw [tl_of_limbs] at h2
  exact ⟨h2, h3⟩
theorem limbs_len_le {n k : Nat} (h : n < BB ^ k) : (limbs n).length ≤ k := by
  by_cases h0 : n = 0
  · rw [h0, limbs_zero]; simp
  · rcases Nat.lt_or_ge k (limbs n).length with h1 | h1
    · have h2 := (limbs_len h0).1
      have h3 : BB ^ k ≤ BB ^ ((limbs n).length - 1) := Nat.pow_le_pow_right BB_pos (by omega)
      omega
    · exact h1
/- Comparing. -/
/- The length in bits. -/
def blen (n : Nat) : Nat := if n = 0 then 0 else n.log2 + 1
theorem blen_spec {n : Nat} (h : n ≠ 0) : 2 ^ (blen n - 1) ≤ n ∧ n < 2 ^ blen n := by
  unfold blen
  rw [if_neg h]
  exact ⟨by simpa using Nat.log2_self_le h, Nat.lt_log2_self⟩
end Go.Fl.Nm
namespace Go.Fl
open Go.ChangeShapes Go.WideShapes Go.RowKit

section
variable {H : Type} {enc : TypeId × Value → H} {P : Program} {w : World} {base : Nat} {spare : Nat → Bool} {held : Bool}

end
end Go.Fl
namespace Go.Fl.Nm
open Go.RowKit Go.Fl

/-- The cells of limbs. -/
def U (l : List Nat) : List Value := l.map fun x : Nat => Value.int .u32 (x : Int)
theorem U_len (l : List Nat) : (U l).length = l.length := by simp [U]
theorem U_at (l : List Nat) (i x : Nat) (h : l[i]? = some x) : (U l)[i]? = some (.int .u32 x) := by simp [U, h]
theorem U_take (l : List Nat) (n : Nat) : U (l.take n) = (U l).take n := by simp [U]
/-- The slice value '.slice A n c' holds the limbs l. -/
def Sl (w : World) (A : Option Addr) (n c : Nat) (l : List Nat) : Prop :=
  l.length = n ∧ ok l ∧ n ≤ c ∧ c ≤ maxLen ∧ (A = none → c = 0) ∧ Rd w 1 A n (U l)

section
variable {w w' : World} {A : Option Addr} {n c : Nat} {l : List Nat}
theorem Sl.len (h : Sl w A n c l) : l.length = n := h.1
theorem Sl.ok (h : Sl w A n c l) : ok l := h.2.1
theorem Sl.cap (h : Sl w A n c l) : n ≤ c := h.2.2.1
theorem Sl.capMax (h : Sl w A n c l) : c ≤ maxLen := h.2.2.2.1
theorem Sl.nil (h : Sl w A n c l) : A = none → c = 0 := h.2.2.2.2.1
theorem Sl.rd (h : Sl w A n c l) : Rd w 1 A n (U l) := h.2.2.2.2.2
theorem Sl.max (h : Sl w A n c l) : n ≤ maxLen := Nat.le_trans h.cap h.capMax
theorem Sl.below (h : Sl w A n c l) (hb : Below w.heap.size w w') : Sl w' A n c l := ⟨h.1, h.2.1, h.2.2.1, h.2.2.2.1, h.2.2.2.2.1, h.rd.below hb⟩
theorem Sl.alloc (h : Sl w A n c l) (o : Obj) : Sl (w.alloc o) A n c l := ⟨h.1, h.2.1, h.2.2.1, h.2.2.2.1, h.2.2.2.2.1, h.rd.alloc o⟩
theorem Sl.drewN (h : Sl w A n c l) (k : Nat) : Sl (w.drewN k) A n c l := h
theorem Sl.none_ (w : World) : Sl w none 0 0 [] := ⟨rfl, ok_nil, Nat.le_refl _, by unfold maxLen; omega, fun _ => rfl, Rd.none_ _ _⟩
theorem Sl.at_ (h : Sl w A n c l) {i : Nat} (hi : i < n) : ∃ b off x, A = some ⟨b, off, none⟩ ∧ b < w.heap.size ∧ l[i]? = some x ∧ x < BB ∧ w.cell? ⟨b, off + i, none⟩ = some (.int .u32 x) := by
  obtain ⟨b, off, hA, hb, hc⟩ := h.rd.at_ (by omega)
  have hil : i < l.length := by rw [h.len]; exact hi
  exact ⟨b, off, l[i], hA, hb, List.getElem?_eq_getElem hil, ok_at h.ok (List.getElem?_eq_getElem hil), hc i _ (U_at l i _ (List.getElem?_eq_getElem hil))⟩
/-- The first m limbs, with any capacity from m on. -/
theorem Sl.cut (h : Sl w A n c l) {m c' : Nat} (hm : m ≤ n) (hc : m ≤ c') (hc' : c' ≤ maxLen) (hn : A = none → c' = 0) : Sl w A m c' (l.take m) :=
  ⟨by rw [List.length_take, h.len]; omega, ok_take h.ok m, hc, hc', hn, by
    refine ⟨by rw [U_len, List.length_take, h.len]; omega, fun h0 => ?_⟩
    obtain ⟨b, off, hA, hb, hcell⟩ := h.rd.at_ (by omega)
    refine ⟨b, off, hA, hb, fun j u hu => hcell j u ?_⟩
    rw [U_take] at hu
    have hj : j < m := by
      rcases Nat.lt_or_ge j m with hj | hj
      · exact hj
      · rw [List.getElem?_eq_none (by simp; omega)] at hu; cases hu
    rwa [List.getElem?_take_of_lt hj] at hu⟩
end
end Go.Fl.Nm

namespace Go.Proofs.YtkjoohnndobjeaaGreatDoor
open Go.RowKit Go.Fl Go.Fl.Nm

end Go.Proofs.YtkjoohnndobjeaaGreatDoor
namespace Go.Fl.Nm
open Go.RowKit Go.Fl

end Go.Fl.Nm
namespace Go.Proofs.YtkjoohnndobjeaaGreatDoor
open Go.RowKit Go.Fl Go.Fl.Nm

end Go.Proofs.YtkjoohnndobjeaaGreatDoor
namespace Go.Proofs
open Go.Shelf
end Go.Proofs
namespace Go.Proofs.YtkjoohnndobjeaaGreatDoor
open Go.RowKit Go.Fl Go.Fl.Nm

/-- A slice value by its parts. -/
abbrev SV := Option Addr × Nat × Nat
def longer (K : Nat) (p : SV) : Bool := decide (K < p.2.1)

end Go.Proofs.YtkjoohnndobjeaaGreatDoor
namespace Go.Proofs.YtkjoohnndobjeaaGreatDoor
open Go.RowKit Go.Fl Go.Fl.Nm

theorem drewN_drewN (w : World) (a b : Nat) : (w.drewN a).drewN b = w.drewN (a + b) := by
  unfold World.drewN; simp [Nat.add_assoc]

end Go.Proofs.YtkjoohnndobjeaaGreatDoor
namespace Go.Fl.Nm
open Go.RowKit Go.Fl

/-- The cells of a block that holds just the limbs l. -/
def UA (l : List Nat) : Array Value := (U l).toArray
/-- A slice in a block from 'base' on, at the block's head, that nothing else names. -/
def Nw (w : World) (t : TypeId) (base : Nat) (A : Option Addr) (n c : Nat) (l : List Nat) : Prop :=
  Sl w A n c l ∧ (0 < n → ∃ (g : Nat) (cs : Array Value), A = some ⟨g, 0, none⟩ ∧ base ≤ g ∧ Blk w g t cs)
theorem Nw.sl {w : World} {t : TypeId} {base : Nat} {A : Option Addr} {n c : Nat} {l : List Nat} (h : Nw w t base A n c l) : Sl w A n c l := h.1
theorem Nw.cut {w : World} {t : TypeId} {base : Nat} {A : Option Addr} {n c : Nat} {l : List Nat} (h : Nw w t base A n c l) {m c' : Nat} (hm : m ≤ n) (hc : m ≤ c') (hc' : c' ≤ maxLen) (hn : A = none → c' = 0) : Nw w t base A m c' (l.take m) :=
  ⟨h.1.cut hm hc hc' hn, fun h0 => h.2 (by omega)⟩
theorem Nw.below {w w' : World} {t : TypeId} {base : Nat} {A : Option Addr} {n c : Nat} {l : List Nat} (h : Nw w t base A n c l) (hb : Below w.heap.size w w') : Nw w' t base A n c l :=
  ⟨h.1.below hb, fun h0 => by
    obtain ⟨g, cs, hA, hg, hB⟩ := h.2 h0
    exact ⟨g, cs, hA, hg, hB.below hb hB.lt⟩⟩
theorem Nw.base {w : World} {t : TypeId} {base base' : Nat} {A : Option Addr} {n c : Nat} {l : List Nat} (h : Nw w t base A n c l) (hb : base' ≤ base) : Nw w t base' A n c l :=
  ⟨h.1, fun h0 => by
    obtain ⟨g, cs, hA, hg, hB⟩ := h.2 h0
    exact ⟨g, cs, hA, by omega, hB⟩⟩
theorem Nw.alloc {w : World} {t : TypeId} {base : Nat} {A : Option Addr} {n c : Nat} {l : List Nat} (h : Nw w t base A n c l) (o : Obj) : Nw (w.alloc o) t base A n c l :=
  ⟨h.1.alloc o, fun h0 => by
    obtain ⟨g, cs, hA, hg, hB⟩ := h.2 h0
    exact ⟨g, cs, hA, hg, hB.alloc o⟩⟩
theorem Nw.none_ (w : World) (t : TypeId) (base : Nat) : Nw w t base none 0 0 [] := ⟨Sl.none_ w, fun h => absurd h (by omega)⟩
/-- Out of a block that is known whole. -/
theorem Nw.of_blk {w : World} {t : TypeId} {base g n : Nat} {l : List Nat} (hB : Blk w g t (UA l)) (hok : ok l) (hg : base ≤ g) (hn : l.length = n) (hm : n ≤ maxLen) : Nw w t base (some ⟨g, 0, none⟩) n n l :=
  ⟨⟨hn, hok, Nat.le_refl _, hm, fun h => (by cases h), by rw [U_len, hn]; omega, fun _ => ⟨g, 0, rfl, hB.lt, fun j u hu => by
    rw [Nat.zero_add, hB.cell]
    unfold UA
    rw [List.getElem?_toArray]; exact hu⟩⟩, fun _ => ⟨g, _, rfl, hg, hB⟩⟩
end Go.Fl.Nm

namespace Go.Proofs.YtkjoohnndobjeaaGreatDoor
open Go.RowKit Go.Fl Go.Fl.Nm

/-- The element type of the new slices. -/
abbrev tU : TypeId := 183
end Go.Proofs.YtkjoohnndobjeaaGreatDoor
namespace Go.Proofs.YtkjoohnndobjeaaGreatDoor
open Go.RowKit Go.Fl Go.Fl.Nm

end Go.Proofs.YtkjoohnndobjeaaGreatDoor
namespace Go.Proofs.YtkjoohnndobjeaaGreatDoor
open Go.RowKit Go.Fl Go.Fl.Nm

end Go.Proofs.YtkjoohnndobjeaaGreatDoor
namespace Go.Proofs.YtkjoohnndobjeaaGreatDoor
open Go.RowKit Go.Fl Go.Fl.Nm

end Go.Proofs.YtkjoohnndobjeaaGreatDoor
