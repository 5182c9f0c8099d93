/-
  Plain mathematics of numbers as lists of limbs. Of no program.
  An argument that is a slice of integers, opened to a list. Of no program.
  Slices of limbs; walks of trim, Cmp.
  Bits of words of 32 and 64 bits. Of no program.
  Walks of math/bits.Add32, Sub32, Div32.
  Contracts of the kit's shelf at this dump: written by its lay-shelf.mjs and lay-plain.mjs, cut down to what is used here (cutshelf.py).
  Walks of long, Clip, done, Cmp, Bits.
  Walks of Cmp, done; new slices.
  New slices of limbs; the walk of add.
  The walk of sub.
  The walk of mul.
  The walks of short, shr, shl.
-/
import Derived.Test.YtkjoohnndobjeaaGreatDoorQA
import Derived.Test.YtkjoohnndobjeaaGreatDoorQC
import Derived.ChangeSlices
import Derived.ChangeSame
import Derived.ChangeOld
import Derived.Deep.LoopGhost
import Derived.Test.YtkjoohnndobjeaaGreatDoorProg
import Derived.Laws.BitsLemmas
import Derived.Shelf.Small.Bits
import Derived.Ground.SlgnProg
import Derived.Shelf.SlicesE.Clone
import Derived.Laws.MakeOwn
set_option linter.unusedVariables false
namespace Go.Fl.Nm

/-- The base of the limbs: 2^32. -/
def BB : Nat := 4294967296
theorem BB_eq : BB = 4294967296 := rfl
theorem BB_pos : 0 < BB := by decide
theorem BB_pow : BB = 2 ^ 32 := by decide
/-- The value of limbs, the least one first. -/
def val : List Nat → Nat
  | [] => 0
  | x :: l => x + BB * val l
/-- Each limb is one. -/
def ok (l : List Nat) : Prop := ∀ x ∈ l, x < BB
/-- The length without the zero limbs at the end. -/
def tl : List Nat → Nat
  | [] => 0
  | x :: l => if tl l = 0 then (if x = 0 then 0 else 1) else tl l + 1
/-- The limbs of a number. -/
def limbs (n : Nat) : List Nat := if _h : n = 0 then [] else n % BB :: limbs (n / BB)
termination_by n
decreasing_by exact Nat.div_lt_self (by omega) (by decide)

theorem ok_nil : ok [] := by intro x h; cases h
theorem ok_cons {x : Nat} {l : List Nat} : ok (x :: l) ↔ x < BB ∧ ok l := by simp [ok]
theorem ok_append {a b : List Nat} : ok (a ++ b) ↔ ok a ∧ ok b := by
  constructor
  · intro h
    exact ⟨fun x hx => h x (by simp [hx]), fun x hx => h x (by simp [hx])⟩
  · rintro ⟨h1, h2⟩ x hx
    rcases List.mem_append.1 hx with h | h
    · exact h1 x h
    · exact h2 x h
theorem ok_take {l : List Nat} (h : ok l) (n : Nat) : ok (l.take n) := fun x hx => h x (List.mem_of_mem_take hx)
theorem ok_drop {l : List Nat} (h : ok l) (n : Nat) : ok (l.drop n) := fun x hx => h x (List.mem_of_mem_drop hx)
theorem ok_at {l : List Nat} (h : ok l) {i x : Nat} (hx : l[i]? = some x) : x < BB := h x (List.mem_of_getElem? hx)
theorem ok_zeros (n : Nat) : ok (List.replicate n 0) := fun x hx => by rw [List.eq_of_mem_replicate hx]; decide
theorem ok_set {l : List Nat} (h : ok l) (i x : Nat) (hx : x < BB) : ok (l.set i x) := fun y hy => by
  rcases List.mem_or_eq_of_mem_set hy with hy | rfl
  · exact h y hy
  · exact hx

theorem val_nil : val [] = 0 := rfl
theorem val_cons (x : Nat) (l : List Nat) : val (x :: l) = x + BB * val l := rfl
theorem val_append (a b : List Nat) : val (a ++ b) = val a + BB ^ a.length * val b := by
  induction a with
  | nil => simp [val_nil]
  | cons x a ih => rw [List.cons_append, val_cons, val_cons, ih, List.length_cons, Nat.pow_succ, Nat.mul_add, ← Nat.mul_assoc, Nat.mul_comm BB (BB ^ a.length)]; omega
theorem val_snoc (a : List Nat) (x : Nat) : val (a ++ [x]) = val a + BB ^ a.length * x := by rw [val_append, val_cons, val_nil]; simp
theorem val_zeros (n : Nat) : val (List.replicate n 0) = 0 := by
  induction n with
  | zero => rfl
  | succ n ih => rw [List.replicate_succ, val_cons, ih]; rfl
theorem val_lt {l : List Nat} (h : ok l) : val l < BB ^ l.length := by
  induction l with
  | nil => simp [val_nil]
  | cons x l ih =>
    have h1 := (ok_cons.1 h).1
    have h2 := ih (ok_cons.1 h).2
    rw [val_cons, List.length_cons, Nat.pow_succ]
    calc x + BB * val l < BB + BB * val l := by omega
      _ = BB * (val l + 1) := by rw [Nat.mul_add]; omega
      _ ≤ BB * BB ^ l.length := Nat.mul_le_mul_left _ h2
      _ = BB ^ l.length * BB := Nat.mul_comm _ _
theorem val_split (l : List Nat) (k : Nat) (hk : k ≤ l.length) : val l = val (l.take k) + BB ^ k * val (l.drop k) := by
  conv => lhs; rw [← List.take_append_drop k l]
  rw [val_append, List.length_take, Nat.min_eq_left hk]
theorem take_succ_at {α : Type} {l : List α} {i : Nat} {x : α} (h : l[i]? = some x) : l.take (i + 1) = l.take i ++ [x] := by
  obtain ⟨hi, rfl⟩ := List.getElem?_eq_some_iff.1 h
  exact List.take_succ_eq_append_getElem hi
theorem drop_at {α : Type} {l : List α} {i : Nat} {x : α} (h : l[i]? = some x) : l.drop i = x :: l.drop (i + 1) := by
  obtain ⟨hi, rfl⟩ := List.getElem?_eq_some_iff.1 h
  exact List.drop_eq_getElem_cons hi
theorem val_take_succ {l : List Nat} {i x : Nat} (h : l[i]? = some x) : val (l.take (i + 1)) = val (l.take i) + BB ^ i * x := by
  have hi := (List.getElem?_eq_some_iff.1 h).1
  rw [take_succ_at h, val_snoc, List.length_take, Nat.min_eq_left (by omega)]
theorem val_drop {l : List Nat} {i x : Nat} (h : l[i]? = some x) : val (l.drop i) = x + BB * val (l.drop (i + 1)) := by rw [drop_at h, val_cons]

/- Trimming. -/
theorem tl_le (l : List Nat) : tl l ≤ l.length := by
  induction l with
  | nil => simp [tl]
  | cons x l ih => simp only [tl, List.length_cons]; split <;> (try split) <;> omega
theorem tl_zero (l : List Nat) : tl l = 0 ↔ ∀ x ∈ l, x = 0 := by
  induction l with
  | nil => simp [tl]
  | cons x l ih =>
    simp only [tl, List.mem_cons, forall_eq_or_imp]
    by_cases h : tl l = 0
    · rw [if_pos h]
      have h2 := ih.1 h
      by_cases hx : x = 0
      · simp [hx]; exact h2
      · simp [hx]
    · rw [if_neg h]
      constructor
      · intro h1; omega
      · intro h1; exact absurd (ih.2 h1.2) h
theorem tl_unique {l : List Nat} {n : Nat} (hn : n ≤ l.length) (h0 : ∀ x ∈ l.drop n, x = 0) (h1 : ∀ x, 0 < n → l[n - 1]? = some x → x ≠ 0) : tl l = n := by
  induction l generalizing n with
  | nil => simp at hn; subst hn; rfl
  | cons x l ih =>
    cases n with
    | zero => exact (tl_zero _).2 (by simpa using h0)
    | succ n =>
      simp only [tl]
      simp only [List.length_cons, List.drop_succ_cons] at hn h0
      have := ih (by omega) h0 (fun y hn0 hy => h1 y (by omega) (by
        have : n + 1 - 1 = (n - 1) + 1 := by omega
        rw [this]; simpa using hy))
      rw [this]
      cases n with
      | zero =>
        have := h1 x (by omega) (by simp)
        simp [this]
      | succ n => simp
theorem tl_last {l : List Nat} {x : Nat} (h : 0 < tl l) (hx : l[tl l - 1]? = some x) : x ≠ 0 := by
  induction l with
  | nil => simp [tl] at h
  | cons y l ih =>
    simp only [tl] at h hx
    by_cases h0 : tl l = 0
    · rw [if_pos h0] at h hx
      by_cases hy : y = 0
      · simp [hy] at h
      · simp [hy] at hx; omega
    · rw [if_neg h0] at h hx
      have : tl l + 1 - 1 = (tl l - 1) + 1 := by omega
      rw [this] at hx
      exact ih (by omega) (by simpa using hx)
theorem tl_drop (l : List Nat) : ∀ x ∈ l.drop (tl l), x = 0 := by
  induction l with
  | nil => simp
  | cons y l ih =>
    simp only [tl]
    by_cases h0 : tl l = 0
    · rw [if_pos h0]
      have h2 := (tl_zero l).1 h0
      by_cases hy : y = 0
      · simp [hy]; exact h2
      · simp [hy]; exact h2
    · rw [if_neg h0]; simpa using ih
theorem val_zero_of {l : List Nat} (h : ∀ x ∈ l, x = 0) : val l = 0 := by
  induction l with
  | nil => rfl
  | cons x l ih => rw [val_cons, h x (by simp), ih (fun y hy => h y (by simp [hy]))]; rfl
theorem val_trim (l : List Nat) : val (l.take (tl l)) = val l := by
  rw [val_split l (tl l) (tl_le l), val_zero_of (tl_drop l)]; simp
theorem tl_take (l : List Nat) : tl (l.take (tl l)) = tl l := by
  refine tl_unique (by simp [tl_le]) (by simp) (fun x h0 hx => ?_)
  rw [List.getElem?_take_of_lt (by omega)] at hx
  exact tl_last h0 hx
theorem val_zero_iff {l : List Nat} : val l = 0 ↔ tl l = 0 := by
  induction l with
  | nil => simp [tl, val_nil]
  | cons x l ih =>
    rw [val_cons]
    simp only [tl]
    have := BB_pos
    by_cases h : tl l = 0
    · rw [if_pos h, ih.2 h]
      by_cases hx : x = 0 <;> simp [hx]
    · rw [if_neg h]
      have h1 : val l ≠ 0 := fun e => h (ih.1 e)
      constructor
      · intro h2
        have : BB * val l = 0 := by omega
        rcases Nat.mul_eq_zero.1 this with h3 | h3
        · omega
        · exact absurd h3 h1
      · intro h2; omega
/-- A number without zero limbs at the end is at least the power of its length less one. -/
theorem val_ge {l : List Nat} (h : 0 < tl l) : BB ^ (tl l - 1) ≤ val l := by
  have hl := tl_le l
  obtain ⟨x, hx⟩ : ∃ x, l[tl l - 1]? = some x := ⟨_, List.getElem?_eq_getElem (by omega)⟩
  have hx0 := tl_last h hx
  have h1 := val_trim l
  rw [show l.take (tl l) = l.take (tl l - 1 + 1) by congr 1; omega, val_take_succ hx] at h1
  have h2 : BB ^ (tl l - 1) * 1 ≤ BB ^ (tl l - 1) * x := Nat.mul_le_mul_left _ (by omega)
  omega
theorem val_lt_tl {l : List Nat} (h : ok l) : val l < BB ^ tl l := by
  rw [← val_trim l]
  have := val_lt (ok_take h (tl l))
  rwa [List.length_take, Nat.min_eq_left (tl_le l)] at this

theorem limbs_zero : limbs 0 = [] := by unfold limbs; simp
theorem limbs_pos {n : Nat} (h : n ≠ 0) : limbs n = n % BB :: limbs (n / BB) := by
  conv => lhs; unfold limbs
  simp [h]
theorem limbs_ok (n : Nat) : ok (limbs n) := by
  induction n using Nat.strongRecOn with
  | ind n ih =>
    by_cases h : n = 0
    · rw [h, limbs_zero]; exact ok_nil
    · rw [limbs_pos h]
      exact ok_cons.2 ⟨Nat.mod_lt _ BB_pos, ih _ (Nat.div_lt_self (by omega) (by decide))⟩
theorem val_limbs (n : Nat) : val (limbs n) = n := by
  induction n using Nat.strongRecOn with
  | ind n ih =>
    by_cases h : n = 0
    · rw [h, limbs_zero]; rfl
    · rw [limbs_pos h, val_cons, ih _ (Nat.div_lt_self (by omega) (by decide))]
      exact Nat.mod_add_div _ _
theorem limbs_eq_nil {n : Nat} : limbs n = [] ↔ n = 0 := by
  constructor
  · intro h
    by_cases h0 : n = 0
    · exact h0
    · rw [limbs_pos h0] at h; cases h
  · rintro rfl; exact limbs_zero
/-- A list without zero limbs at the end is the list of its value. -/
theorem trim_limbs {l : List Nat} (h : ok l) : l.take (tl l) = limbs (val l) := by
  induction l with
  | nil => simp [tl, val_nil, limbs_zero]
  | cons x l ih =>
    have hx := (ok_cons.1 h).1
    have ih := ih (ok_cons.1 h).2
    have hd : (x + BB * val l) / BB = val l := by
      rw [Nat.add_mul_div_left _ _ BB_pos, Nat.div_eq_of_lt hx]; omega
    have hm : (x + BB * val l) % BB = x := by rw [Nat.add_mul_mod_self_left, Nat.mod_eq_of_lt hx]
    by_cases h0 : tl l = 0
    · have hv : val l = 0 := val_zero_iff.2 h0
      simp only [tl, if_pos h0, val_cons]
      by_cases hx0 : x = 0
      · simp [hx0, hv, limbs_zero]
      · rw [if_neg hx0, limbs_pos (by omega), hd, hm, hv, limbs_zero]; simp
    · have hv : val l ≠ 0 := fun e => h0 (val_zero_iff.1 e)
      have : BB * val l ≠ 0 := fun e => by rcases Nat.mul_eq_zero.1 e with h | h; exact absurd h (by decide); exact hv h
      simp only [tl, if_neg h0, val_cons]
      rw [limbs_pos (by omega), hd, hm, List.take_succ_cons, ih]
theorem tl_limbs {l : List Nat} (h : ok l) : tl l = (limbs (val l)).length := by
  rw [← trim_limbs h, List.length_take, Nat.min_eq_left (tl_le l)]
theorem tl_of_limbs (n : Nat) : tl (limbs n) = (limbs n).length := by rw [tl_limbs (limbs_ok n), val_limbs]
theorem limbs_len {n : Nat} (h : n ≠ 0) : BB ^ ((limbs n).length - 1) ≤ n ∧ n < BB ^ (limbs n).length := by
  have h1 : 0 < tl (limbs n) := by
    rcases Nat.eq_zero_or_pos (tl (limbs n)) with h0 | h0
    · exact absurd (by rw [← val_limbs n]; exact val_zero_iff.2 h0) h
    · exact h0
  have h2 := val_ge h1
  have h3 := val_lt (limbs_ok n)
  rw [val_limbs] at h2 h3
  rw [tl_of_limbs] at h2
  exact ⟨h2, h3⟩
theorem limbs_len_le {n k : Nat} (h : n < BB ^ k) : (limbs n).length ≤ k := by
  by_cases h0 : n = 0
  · rw [h0, limbs_zero]; simp
  · rcases Nat.lt_or_ge k (limbs n).length with h1 | h1
    · have h2 := (limbs_len h0).1
      have h3 : BB ^ k ≤ BB ^ ((limbs n).length - 1) := Nat.pow_le_pow_right BB_pos (by omega)
      omega
    · exact h1
theorem limbs_lt {n k : Nat} (h : (limbs n).length ≤ k) : n < BB ^ k := by
  have h1 := val_lt (limbs_ok n)
  rw [val_limbs] at h1
  exact Nat.lt_of_lt_of_le h1 (Nat.pow_le_pow_right BB_pos h)

/- Comparing. -/
def cmpN (a b : Nat) : Int := if a < b then -1 else if b < a then 1 else 0
theorem cmpN_lt {a b : Nat} (h : a < b) : cmpN a b = -1 := by simp [cmpN, h]
theorem cmpN_gt {a b : Nat} (h : b < a) : cmpN a b = 1 := by have : ¬ a < b := by omega
                                                             simp [cmpN, h, this]
theorem cmpN_eq {a b : Nat} (h : a = b) : cmpN a b = 0 := by subst h; simp [cmpN]
theorem cmpN_neg (a b : Nat) : cmpN a b < 0 ↔ a < b := by
  unfold cmpN; split
  · simp [*]
  · split <;> simp <;> omega
theorem cmpN_range (a b : Nat) : -1 ≤ cmpN a b ∧ cmpN a b ≤ 1 := by unfold cmpN; split <;> (try split) <;> omega
/-- A greater limb at the same place decides, whatever lies below. -/
theorem val_lt_of_top {a b : List Nat} {i x y : Nat} (ha : ok a) (hx : a[i]? = some x) (hy : b[i]? = some y) (h : x < y) (hd : a.drop (i + 1) = b.drop (i + 1)) : val a < val b := by
  have hla := (List.getElem?_eq_some_iff.1 hx).1
  have hlb := (List.getElem?_eq_some_iff.1 hy).1
  rw [val_split a (i + 1) (by omega), val_split b (i + 1) (by omega), hd, val_take_succ hx, val_take_succ hy]
  have h1 := val_lt (ok_take ha i)
  rw [List.length_take, Nat.min_eq_left (by omega)] at h1
  have h2 : BB ^ i * (x + 1) ≤ BB ^ i * y := Nat.mul_le_mul_left _ h
  rw [Nat.mul_add] at h2
  omega
theorem val_lt_of_len {a b : List Nat} (ha : ok a) (h : tl a < tl b) : val a < val b := by
  have h1 := val_lt_tl ha
  have h2 := val_ge (l := b) (by omega)
  have h3 : BB ^ tl a ≤ BB ^ (tl b - 1) := Nat.pow_le_pow_right BB_pos (by omega)
  omega

/- The length in bits. -/
def blen (n : Nat) : Nat := if n = 0 then 0 else n.log2 + 1
theorem blen_zero : blen 0 = 0 := rfl
theorem blen_spec {n : Nat} (h : n ≠ 0) : 2 ^ (blen n - 1) ≤ n ∧ n < 2 ^ blen n := by
  unfold blen
  rw [if_neg h]
  exact ⟨by simpa using Nat.log2_self_le h, Nat.lt_log2_self⟩
theorem blen_unique {n k : Nat} (h1 : 2 ^ (k - 1) ≤ n) (h2 : n < 2 ^ k) (h0 : n ≠ 0) : blen n = k := by
  have ⟨h3, h4⟩ := blen_spec h0
  have a1 : k - 1 < blen n := by
    rcases Nat.lt_or_ge (k - 1) (blen n) with h | h
    · exact h
    · have := Nat.pow_le_pow_right (n := 2) (by omega) h; omega
  have a2 : blen n - 1 < k := by
    rcases Nat.lt_or_ge (blen n - 1) k with h | h
    · exact h
    · have := Nat.pow_le_pow_right (n := 2) (by omega) h; omega
  have : k ≠ 0 := by rintro rfl; simp at h2; omega
  omega
theorem blen_pos {n : Nat} (h : n ≠ 0) : 0 < blen n := by unfold blen; rw [if_neg h]; omega
theorem blen_mul {x k r : Nat} (hx : x ≠ 0) (hr : r < 2 ^ k) : blen (2 ^ k * x + r) = k + blen x := by
  have ⟨h1, h2⟩ := blen_spec hx
  have hp := blen_pos hx
  have hk : 0 < 2 ^ k := Nat.pow_pos (by omega)
  have hge : 2 ^ k * 1 ≤ 2 ^ k * x := Nat.mul_le_mul_left _ (by omega)
  refine blen_unique ?_ ?_ (by omega)
  · rw [show k + blen x - 1 = k + (blen x - 1) by omega, Nat.pow_add]
    exact Nat.le_trans (Nat.mul_le_mul_left _ h1) (Nat.le_add_right _ _)
  · rw [Nat.pow_add]
    have : 2 ^ k * (x + 1) ≤ 2 ^ k * 2 ^ blen x := Nat.mul_le_mul_left _ h2
    rw [Nat.mul_add] at this
    omega
theorem blen_le {n k : Nat} (h : n < 2 ^ k) : blen n ≤ k := by
  by_cases h0 : n = 0
  · rw [h0]; simp [blen]
  · rcases Nat.lt_or_ge k (blen n) with h1 | h1
    · have := (blen_spec h0).1
      have h3 := Nat.pow_le_pow_right (n := 2) (by omega) (show k ≤ blen n - 1 by omega)
      omega
    · exact h1
/-- The bits of a list: those of its last limb that is not 0, and 32 for each one below. -/
theorem blen_val {l : List Nat} {x : Nat} (h : ok l) (h0 : 0 < tl l) (hx : l[tl l - 1]? = some x) : blen (val l) = 32 * (tl l - 1) + blen x := by
  have hx0 := tl_last h0 hx
  have hl := tl_le l
  have h1 := val_trim l
  rw [show l.take (tl l) = l.take (tl l - 1 + 1) by congr 1; omega, val_take_succ hx] at h1
  have h2 := val_lt (ok_take h (tl l - 1))
  rw [List.length_take, Nat.min_eq_left (by omega)] at h2
  have e : BB ^ (tl l - 1) = 2 ^ (32 * (tl l - 1)) := by rw [BB_pow, ← Nat.pow_mul]
  rw [e] at h1 h2
  rw [← h1, Nat.add_comm, blen_mul hx0 h2]
end Go.Fl.Nm
namespace Go.Fl
open Go.ChangeShapes Go.WideShapes Go.RowKit

section
variable {H : Type} {enc : TypeId × Value → H} {P : Program} {w : World} {base : Nat} {spare : Nat → Bool} {held : Bool}

theorem open_ints_rd {t e : TypeId} {k : IntKind} {fuel : Nat} {a : Option Addr} {len cap : Nat} {x : DataW H × List MemPlace} (ht : P.underlying t = some (.slice e)) (he : P.underlying e = some (.int k)) (hc : P.cellsOf e = 1)
    (h : DataW.trod enc P w base spare held fuel t [.slice a len cap] = some x) :
    len ≤ maxLen ∧ len ≤ cap ∧ cap ≤ maxLen ∧ (a = none → cap = 0) ∧ ∃ zs : List Int, zs.length = len ∧ (∀ z ∈ zs, (Lit.int k z).wf = true) ∧ Rd w 1 a len (zs.map (Value.int k)) := by
  rcases open_ints ht he hc h with ⟨hcs, _⟩ | ⟨ad, l, c, zs, hcs, hb, hl, hm, hlen, _, hcell, hwf⟩
  · injection hcs with hcs
    injection hcs with h1 h2 h3
    subst h1 h2 h3
    exact ⟨by omega, by omega, by unfold maxLen; omega, fun _ => rfl, [], rfl, by simp, Rd.none_ _ _⟩
  · injection hcs with hcs
    injection hcs with h1 h2 h3
    subst h1 h2 h3
    have hlz : len ≤ zs.length := by rw [hlen]; split <;> omega
    refine ⟨by omega, hl, hm, fun h => (by cases h), zs.take len, by simp; omega, fun z hz => hwf z (List.mem_of_mem_take hz), ⟨by simp; omega, fun h0 => ?_⟩⟩
    have h00 := hcell 0 (by omega)
    have hspot : ad.spot = none ∧ ad.block < w.heap.size := by
      simp only [Addr.add, if_pos] at h00
      unfold World.cell? at h00
      split at h00
      · rename_i c e f hh
        refine ⟨?_, (Array.getElem?_eq_some_iff.1 hh).1⟩
        split at h00
        · cases h00
        · rename_i hs
          simpa using hs
      · cases h00
    obtain ⟨b, off, sp⟩ := ad
    obtain ⟨rfl, hbl⟩ : sp = none ∧ b < w.heap.size := hspot
    refine ⟨b, off, rfl, hbl, fun j u hu => ?_⟩
    rw [List.getElem?_map] at hu
    have hj : j < len := by
      rcases Nat.lt_or_ge j len with h | h
      · exact h
      · rw [List.getElem?_eq_none (by simp; omega)] at hu; cases hu
    rw [List.getElem?_take_of_lt hj, List.getElem?_eq_getElem (by omega)] at hu
    simp only [Option.map_some] at hu
    injection hu with hu
    have hcj := hcell j (by omega)
    rw [Addr.add_lit] at hcj
    rw [hcj, ← hu, List.getD_eq_getElem?_getD, List.getElem?_eq_getElem (by omega)]
    rfl
end
end Go.Fl
namespace Go.Fl.Nm
open Go.RowKit Go.Fl

/-- The cells of limbs. -/
def U (l : List Nat) : List Value := l.map fun x : Nat => Value.int .u32 (x : Int)
theorem U_len (l : List Nat) : (U l).length = l.length := by simp [U]
theorem U_at (l : List Nat) (i x : Nat) (h : l[i]? = some x) : (U l)[i]? = some (.int .u32 x) := by simp [U, h]
theorem U_nil : U [] = [] := rfl
theorem U_take (l : List Nat) (n : Nat) : U (l.take n) = (U l).take n := by simp [U]
theorem U_drop (l : List Nat) (n : Nat) : U (l.drop n) = (U l).drop n := by simp [U]
theorem U_append (a b : List Nat) : U (a ++ b) = U a ++ U b := by simp [U]
theorem U_set (l : List Nat) (i x : Nat) : U (l.set i x) = (U l).set i (.int .u32 x) := by simp [U, List.map_set]

/-- The slice value '.slice A n c' holds the limbs l. -/
def Sl (w : World) (A : Option Addr) (n c : Nat) (l : List Nat) : Prop :=
  l.length = n ∧ ok l ∧ n ≤ c ∧ c ≤ maxLen ∧ (A = none → c = 0) ∧ Rd w 1 A n (U l)

section
variable {w w' : World} {A : Option Addr} {n c : Nat} {l : List Nat}
theorem Sl.len (h : Sl w A n c l) : l.length = n := h.1
theorem Sl.ok (h : Sl w A n c l) : ok l := h.2.1
theorem Sl.cap (h : Sl w A n c l) : n ≤ c := h.2.2.1
theorem Sl.capMax (h : Sl w A n c l) : c ≤ maxLen := h.2.2.2.1
theorem Sl.nil (h : Sl w A n c l) : A = none → c = 0 := h.2.2.2.2.1
theorem Sl.rd (h : Sl w A n c l) : Rd w 1 A n (U l) := h.2.2.2.2.2
theorem Sl.max (h : Sl w A n c l) : n ≤ maxLen := Nat.le_trans h.cap h.capMax
theorem Sl.below (h : Sl w A n c l) (hb : Below w.heap.size w w') : Sl w' A n c l := ⟨h.1, h.2.1, h.2.2.1, h.2.2.2.1, h.2.2.2.2.1, h.rd.below hb⟩
theorem Sl.alloc (h : Sl w A n c l) (o : Obj) : Sl (w.alloc o) A n c l := ⟨h.1, h.2.1, h.2.2.1, h.2.2.2.1, h.2.2.2.2.1, h.rd.alloc o⟩
theorem Sl.drewN (h : Sl w A n c l) (k : Nat) : Sl (w.drewN k) A n c l := h
theorem Sl.none_ (w : World) : Sl w none 0 0 [] := ⟨rfl, ok_nil, Nat.le_refl _, by unfold maxLen; omega, fun _ => rfl, Rd.none_ _ _⟩
theorem Sl.at_ (h : Sl w A n c l) {i : Nat} (hi : i < n) : ∃ b off x, A = some ⟨b, off, none⟩ ∧ b < w.heap.size ∧ l[i]? = some x ∧ x < BB ∧ w.cell? ⟨b, off + i, none⟩ = some (.int .u32 x) := by
  obtain ⟨b, off, hA, hb, hc⟩ := h.rd.at_ (by omega)
  have hil : i < l.length := by rw [h.len]; exact hi
  exact ⟨b, off, l[i], hA, hb, List.getElem?_eq_getElem hil, ok_at h.ok (List.getElem?_eq_getElem hil), hc i _ (U_at l i _ (List.getElem?_eq_getElem hil))⟩
/-- The first m limbs, with any capacity from m on. -/
theorem Sl.cut (h : Sl w A n c l) {m c' : Nat} (hm : m ≤ n) (hc : m ≤ c') (hc' : c' ≤ maxLen) (hn : A = none → c' = 0) : Sl w A m c' (l.take m) :=
  ⟨by rw [List.length_take, h.len]; omega, ok_take h.ok m, hc, hc', hn, by
    refine ⟨by rw [U_len, List.length_take, h.len]; omega, fun h0 => ?_⟩
    obtain ⟨b, off, hA, hb, hcell⟩ := h.rd.at_ (by omega)
    refine ⟨b, off, hA, hb, fun j u hu => hcell j u ?_⟩
    rw [U_take] at hu
    have hj : j < m := by
      rcases Nat.lt_or_ge j m with hj | hj
      · exact hj
      · rw [List.getElem?_eq_none (by simp; omega)] at hu; cases hu
    rwa [List.getElem?_take_of_lt hj] at hu⟩
end
end Go.Fl.Nm

namespace Go.Proofs.YtkjoohnndobjeaaGreatDoor
open Go.RowKit Go.Fl Go.Fl.Nm

end Go.Proofs.YtkjoohnndobjeaaGreatDoor
namespace Go.Fl.Nm
open Go.RowKit Go.Fl

theorem bv_bits (op : BinOp) (f : BitVec 32 → BitVec 32 → BitVec 32) (h : ∀ a b : Int, bits op .u32 a b = IntKind.u32.wrap (f (BitVec.ofInt 32 a) (BitVec.ofInt 32 b)).toNat) (A B : BitVec 32) :
    bits op .u32 (A.toNat : Int) (B.toNat : Int) = ((f A B).toNat : Int) := by
  rw [h, IntKind.wrap_u32]
  have e : ∀ V : BitVec 32, BitVec.ofInt 32 (V.toNat : Int) = V := fun V => by simp
  rw [e, e]
  have := (f A B).isLt
  omega
theorem bv_and (A B : BitVec 32) : bits .and .u32 (A.toNat : Int) (B.toNat : Int) = ((A &&& B).toNat : Int) := bv_bits .and (· &&& ·) (fun _ _ => rfl) A B
theorem bv_or (A B : BitVec 32) : bits .or .u32 (A.toNat : Int) (B.toNat : Int) = ((A ||| B).toNat : Int) := bv_bits .or (· ||| ·) (fun _ _ => rfl) A B
theorem bv_xor (A B : BitVec 32) : bits .xor .u32 (A.toNat : Int) (B.toNat : Int) = ((A ^^^ B).toNat : Int) := bv_bits .xor (· ^^^ ·) (fun _ _ => rfl) A B
theorem bv_top (V : BitVec 32) : V.toNat / 2147483648 = if V.msb then 1 else 0 := by
  have := V.isLt
  rw [BitVec.msb_eq_decide]
  by_cases h : 2147483648 ≤ V.toNat
  · simp [h]; omega
  · simp [h]; omega
/-- What Sub32 borrows. -/
def bor (x y c : Nat) : Nat := if x < y + c then 1 else 0
theorem bor_le (x y c : Nat) : bor x y c ≤ 1 := by unfold bor; split <;> omega
theorem bor_spec (x y c : Nat) (hx : x < 4294967296) (hy : y < 4294967296) (hc : c ≤ 1) : (((x : Int) - y - c) % 4294967296).toNat + y + c = x + 4294967296 * bor x y c := by
  unfold bor; split <;> omega
theorem sub32_bits (x y c : Nat) (hx : x < 4294967296) (hy : y < 4294967296) (hc : c ≤ 1) :
    bits BinOp.or IntKind.u32 (bits BinOp.and IntKind.u32 (bits BinOp.xor IntKind.u32 IntKind.u32.max (x : Int)) (y : Int))
      (bits BinOp.and IntKind.u32 (bits BinOp.xor IntKind.u32 IntKind.u32.max (bits BinOp.xor IntKind.u32 (x : Int) (y : Int))) (((x : Int) - y - c) % 4294967296)) / 2147483648 = ((bor x y c : Nat) : Int) := by
  obtain ⟨d, hd⟩ : ∃ d : Nat, ((x : Int) - y - c) % 4294967296 = (d : Int) := ⟨(((x : Int) - y - c) % 4294967296).toNat, by omega⟩
  have hd32 : d < 4294967296 := by omega
  have e : ∀ n : Nat, n < 4294967296 → (n : Int) = ((BitVec.ofNat 32 n).toNat : Int) := fun n h => by
    rw [BitVec.toNat_ofNat, Nat.mod_eq_of_lt (by simpa using h)]
  have em : IntKind.u32.max = ((BitVec.allOnes 32).toNat : Int) := by decide
  rw [hd, e x hx, e y hy, e d hd32, em]
  simp only [bv_and, bv_or, bv_xor]
  have key := bv_top ((BitVec.allOnes 32 ^^^ BitVec.ofNat 32 x) &&& BitVec.ofNat 32 y ||| (BitVec.allOnes 32 ^^^ (BitVec.ofNat 32 x ^^^ BitVec.ofNat 32 y)) &&& BitVec.ofNat 32 d)
  have m : ∀ n : Nat, n < 4294967296 → (BitVec.ofNat 32 n).msb = decide (2147483648 ≤ n) := fun n h => by
    rw [BitVec.msb_eq_decide, BitVec.toNat_ofNat, Nat.mod_eq_of_lt (by simpa using h)]
  have ma : (BitVec.allOnes 32).msb = true := by decide
  simp only [BitVec.msb_or, BitVec.msb_and, BitVec.msb_xor, m x hx, m y hy, m d hd32, ma] at key
  have : ((bor x y c : Nat) : Int) = (((((BitVec.allOnes 32 ^^^ BitVec.ofNat 32 x) &&& BitVec.ofNat 32 y ||| (BitVec.allOnes 32 ^^^ (BitVec.ofNat 32 x ^^^ BitVec.ofNat 32 y)) &&& BitVec.ofNat 32 d)).toNat / 2147483648 : Nat) : Int) := by
    rw [key]
    clear key
    unfold bor
    by_cases h0 : x < y + c <;> by_cases h1 : 2147483648 ≤ x <;> by_cases h2 : 2147483648 ≤ y <;> by_cases h3 : 2147483648 ≤ d <;> first | (exfalso; omega) | simp [h0, h1, h2, h3]
  rw [this]
  simp
theorem or_join64 (x y : Nat) (hx : x % 4294967296 = 0) (hx1 : x < 18446744073709551616) (hy : y < 4294967296) : bits .or .u64 (x : Int) (y : Int) = ((x + y : Nat) : Int) := by
  have := bits_join .u64 64 (by decide) (fun n h0 h1 => by simp [IntKind.wrap, IntKind.bits, IntKind.signed]; omega) 32 x y (by omega) (by omega) (by omega) (by omega) (by omega) (by omega)
  rw [this]; omega
end Go.Fl.Nm
namespace Go.Proofs.YtkjoohnndobjeaaGreatDoor
open Go.RowKit Go.Fl Go.Fl.Nm

theorem ret_ints {k k' : IntKind} {a b a' b' : Int} (h : a = a') (h' : b = b') : Ending.returned (.tuple #[.int k a, .int k' b]) = .returned (.tuple #[.int k a', .int k' b']) := by rw [h, h']

theorem mod_div (Z y : Nat) (h : Z / y < 4294967296) : ((Z : Int) / y) % 4294967296 = ((Z / y : Nat) : Int) := by
  rw [← Int.natCast_ediv]; generalize Z / y = q at *; omega
theorem mod_mod (Z y : Nat) (h : Z % y < 4294967296) : ((Z : Int) % y) % 4294967296 = ((Z % y : Nat) : Int) := by
  rw [← Int.natCast_emod]; generalize Z % y = q at *; omega

end Go.Proofs.YtkjoohnndobjeaaGreatDoor
namespace Go.Proofs
open Go.Shelf
def Tryz.lays129_ren : Go.Shelf.Ren := ⟨fun | 129 => 188 | n => n, fun | 53 => 163 | 3 => 3 | 4 => 4 | 46 => 167 | 5 => 5 | 9 => 9 | n => n, fun | n => n⟩
theorem Tryz.lays129 : Go.Proofs.Lays.n129 Tryz.prog Tryz.lays129_ren := {
  mixed := by kernel_rfl
  f129 := Tryz.func188.trans (congrArg some (by kernel_rfl))
  t3 := Tryz.underlying3
  a3 := Tryz.isAgg3
  z3 := Tryz.sizeOf3
  v3 := Tryz.zeroValue3
  t4 := Tryz.underlying4
  a4 := Tryz.isAgg4
  z4 := Tryz.sizeOf4
  v4 := Tryz.zeroValue4
  t5 := Tryz.underlying5
  a5 := Tryz.isAgg5
  z5 := Tryz.sizeOf5
  v5 := Tryz.zeroValue5
  t9 := Tryz.underlying9
  a9 := Tryz.isAgg9
  z9 := Tryz.sizeOf9
  v9 := Tryz.zeroValue9
  t46 := Tryz.underlying167
  a46 := Tryz.isAgg167
  z46 := Tryz.sizeOf167
  v46 := Tryz.zeroValue167
  t53 := Tryz.underlying163
  a53 := Tryz.isAgg163
  z53 := Tryz.sizeOf163
  v53 := Tryz.zeroValue163 }
/-- bits.Len64: "Len64 returns the minimum number of bits required to represent x; the result is 0 for x == 0.": IT RETURNS 'Lib.bitLen x'; the world is as it was. ('h0', 'h1': x is a uint64.) (LAID: no walk: one application.) -/
theorem Tryz.bits_Len64 (x : Int) (w : World) (h0 : 0 ≤ x) (h1 : x ≤ 18446744073709551615) :
    Calls Tryz.prog 188 #[.int .u64 x] w fun e w' => e = .returned (.int .i64 (Lib.bitLen x.toNat)) ∧ w' = w := Any.bits_Len64 Tryz.lays129 x w h0 h1
end Go.Proofs
namespace Go.Proofs.YtkjoohnndobjeaaGreatDoor
open Go.RowKit Go.Fl Go.Fl.Nm

theorem bitLen_blen (x : Nat) (h : x < 2 ^ 64) : Lib.bitLen x = blen x := by
  induction x using Nat.strongRecOn with
  | ind x ih =>
    by_cases h0 : x = 0
    · subst h0; rfl
    · rw [Lib.bitLen_half x h0 h, ih (x / 2) (by omega) (by omega)]
      by_cases h1 : x / 2 = 0
      · have : x = 1 := by omega
        subst this; rfl
      · have e : x = 2 ^ 1 * (x / 2) + x % 2 := by omega
        conv => rhs; rw [e]
        rw [blen_mul h1 (by omega)]

/-- A slice value by its parts. -/
abbrev SV := Option Addr × Nat × Nat
def sv (p : SV) : Value := .slice p.1 p.2.1 p.2.2
def longer (K : Nat) (p : SV) : Bool := decide (K < p.2.1)

def LenFn (F K : Nat) : Prop := ∀ (A : Option Addr) (n c : Nat) (w : World), n ≤ maxLen → Calls Tryz.prog F #[.slice A n c] w fun e w' => e = .returned (.bool (decide (K < n))) ∧ w = w'
def IdxPost (b : Bool) (w : World) (e : Ending) (w' : World) : Prop := ∃ r : Int, e = .returned (.int .i64 r) ∧ Hid (decide (0 ≤ r) = b) ∧ w = w'

/-- A function that asks whether one of some slices is longer than K. -/
def LongFn (f K : Nat) : Prop := ∀ (g m : Nat) (xs : List SV) (w : World), xs.length = m → m ≤ 1000 → (∀ p ∈ xs, p.2.1 ≤ maxLen) → (∀ j p, xs[j]? = some p → w.cell? ⟨g, j, none⟩ = some (sv p)) →
    Calls Tryz.prog f #[.slice (some ⟨g, 0, none⟩) m m] w fun e w' => e = .returned (.bool (xs.any (longer K))) ∧ w = w'
end Go.Proofs.YtkjoohnndobjeaaGreatDoor
namespace Go.Proofs.YtkjoohnndobjeaaGreatDoor
open Go.RowKit Go.Fl Go.Fl.Nm

theorem drewN_drewN (w : World) (a b : Nat) : (w.drewN a).drewN b = w.drewN (a + b) := by
  unfold World.drewN; simp [Nat.add_assoc]

theorem drew1 {w wr : World} (h : ∃ q, wr = w.drewN q) (k : Nat) : ∃ q, wr.drewN k = w.drewN q := by
  obtain ⟨q, rfl⟩ := h
  exact ⟨_, drewN_drewN w q k⟩

def CmpPost (w : World) (r : Int) (e : Ending) (w' : World) : Prop := e = .returned (.int .i64 r) ∧ ∃ q, w' = w.drewN q

end Go.Proofs.YtkjoohnndobjeaaGreatDoor
namespace Go.Fl.Nm
open Go.RowKit Go.Fl

/-- The cells of a block that holds just the limbs l. -/
def UA (l : List Nat) : Array Value := (U l).toArray
theorem UA_size (l : List Nat) : (UA l).size = l.length := by simp [UA, U]
theorem UA_at (l : List Nat) (i x : Nat) (h : l[i]? = some x) : (UA l)[i]? = some (.int .u32 x) := by
  unfold UA; rw [List.getElem?_toArray]; exact U_at l i x h
theorem UA_set (l : List Nat) (i x : Nat) : (UA l).setIfInBounds i (.int .u32 x) = UA (l.set i x) := by
  unfold UA; rw [U_set]; simp
def zeros (n : Nat) : List Nat := List.replicate n 0
theorem zeros_len (n : Nat) : (zeros n).length = n := by simp [zeros]
theorem zeros_at (n j : Nat) (h : j < n) : (zeros n)[j]? = some 0 := by simp [zeros, h]
theorem made_zeros (n : Nat) : madeCells (Value.int .u32 0).cells (n * 1) = UA (zeros n) := by
  apply Array.ext_getElem?
  intro i
  unfold madeCells UA U zeros
  by_cases h : i < n
  · simp [Value.cells, h, Nat.mod_one]
  · simp [h]
theorem blkU_cell {w : World} {g : Nat} {t : TypeId} {l : List Nat} (h : Blk w g t (UA l)) {i x : Nat} (hx : l[i]? = some x) : w.cell? ⟨g, i, none⟩ = some (.int .u32 x) := (h.cell i).trans (UA_at l i x hx)
theorem blkU_set {w : World} {g : Nat} {t : TypeId} {l : List Nat} (h : Blk w g t (UA l)) (i x : Nat) : Blk (w.setCell ⟨g, i, none⟩ (.int .u32 x)) g t (UA (l.set i x)) := by
  rw [h.setCell_eq, UA_set]; exact h.put _
theorem setCell_size (w : World) (a : Addr) (v : Value) : (w.setCell a v).heap.size = w.heap.size := by simp [World.setCell]
theorem at_set_ne {α : Type} {l : List α} {i j : Nat} (x : α) (h : i ≠ j) : (l.set i x)[j]? = l[j]? := by rw [List.getElem?_set_ne h]
theorem val_set {l : List Nat} {j o : Nat} (z : Nat) (h : l[j]? = some o) : val (l.set j z) + BB ^ j * o = val l + BB ^ j * z := by
  induction l generalizing j with
  | nil => simp at h
  | cons x l ih =>
    cases j with
    | zero => simp at h; subst h; simp [val_cons]; omega
    | succ j =>
      simp only [List.getElem?_cons_succ] at h
      have := ih h
      simp only [List.set_cons_succ, val_cons, Nat.pow_succ]
      have e1 : BB ^ j * BB * o = BB * (BB ^ j * o) := by rw [Nat.mul_comm (BB ^ j) BB, Nat.mul_assoc]
      have e2 : BB ^ j * BB * z = BB * (BB ^ j * z) := by rw [Nat.mul_comm (BB ^ j) BB, Nat.mul_assoc]
      have e3 : BB * (val (l.set j z) + BB ^ j * o) = BB * (val l + BB ^ j * z) := by rw [this]
      rw [Nat.mul_add, Nat.mul_add] at e3
      rw [e1, e2]; omega
theorem val_set0 {l : List Nat} {j : Nat} (z : Nat) (h : l[j]? = some 0) : val (l.set j z) = val l + BB ^ j * z := by
  have := val_set z h; simpa using this

/-- A slice in a block from 'base' on, at the block's head, that nothing else names. -/
def Nw (w : World) (t : TypeId) (base : Nat) (A : Option Addr) (n c : Nat) (l : List Nat) : Prop :=
  Sl w A n c l ∧ (0 < n → ∃ (g : Nat) (cs : Array Value), A = some ⟨g, 0, none⟩ ∧ base ≤ g ∧ Blk w g t cs)
theorem Nw.sl {w : World} {t : TypeId} {base : Nat} {A : Option Addr} {n c : Nat} {l : List Nat} (h : Nw w t base A n c l) : Sl w A n c l := h.1
theorem Nw.cut {w : World} {t : TypeId} {base : Nat} {A : Option Addr} {n c : Nat} {l : List Nat} (h : Nw w t base A n c l) {m c' : Nat} (hm : m ≤ n) (hc : m ≤ c') (hc' : c' ≤ maxLen) (hn : A = none → c' = 0) : Nw w t base A m c' (l.take m) :=
  ⟨h.1.cut hm hc hc' hn, fun h0 => h.2 (by omega)⟩
theorem Nw.below {w w' : World} {t : TypeId} {base : Nat} {A : Option Addr} {n c : Nat} {l : List Nat} (h : Nw w t base A n c l) (hb : Below w.heap.size w w') : Nw w' t base A n c l :=
  ⟨h.1.below hb, fun h0 => by
    obtain ⟨g, cs, hA, hg, hB⟩ := h.2 h0
    exact ⟨g, cs, hA, hg, hB.below hb hB.lt⟩⟩
theorem Nw.base {w : World} {t : TypeId} {base base' : Nat} {A : Option Addr} {n c : Nat} {l : List Nat} (h : Nw w t base A n c l) (hb : base' ≤ base) : Nw w t base' A n c l :=
  ⟨h.1, fun h0 => by
    obtain ⟨g, cs, hA, hg, hB⟩ := h.2 h0
    exact ⟨g, cs, hA, by omega, hB⟩⟩
theorem Nw.alloc {w : World} {t : TypeId} {base : Nat} {A : Option Addr} {n c : Nat} {l : List Nat} (h : Nw w t base A n c l) (o : Obj) : Nw (w.alloc o) t base A n c l :=
  ⟨h.1.alloc o, fun h0 => by
    obtain ⟨g, cs, hA, hg, hB⟩ := h.2 h0
    exact ⟨g, cs, hA, hg, hB.alloc o⟩⟩
theorem Nw.none_ (w : World) (t : TypeId) (base : Nat) : Nw w t base none 0 0 [] := ⟨Sl.none_ w, fun h => absurd h (by omega)⟩
/-- Out of a block that is known whole. -/
theorem Nw.of_blk {w : World} {t : TypeId} {base g n : Nat} {l : List Nat} (hB : Blk w g t (UA l)) (hok : ok l) (hg : base ≤ g) (hn : l.length = n) (hm : n ≤ maxLen) : Nw w t base (some ⟨g, 0, none⟩) n n l :=
  ⟨⟨hn, hok, Nat.le_refl _, hm, fun h => (by cases h), by rw [U_len, hn]; omega, fun _ => ⟨g, 0, rfl, hB.lt, fun j u hu => by
    rw [Nat.zero_add, hB.cell]
    unfold UA
    rw [List.getElem?_toArray]; exact hu⟩⟩, fun _ => ⟨g, _, rfl, hg, hB⟩⟩
end Go.Fl.Nm

namespace Go.Proofs.YtkjoohnndobjeaaGreatDoor
open Go.RowKit Go.Fl Go.Fl.Nm

/-- The element type of the new slices. -/
abbrev tU : TypeId := 183
theorem Tryz.infoU32 : (Tryz.prog.info? 183).map (fun i => (i.zero, i.size, i.bytes)) = some (some (.int .u32 0), 1, 4) := by kernel_rfl
/-- A new slice with the value v, of at most N limbs. -/
def Fv (N v : Nat) (w : World) (e : Ending) (w' : World) : Prop :=
  ∃ (A : Option Addr) (n c : Nat) (l : List Nat), e = .returned (.slice A n c) ∧ Hid (Nw w' tU w.heap.size A n c l) ∧ Hid (val l = v) ∧ n ≤ N ∧ Hid (Below w.heap.size w w')

def AddRel (w : World) (g n : Nat) (a b : List Nat) (k : Nat) (cv iv : Value) (wr : World) : Prop :=
  ∃ (i cc : Nat) (l : List Nat), iv = .int .i64 i ∧ cv = .int .u32 cc ∧ cc ≤ 1 ∧ i ≤ n ∧ k = n - i ∧ Hid (l.length = n + 1) ∧ Hid (ok l) ∧ Hid (Blk wr g tU (UA l)) ∧
    Hid (val l + BB ^ i * cc = val (a.take i) + val (b.take i)) ∧ Hid (∀ j, i ≤ j → j < n + 1 → l[j]? = some 0) ∧ Hid (Below w.heap.size w wr)

theorem add_step {l a b : List Nat} {i n x y cc : Nat} (hl : l.length = n + 1) (hok : ok l) (hi : i < n) (hv : val l + BB ^ i * cc = val (a.take i) + val (b.take i)) (hz : ∀ j, i ≤ j → j < n + 1 → l[j]? = some 0)
    (ha : val (a.take (i + 1)) = val (a.take i) + BB ^ i * x) (hb : val (b.take (i + 1)) = val (b.take i) + BB ^ i * y) :
    (l.set i ((x + y + cc) % BB)).length = n + 1 ∧ ok (l.set i ((x + y + cc) % BB)) ∧ val (l.set i ((x + y + cc) % BB)) + BB ^ (i + 1) * ((x + y + cc) / BB) = val (a.take (i + 1)) + val (b.take (i + 1)) ∧
      (∀ j, i + 1 ≤ j → j < n + 1 → (l.set i ((x + y + cc) % BB))[j]? = some 0) := by
  refine ⟨by simp [hl], ok_set hok _ _ (Nat.mod_lt _ BB_pos), ?_, fun j h1 h2 => by rw [at_set_ne _ (by omega)]; exact hz j (by omega) h2⟩
  rw [val_set0 _ (hz i (by omega) (by omega)), ha, hb, Nat.pow_succ, Nat.mul_assoc]
  have e : BB ^ i * (x + y + cc) = BB ^ i * ((x + y + cc) % BB) + BB ^ i * (BB * ((x + y + cc) / BB)) := by rw [← Nat.mul_add, Nat.mod_add_div]
  simp only [Nat.mul_add] at e ⊢
  omega

end Go.Proofs.YtkjoohnndobjeaaGreatDoor
namespace Go.Proofs.YtkjoohnndobjeaaGreatDoor
open Go.RowKit Go.Fl Go.Fl.Nm

def SubPost (x y c : Nat) (w : World) (e : Ending) (w' : World) : Prop := ∃ d r : Nat, e = .returned (.tuple #[.int .u32 d, .int .u32 r]) ∧ d < BB ∧ r ≤ 1 ∧ Hid (d + y + c = x + BB * r) ∧ w = w'
theorem val_beyond {l : List Nat} {i : Nat} (h : l.length ≤ i) : val (l.take (i + 1)) = val (l.take i) + BB ^ i * 0 := by
  rw [List.take_of_length_le h, List.take_of_length_le (by omega)]; simp

def SubRel (w : World) (g n : Nat) (a b : List Nat) (k : Nat) (cv iv : Value) (wr : World) : Prop :=
  ∃ (i cc : Nat) (l : List Nat), iv = .int .i64 i ∧ cv = .int .u32 cc ∧ cc ≤ 1 ∧ i ≤ n ∧ k = n - i ∧ Hid (l.length = n) ∧ Hid (ok l) ∧ Hid (Blk wr g tU (UA l)) ∧
    Hid (val l + val (b.take i) = val (a.take i) + BB ^ i * cc) ∧ Hid (∀ j, i ≤ j → j < n → l[j]? = some 0) ∧ Hid (Below w.heap.size w wr)

theorem sub_step {l a b : List Nat} {i n x y cc d r : Nat} (hl : l.length = n) (hok : ok l) (hi : i < n) (hv : val l + val (b.take i) = val (a.take i) + BB ^ i * cc) (hz : ∀ j, i ≤ j → j < n → l[j]? = some 0)
    (ha : val (a.take (i + 1)) = val (a.take i) + BB ^ i * x) (hb : val (b.take (i + 1)) = val (b.take i) + BB ^ i * y) (hd : d < BB) (he : d + y + cc = x + BB * r) :
    (l.set i d).length = n ∧ ok (l.set i d) ∧ val (l.set i d) + val (b.take (i + 1)) = val (a.take (i + 1)) + BB ^ (i + 1) * r ∧
      (∀ j, i + 1 ≤ j → j < n → (l.set i d)[j]? = some 0) := by
  refine ⟨by simp [hl], ok_set hok _ _ hd, ?_, fun j h1 h2 => by rw [at_set_ne _ (by omega)]; exact hz j (by omega) h2⟩
  rw [val_set0 _ (hz i (by omega) (by omega)), ha, hb, Nat.pow_succ, Nat.mul_assoc]
  have e : BB ^ i * (d + y + cc) = BB ^ i * (x + BB * r) := by rw [he]
  simp only [Nat.mul_add] at e ⊢
  omega

end Go.Proofs.YtkjoohnndobjeaaGreatDoor
namespace Go.Proofs.YtkjoohnndobjeaaGreatDoor
open Go.RowKit Go.Fl Go.Fl.Nm

def MulRel (w : World) (g n m : Nat) (a b : List Nat) (k : Nat) (iv : Value) (wr : World) : Prop :=
  ∃ (i : Nat) (l : List Nat), iv = .int .i64 i ∧ i ≤ n ∧ k = n - i ∧ Hid (l.length = n + m) ∧ Hid (ok l) ∧ Hid (Blk wr g tU (UA l)) ∧
    Hid (val l = val (a.take i) * val b) ∧ Hid (∀ j, i + m ≤ j → j < n + m → l[j]? = some 0) ∧ Hid (Below w.heap.size w wr)
def MulIn (w : World) (g n m i x : Nat) (b l0 : List Nat) (k : Nat) (cv iv : Value) (wr : World) : Prop :=
  ∃ (kk cc : Nat) (l : List Nat), iv = .int .i64 kk ∧ cv = .int .u64 cc ∧ cc < 4294967296 ∧ kk ≤ m ∧ k = m - kk ∧ Hid (l.length = n + m) ∧ Hid (ok l) ∧ Hid (Blk wr g tU (UA l)) ∧
    Hid (val l + BB ^ (i + kk) * cc = val l0 + BB ^ i * (x * val (b.take kk))) ∧ Hid (∀ j, i + m ≤ j → j < n + m → l[j]? = some 0) ∧ Hid (Below w.heap.size w wr)

theorem mul_step {l l0 b : List Nat} {i n m kk x y o cc : Nat} (hl : l.length = n + m) (hok : ok l) (hv : val l + BB ^ (i + kk) * cc = val l0 + BB ^ i * (x * val (b.take kk)))
    (hz : ∀ j, i + m ≤ j → j < n + m → l[j]? = some 0) (hk : kk < m) (hb : val (b.take (kk + 1)) = val (b.take kk) + BB ^ kk * y) (ho : l[i + kk]? = some o) :
    (l.set (i + kk) ((x * y + o + cc) % BB)).length = n + m ∧ ok (l.set (i + kk) ((x * y + o + cc) % BB)) ∧
      val (l.set (i + kk) ((x * y + o + cc) % BB)) + BB ^ (i + (kk + 1)) * ((x * y + o + cc) / BB) = val l0 + BB ^ i * (x * val (b.take (kk + 1))) ∧
      (∀ j, i + m ≤ j → j < n + m → (l.set (i + kk) ((x * y + o + cc) % BB))[j]? = some 0) := by
  refine ⟨by simp [hl], ok_set hok _ _ (Nat.mod_lt _ BB_pos), ?_, fun j h1 h2 => by rw [at_set_ne _ (by omega)]; exact hz j h1 h2⟩
  have h1 := val_set ((x * y + o + cc) % BB) ho
  rw [hb, ← Nat.add_assoc i kk 1, Nat.pow_succ, Nat.mul_assoc (BB ^ (i + kk))]
  have e : BB ^ (i + kk) * (x * y + o + cc) = BB ^ (i + kk) * ((x * y + o + cc) % BB) + BB ^ (i + kk) * (BB * ((x * y + o + cc) / BB)) := by rw [← Nat.mul_add, Nat.mod_add_div]
  have e2 : BB ^ i * (x * (val (b.take kk) + BB ^ kk * y)) = BB ^ i * (x * val (b.take kk)) + BB ^ (i + kk) * (x * y) := by
    rw [Nat.mul_add x, Nat.mul_add, Nat.pow_add, Nat.mul_left_comm x, Nat.mul_assoc (BB ^ i)]
  rw [e2]
  simp only [Nat.mul_add] at e h1 ⊢
  omega
theorem mul_out {l l0 a b : List Nat} {i n m x cc : Nat} (hl : l.length = n + m) (hok : ok l) (hv : val l + BB ^ (i + m) * cc = val l0 + BB ^ i * (x * val b)) (h0 : val l0 = val (a.take i) * val b)
    (hz : ∀ j, i + m ≤ j → j < n + m → l[j]? = some 0) (hi : i < n) (hc : cc < BB) (ha : val (a.take (i + 1)) = val (a.take i) + BB ^ i * x) :
    (l.set (i + m) cc).length = n + m ∧ ok (l.set (i + m) cc) ∧ val (l.set (i + m) cc) = val (a.take (i + 1)) * val b ∧ (∀ j, i + 1 + m ≤ j → j < n + m → (l.set (i + m) cc)[j]? = some 0) := by
  refine ⟨by simp [hl], ok_set hok _ _ hc, ?_, fun j h1 h2 => by rw [at_set_ne _ (by omega)]; exact hz j (by omega) h2⟩
  rw [val_set0 _ (hz (i + m) (by omega) (by omega)), hv, h0, ha, Nat.add_mul, Nat.mul_assoc]
theorem mul_bd {x y : Nat} (hx : x < 4294967296) (hy : y < 4294967296) : (x : Int) * y ≤ 18446744065119617025 ∧ 0 ≤ (x : Int) * y ∧ x * y ≤ 18446744065119617025 := by
  have h : x * y ≤ 4294967295 * 4294967295 := Nat.mul_le_mul (by omega) (by omega)
  have e : ((x * y : Nat) : Int) = (x : Int) * y := by simp
  refine ⟨?_, ?_, by omega⟩ <;> rw [← e] <;> omega

end Go.Proofs.YtkjoohnndobjeaaGreatDoor
namespace Go.Proofs.YtkjoohnndobjeaaGreatDoor
open Go.RowKit Go.Fl Go.Fl.Nm

def ShortPost (n d v : Nat) (w : World) (e : Ending) (w' : World) : Prop :=
  ∃ (A : Option Addr) (c : Nat) (l : List Nat), e = .returned (.tuple #[.slice A n c, .int .u32 (v % d : Nat)]) ∧ Hid (Nw w' tU w.heap.size A n c l) ∧ Hid (val l = v / d) ∧ Hid (Below w.heap.size w w')
def ShortRel (w : World) (g n d : Nat) (a : List Nat) (k : Nat) (rv iv : Value) (wr : World) : Prop :=
  ∃ (r : Nat) (l : List Nat), iv = .int .i64 ((k : Int) - 1) ∧ rv = .int .u32 r ∧ r < d ∧ k ≤ n ∧ Hid (l.length = n) ∧ Hid (ok l) ∧ Hid (Blk wr g tU (UA l)) ∧
    Hid (val (l.drop k) * d + r = val (a.drop k)) ∧ Hid (Below w.heap.size w wr)

theorem set_drop_succ {α : Type} (l : List α) (j : Nat) (x : α) : (l.set j x).drop (j + 1) = l.drop (j + 1) := by
  rw [List.drop_set_of_lt (by omega)]
theorem short_step {l a : List Nat} {j n d r x : Nat} (hl : l.length = n) (hok : ok l) (hj : j < n) (hr : r < d) (hv : val (l.drop (j + 1)) * d + r = val (a.drop (j + 1))) (hx : a[j]? = some x) (hxB : x < BB) :
    (l.set j ((r * BB + x) / d)).length = n ∧ ok (l.set j ((r * BB + x) / d)) ∧ val ((l.set j ((r * BB + x) / d)).drop j) * d + (r * BB + x) % d = val (a.drop j) ∧ (r * BB + x) / d < BB := by
  have hq : (r * BB + x) / d < BB := by
    rw [Nat.div_lt_iff_lt_mul (by omega)]
    have : (r + 1) * BB ≤ d * BB := Nat.mul_le_mul_right _ hr
    rw [Nat.mul_comm d] at this
    rw [Nat.add_mul] at this
    omega
  refine ⟨by simp [hl], ok_set hok _ _ hq, ?_, hq⟩
  have h1 : (l.set j ((r * BB + x) / d))[j]? = some ((r * BB + x) / d) := by rw [List.getElem?_set_self (by omega)]
  rw [val_drop h1, val_drop hx, set_drop_succ, ← hv, Nat.add_mul, Nat.mul_assoc, Nat.mul_add]
  have e := Nat.div_add_mod (r * BB + x) d
  rw [Nat.mul_comm d] at e
  rw [Nat.mul_comm BB r]
  omega

def DivPost (h l y : Nat) (w : World) (e : Ending) (w' : World) : Prop := ∃ q r : Nat, e = .returned (.tuple #[.int .u32 q, .int .u32 r]) ∧ Hid ((h * BB + l) / y = q) ∧ Hid ((h * BB + l) % y = r) ∧ r < y ∧ Hid (∃ n, w' = w.drewN n)
end Go.Proofs.YtkjoohnndobjeaaGreatDoor
