/-
  Dyadic numbers, rounding to p bits, orders, and the enclosure of a ratio, in plain Lean. Of no program.
  The walks of math/bits.TrailingZeros32, dyadic.trimmed, low, size.
  The walks of dyadic.canonical, checked, Make, Int.
  The walks of dyadic.Make, Valid, Int, Bits, Top, Sign, shifted.
  The walks of dyadic.Int, Bits, Top, Sign, shifted, Neg.
  The walks of round.shl, precise, shr, fault.
  The walks of round.cut, signed.
  The walks of round.signed, div, DivDown, DivUp, Is.
  The walks of round.div, DivDown, DivUp, Is.
-/
import Derived.Test.YtkjoohnndobjeaaGreatDoorQD
import Derived.Test.YtkjoohnndobjeaaGreatDoorQA
import Derived.Test.YtkjoohnndobjeaaGreatDoorQE
import Derived.Shelf.Spec.TrailingZeros
import Derived.Lib.LaidTab
import Derived.Lib.ItoaMem
import Derived.Outline
import Derived.Deep.RegionHeld3
import Derived.StillTailTactics
import Derived.Deep.DeepCutAuto
set_option linter.unusedVariables false
namespace Go.Fl.Dy
open Go.Fl.Nm

/-- The number of the zero bits at the bottom. -/
def v2 (n : Nat) : Nat := if _h : n = 0 ∨ n % 2 = 1 then 0 else v2 (n / 2) + 1
termination_by n
decreasing_by omega
/-- The odd part. -/
def od (n : Nat) : Nat := n / 2 ^ v2 n

theorem v2_odd {n : Nat} (h : n % 2 = 1) : v2 n = 0 := by rw [v2, dif_pos (.inr h)]
theorem v2_zero : v2 0 = 0 := by rw [v2, dif_pos (.inl rfl)]
theorem v2_even {n : Nat} (h : n ≠ 0) : v2 (2 * n) = v2 n + 1 := by
  rw [v2, dif_neg (by omega), show 2 * n / 2 = n by omega]
theorem v2_pow {m : Nat} (hm : m % 2 = 1) (k : Nat) : v2 (2 ^ k * m) = k := by
  induction k with
  | zero => rw [Nat.pow_zero, Nat.one_mul, v2_odd hm]
  | succ k ih =>
    have h0 : 0 < 2 ^ k * m := Nat.mul_pos (Nat.two_pow_pos k) (by omega)
    rw [Nat.pow_succ, Nat.mul_comm (2 ^ k) 2, Nat.mul_assoc, v2_even (by omega), ih]
theorem v2_unique {n k m : Nat} (hm : m % 2 = 1) (h : n = 2 ^ k * m) : v2 n = k ∧ od n = m := by
  have hv : v2 n = k := by rw [h]; exact v2_pow hm k
  refine ⟨hv, ?_⟩
  unfold od
  rw [hv, h, Nat.mul_div_cancel_left _ (Nat.two_pow_pos k)]
theorem v2_spec : ∀ {n : Nat}, n ≠ 0 → n = 2 ^ v2 n * od n ∧ od n % 2 = 1 := by
  intro n
  induction n using Nat.strongRecOn with
  | _ n ih =>
    intro h
    by_cases h1 : n % 2 = 1
    · have : od n = n := by unfold od; rw [v2_odd h1]; simp
      rw [this, v2_odd h1]; simp [h1]
    · obtain ⟨m, rfl⟩ : ∃ m, n = 2 * m := ⟨n / 2, by omega⟩
      obtain ⟨h2, h3⟩ := ih m (by omega) (by omega)
      have h4 : 2 * m = 2 ^ (v2 m + 1) * od m := by rw [Nat.pow_succ, Nat.mul_comm (2 ^ v2 m) 2, Nat.mul_assoc, ← h2]
      obtain ⟨h5, h6⟩ := v2_unique h3 h4
      rw [h5, h6]
      exact ⟨h4, h3⟩
theorem od_ne {n : Nat} (h : n ≠ 0) : od n ≠ 0 := by have := (v2_spec h).2; omega
theorem od_odd {n : Nat} (h : n % 2 = 1) : od n = n := by unfold od; rw [v2_odd h]; simp
theorem od_le (n : Nat) : od n ≤ n := Nat.div_le_self _ _
theorem blen_shl {x : Nat} (k : Nat) (hx : x ≠ 0) : blen (2 ^ k * x) = k + blen x := by
  have := blen_mul (r := 0) hx (Nat.two_pow_pos k)
  simpa using this
theorem blen_od {n : Nat} (h : n ≠ 0) : blen n = v2 n + blen (od n) := by
  have := blen_shl (v2 n) (od_ne h)
  rw [← (v2_spec h).1] at this
  exact this
theorem v2_lt {n : Nat} (h : n ≠ 0) : v2 n < blen n := by have := blen_od h; have := blen_pos (od_ne h); omega
theorem od_mul {n : Nat} (k : Nat) (h : n ≠ 0) : v2 (2 ^ k * n) = k + v2 n ∧ od (2 ^ k * n) = od n := by
  obtain ⟨h1, h2⟩ := v2_spec h
  refine v2_unique h2 ?_
  rw [Nat.pow_add, Nat.mul_assoc, ← h1]
theorem blen_mono {a b : Nat} (h : a ≤ b) : blen a ≤ blen b := by
  by_cases h0 : b = 0
  · subst h0; rw [show a = 0 by omega]; exact Nat.le_refl _
  · exact blen_le (Nat.lt_of_le_of_lt h (blen_spec h0).2)
theorem blen_lt {n k : Nat} (h : blen n ≤ k) : n < 2 ^ k := by
  by_cases h0 : n = 0
  · subst h0; exact Nat.two_pow_pos k
  · exact Nat.lt_of_lt_of_le (blen_spec h0).2 (Nat.pow_le_pow_right (by omega) h)
theorem blen_zero_iff {n : Nat} : blen n = 0 ↔ n = 0 := by
  constructor
  · intro h
    by_cases h0 : n = 0
    · exact h0
    · have := blen_pos h0; omega
  · rintro rfl; rfl
theorem limbs_bits {n k : Nat} (h : blen n ≤ 32 * k) : (limbs n).length ≤ k := by
  refine limbs_len_le ?_
  rw [BB_pow, ← Nat.pow_mul]
  exact blen_lt h
theorem bits_limbs {n k : Nat} (h : (limbs n).length ≤ k) : blen n ≤ 32 * k := by
  have := limbs_lt h
  rw [BB_pow, ← Nat.pow_mul] at this
  exact blen_le this

/-- A dyadic number: (-1)^neg k 2^e. -/
structure D where
  neg : Bool
  k : Nat
  e : Int

/-- The canonical form. -/
def canon (neg : Bool) (k : Nat) (e : Int) : D := if k = 0 then ⟨false, 0, 0⟩ else ⟨neg, od k, e + v2 k⟩
/-- Whether a canonical number is in range. -/
def inR (k : Nat) (e : Int) : Bool := decide (k = 0) || (decide (blen k ≤ 4096) && decide (-16384 ≤ e) && decide (e ≤ 16384) && decide ((blen k : Int) + e ≤ 16384))
/-- Whether a number is canonical and in range. -/
def vld (d : D) : Prop := (d.k = 0 ∧ d.neg = false ∧ d.e = 0) ∨ (d.k % 2 = 1 ∧ blen d.k ≤ 4096 ∧ -16384 ≤ d.e ∧ d.e ≤ 16384 ∧ (blen d.k : Int) + d.e ≤ 16384)
instance (d : D) : Decidable (vld d) := by unfold vld; infer_instance
theorem vld_zero : vld ⟨false, 0, 0⟩ := .inl ⟨rfl, rfl, rfl⟩
theorem inR_iff {k : Nat} {e : Int} (h : k ≠ 0) : inR k e = true ↔ blen k ≤ 4096 ∧ -16384 ≤ e ∧ e ≤ 16384 ∧ (blen k : Int) + e ≤ 16384 := by
  simp [inR, h, and_assoc]
theorem canon_zero (neg : Bool) (e : Int) : canon neg 0 e = ⟨false, 0, 0⟩ := rfl
theorem canon_pos {neg : Bool} {k : Nat} {e : Int} (h : k ≠ 0) : canon neg k e = ⟨neg, od k, e + v2 k⟩ := by unfold canon; rw [if_neg h]
theorem canon_odd {neg : Bool} {k : Nat} {e : Int} (h : k % 2 = 1) : canon neg k e = ⟨neg, k, e⟩ := by
  rw [canon_pos (by omega), od_odd h, v2_odd h]; simp
theorem canon_shl (neg : Bool) (k j : Nat) (e : Int) : canon neg (2 ^ j * k) e = canon neg k (e + j) := by
  by_cases h : k = 0
  · subst h; rfl
  · have h0 : 0 < 2 ^ j * k := Nat.mul_pos (Nat.two_pow_pos j) (by omega)
    rw [canon_pos (by omega), canon_pos h, (od_mul j h).1, (od_mul j h).2]
    congr 1
    omega
theorem canon_vld {neg : Bool} {k : Nat} {e : Int} (h : inR (canon neg k e).k (canon neg k e).e = true) : vld (canon neg k e) := by
  by_cases h0 : k = 0
  · subst h0; exact vld_zero
  · rw [canon_pos h0] at h ⊢
    exact .inr ⟨(v2_spec h0).2, (inR_iff (od_ne h0)).1 h⟩
theorem vld_canon {d : D} (h : vld d) : canon d.neg d.k d.e = d := by
  rcases h with ⟨h1, h2, h3⟩ | ⟨h1, _⟩
  · cases d; simp at h1 h2 h3; subst h1 h2 h3; rfl
  · rw [canon_odd h1]

/-- Whether limbs, a sign and an exponent are a valid number. -/
def vldL (neg : Bool) (l : List Nat) (e : Int) : Bool := decide (l = limbs (val l) ∧ vld ⟨neg, val l, e⟩)
theorem vldL_iff {neg : Bool} {l : List Nat} {e : Int} : vldL neg l e = true ↔ l = limbs (val l) ∧ vld ⟨neg, val l, e⟩ := by simp [vldL]
theorem vldL_of {d : D} (h : vld d) : vldL d.neg (limbs d.k) d.e = true := by rw [vldL_iff, val_limbs]; exact ⟨rfl, h⟩
theorem limbs_head {n : Nat} (h : n ≠ 0) : (limbs n)[0]? = some (n % BB) := by rw [limbs_pos h]; rfl
theorem val_mod {x : Nat} {l : List Nat} (h : ok l) (hx : l[0]? = some x) : val l % 2 = x % 2 := by
  cases l with
  | nil => cases hx
  | cons y l => simp at hx; subst hx; rw [val_cons, BB_eq]; omega
/-- Limbs without a zero at the top are those of their number. -/
theorem limbs_of_top {l : List Nat} {x : Nat} (h : ok l) (hx : l[l.length - 1]? = some x) (h0 : x ≠ 0) : l = limbs (val l) := by
  have hl : 0 < l.length := by
    rcases Nat.eq_zero_or_pos l.length with h | h
    · rw [List.eq_nil_of_length_eq_zero h] at hx; cases hx
    · exact h
  have := tl_unique (Nat.le_refl l.length) (by simp) (fun y _ hy => by rw [hx] at hy; injection hy with hy; omega)
  have h2 := trim_limbs h
  rw [this, List.take_length] at h2
  exact h2
theorem limbs_top {n x : Nat} (hx : (limbs n)[(limbs n).length - 1]? = some x) : x ≠ 0 := by
  have h := tl_of_limbs n
  have hl : 0 < (limbs n).length := by
    rcases Nat.eq_zero_or_pos (limbs n).length with h | h
    · rw [List.eq_nil_of_length_eq_zero h] at hx; cases hx
    · exact h
  exact tl_last (l := limbs n) (by omega) (by rw [h]; exact hx)
/-- The program's own test of limbs that are not empty. -/
theorem vldL_pos {neg : Bool} {l : List Nat} {e : Int} {x y : Nat} (h : ok l) (hx : l[0]? = some x) (hy : l[l.length - 1]? = some y) :
    vldL neg l e = (decide (l.length ≤ 256) && decide (x % 2 = 1) && decide (y ≠ 0) && inR (val l) e) := by
  rw [Bool.eq_iff_iff, vldL_iff]
  simp only [Bool.and_eq_true, decide_eq_true_eq]
  constructor
  · rintro ⟨h1, h2⟩
    have hne : l ≠ [] := by rintro rfl; cases hx
    have h0 : val l ≠ 0 := fun hz => hne (by rw [h1, hz, limbs_zero])
    rcases h2 with ⟨hz, _⟩ | ⟨h3, h4, h5⟩
    · exact absurd hz h0
    · refine ⟨⟨⟨?_, ?_⟩, ?_⟩, (inR_iff h0).2 ⟨h4, h5⟩⟩
      · rw [h1]; exact limbs_bits (Nat.le_trans h4 (by omega))
      · rw [← val_mod h hx]; exact h3
      · rw [h1] at hy; exact limbs_top hy
  · rintro ⟨⟨⟨h1, h2⟩, h3⟩, h4⟩
    have h5 := limbs_of_top h hy h3
    have h6 : val l % 2 = 1 := by rw [val_mod h hx]; exact h2
    exact ⟨h5, .inr ⟨h6, (inR_iff (k := val l) (by omega)).1 h4⟩⟩
theorem vldL_nil (neg : Bool) (e : Int) : vldL neg [] e = (!neg && decide (e = 0)) := by
  rw [Bool.eq_iff_iff, vldL_iff]
  simp [val_nil, limbs_zero, vld]

/-- The bit of a limb: the zero bits at the bottom of limbs whose first i limbs are zeros. -/
theorem v2_limbs {l : List Nat} {i x : Nat} (hz : ∀ y ∈ l.take i, y = 0) (hx : l[i]? = some x) (h0 : x ≠ 0) (hB : x < BB) : v2 (val l) = 32 * i + v2 x := by
  have hi : i < l.length := by
    rcases Nat.lt_or_ge i l.length with h | h
    · exact h
    · rw [List.getElem?_eq_none h] at hx; cases hx
  have h1 := val_split l i (by omega)
  rw [val_zero_of hz, Nat.zero_add, val_drop hx, BB_pow, ← Nat.pow_mul] at h1
  obtain ⟨h2, h3⟩ := v2_spec h0
  have hv : v2 x < 32 := by
    have h4 := v2_lt h0
    have : blen x ≤ 32 := blen_le (by rw [BB_eq] at hB; omega)
    omega
  have h5 : x + 2 ^ 32 * val (l.drop (i + 1)) = 2 ^ v2 x * (od x + 2 ^ (32 - v2 x) * val (l.drop (i + 1))) := by
    rw [Nat.mul_add, ← h2, ← Nat.mul_assoc, ← Nat.pow_add, show v2 x + (32 - v2 x) = 32 by omega]
  have h6 : (od x + 2 ^ (32 - v2 x) * val (l.drop (i + 1))) % 2 = 1 := by
    obtain ⟨j, hj⟩ : ∃ j, 32 - v2 x = j + 1 := ⟨32 - v2 x - 1, by omega⟩
    rw [hj, Nat.pow_succ, Nat.mul_comm (2 ^ j) 2, Nat.mul_assoc]
    omega
  refine (v2_unique h6 ?_).1
  rw [h1, h5, ← Nat.mul_assoc, ← Nat.pow_add]
end Go.Fl.Dy
namespace Go.Fl.Dy
open Go.Fl.Nm

/-- A canonical number if it is in range, or ErrBig. -/
def chk (d : D) : D × Int := if inR d.k d.e then (d, 0) else (⟨false, 0, 0⟩, 9)
def negD (d : D) : D := if d.k = 0 then ⟨false, 0, 0⟩ else ⟨!d.neg, d.k, d.e⟩
theorem negD_vld {d : D} (h : vld d) : vld (negD d) := by
  unfold negD
  split
  · exact vld_zero
  · rename_i h0
    rcases h with ⟨h1, _⟩ | h1
    · exact absurd h1 h0
    · exact .inr h1
theorem chk_vld (neg : Bool) (k : Nat) (e : Int) : vld (chk (canon neg k e)).1 := by
  unfold chk
  split
  · rename_i h; exact canon_vld h
  · exact vld_zero

/-- The unit to which a number m 2^e is rounded. -/
def cutU (m : Nat) (e : Int) (p : Nat) : Int := max (e + blen m - p) (-16384)
/-- The multiple of the unit. -/
def cutQ (m : Nat) (e : Int) (more : Bool) (p : Nat) (up : Bool) : Nat :=
  if cutU m e p ≤ e then 2 ^ (e - cutU m e p).toNat * m + (if up && more then 1 else 0)
  else m / 2 ^ (cutU m e p - e).toNat + (if up && (more || decide (m % 2 ^ (cutU m e p - e).toNat ≠ 0)) then 1 else 0)
/-- The number of p bits: the greatest one that is at most m 2^e, or the least one that is at least as great. -/
def cutR (m : Nat) (e : Int) (more : Bool) (p : Nat) (up : Bool) : D × Int :=
  if 16384 < (blen (cutQ m e more p up) : Int) + cutU m e p then
    if up then (⟨false, 0, 0⟩, 9) else chk (canon false (2 ^ p - 1) (16384 - p))
  else chk (canon false (cutQ m e more p up) (cutU m e p))
def sgnR (neg : Bool) (m : Nat) (e : Int) (more : Bool) (p : Nat) (up : Bool) : D × Int :=
  let r := cutR m e more p (up != neg)
  if r.2 = 0 ∧ neg = true then (negD r.1, 0) else r
theorem cutR_vld (m : Nat) (e : Int) (more : Bool) (p : Nat) (up : Bool) : vld (cutR m e more p up).1 := by
  unfold cutR
  split
  · split
    · exact vld_zero
    · exact chk_vld _ _ _
  · exact chk_vld _ _ _
theorem sgnR_vld (neg : Bool) (m : Nat) (e : Int) (more : Bool) (p : Nat) (up : Bool) : vld (sgnR neg m e more p up).1 := by
  unfold sgnR
  simp only
  split
  · exact negD_vld (cutR_vld _ _ _ _ _)
  · exact cutR_vld _ _ _ _ _
/-- The shift of the dividend. -/
def divK (a b : D) (p : Nat) : Nat := p + 3 + blen b.k - blen a.k
/-- The rounded quotient of two valid numbers at a precision. -/
def divR (a b : D) (p : Nat) (up : Bool) : D × Int :=
  if b.k = 0 then (⟨false, 0, 0⟩, 10) else if a.k = 0 then (⟨false, 0, 0⟩, 0)
  else sgnR (a.neg != b.neg) (2 ^ divK a b p * a.k / b.k) (a.e - divK a b p - b.e) (decide (2 ^ divK a b p * a.k % b.k ≠ 0)) p up

/-- t 2^u is the quotient n / d, rounded down to a multiple of 2^u. -/
def Fl (n d t : Nat) (u : Int) : Prop := ∃ x y : Nat, (x : Int) - y = u ∧ t * d * 2 ^ x ≤ n * 2 ^ y ∧ n * 2 ^ y < (t + 1) * d * 2 ^ x
/-- .. and it is the quotient. -/
def Ex (n d t : Nat) (u : Int) : Prop := ∃ x y : Nat, (x : Int) - y = u ∧ t * d * 2 ^ x = n * 2 ^ y

theorem pow_le_of {a b d : Nat} (hd : 0 < d) (h : d * 2 ^ a < d * 2 ^ b) : a < b := by
  have := Nat.lt_of_mul_lt_mul_left h
  exact (Nat.pow_lt_pow_iff_right (by omega)).1 this

/-- A quotient has one form with p bits. -/
theorem Fl.le {n d t t' p : Nat} {u u' : Int} (hd : 0 < d) (h : Fl n d t u) (h' : Fl n d t' u') (ht : t < 2 ^ p) (ht' : 2 ^ (p - 1) ≤ t') (hp : 0 < p) : u' ≤ u := by
  obtain ⟨x, y, hu, _, h2⟩ := h
  obtain ⟨x', y', hu', h1', _⟩ := h'
  have a1 : n * 2 ^ y < d * 2 ^ (p + x) := by
    refine Nat.lt_of_lt_of_le h2 ?_
    rw [Nat.pow_add, ← Nat.mul_assoc, Nat.mul_comm (t + 1) d]
    exact Nat.mul_le_mul_right _ (Nat.mul_le_mul_left _ (by omega))
  have a2 : d * 2 ^ (p - 1 + x') ≤ n * 2 ^ y' := by
    refine Nat.le_trans ?_ h1'
    rw [Nat.pow_add, ← Nat.mul_assoc, Nat.mul_comm t' d]
    exact Nat.mul_le_mul_right _ (Nat.mul_le_mul_left _ ht')
  have a3 : n * 2 ^ y * 2 ^ y' < d * 2 ^ (p + x + y') := by
    rw [Nat.pow_add 2 (p + x) y', ← Nat.mul_assoc]
    exact Nat.mul_lt_mul_of_pos_right a1 (Nat.two_pow_pos _)
  have a4 : d * 2 ^ (p - 1 + x' + y) ≤ n * 2 ^ y * 2 ^ y' := by
    rw [Nat.pow_add 2 (p - 1 + x') y, ← Nat.mul_assoc, Nat.mul_assoc n, Nat.mul_comm (2 ^ y) (2 ^ y'), ← Nat.mul_assoc]
    exact Nat.mul_le_mul_right _ a2
  have := pow_le_of hd (Nat.lt_of_le_of_lt a4 a3)
  omega
theorem Fl.tle {n d t t' : Nat} {u : Int} (hd : 0 < d) (h : Fl n d t u) (h' : Fl n d t' u) : t ≤ t' := by
  obtain ⟨x, y, hu, h1, _⟩ := h
  obtain ⟨x', y', hu', _, h2'⟩ := h'
  have a1 : t * d * 2 ^ (x + y') ≤ n * 2 ^ (y + y') := by
    rw [Nat.pow_add, Nat.pow_add, ← Nat.mul_assoc, ← Nat.mul_assoc]
    exact Nat.mul_le_mul_right _ h1
  have a2 : n * 2 ^ (y' + y) < (t' + 1) * d * 2 ^ (x' + y) := by
    rw [Nat.pow_add, Nat.pow_add, ← Nat.mul_assoc, ← Nat.mul_assoc]
    exact Nat.mul_lt_mul_of_pos_right h2' (Nat.two_pow_pos _)
  have e1 : x + y' = x' + y := by omega
  rw [e1, Nat.add_comm y y'] at a1
  have := Nat.lt_of_mul_lt_mul_right (Nat.lt_of_le_of_lt a1 a2)
  have := Nat.lt_of_mul_lt_mul_right this
  omega
theorem Fl.unique {n d t t' p : Nat} {u u' : Int} (hd : 0 < d) (h : Fl n d t u) (h' : Fl n d t' u') (ht : t < 2 ^ p) (ht' : t' < 2 ^ p) (hl : 2 ^ (p - 1) ≤ t) (hl' : 2 ^ (p - 1) ≤ t') (hp : 0 < p) : t = t' ∧ u = u' := by
  have h1 := Fl.le hd h h' ht hl' hp
  have h2 := Fl.le hd h' h ht' hl hp
  obtain rfl : u = u' := by omega
  exact ⟨Nat.le_antisymm (Fl.tle hd h h') (Fl.tle hd h' h), rfl⟩
theorem Ex.all {n d t : Nat} {u : Int} (h : Ex n d t u) {x y : Nat} (hu : (x : Int) - y = u) : t * d * 2 ^ x = n * 2 ^ y := by
  obtain ⟨x', y', hu', h'⟩ := h
  have e : x' + y = x + y' := by omega
  have : t * d * 2 ^ x * 2 ^ y' = n * 2 ^ y * 2 ^ y' := by
    rw [Nat.mul_assoc (t * d), ← Nat.pow_add, ← e, Nat.pow_add, ← Nat.mul_assoc, h', Nat.mul_assoc, Nat.mul_assoc, Nat.mul_comm (2 ^ y')]
  exact Nat.eq_of_mul_eq_mul_right (Nat.two_pow_pos y') this
theorem Fl.all {n d t : Nat} {u : Int} (h : Fl n d t u) {x y : Nat} (hu : (x : Int) - y = u) : t * d * 2 ^ x ≤ n * 2 ^ y ∧ n * 2 ^ y < (t + 1) * d * 2 ^ x := by
  obtain ⟨x', y', hu', h1, h2⟩ := h
  have e : x' + y = x + y' := by omega
  constructor
  · have : t * d * 2 ^ x * 2 ^ y' ≤ n * 2 ^ y * 2 ^ y' := by
      rw [Nat.mul_assoc (t * d), ← Nat.pow_add, ← e, Nat.pow_add, ← Nat.mul_assoc, Nat.mul_assoc n, Nat.mul_comm (2 ^ y), ← Nat.mul_assoc]
      exact Nat.mul_le_mul_right _ h1
    exact Nat.le_of_mul_le_mul_right this (Nat.two_pow_pos y')
  · have : n * 2 ^ y * 2 ^ y' < (t + 1) * d * 2 ^ x * 2 ^ y' := by
      rw [Nat.mul_assoc ((t + 1) * d), ← Nat.pow_add, ← e, Nat.pow_add, ← Nat.mul_assoc, Nat.mul_assoc n, Nat.mul_comm (2 ^ y), ← Nat.mul_assoc]
      exact Nat.mul_lt_mul_of_pos_right h2 (Nat.two_pow_pos _)
    exact Nat.lt_of_mul_lt_mul_right this
/-- A quotient of shifted numbers, cut. -/
theorem Fl.of_div {n d : Nat} (hd : 0 < d) (j i : Nat) : Fl n d (n * 2 ^ j / d / 2 ^ i) ((i : Int) - j) := by
  refine ⟨i, j, rfl, ?_⟩
  rw [Nat.div_div_eq_div_mul]
  have hp : 0 < d * 2 ^ i := Nat.mul_pos hd (Nat.two_pow_pos i)
  have h1 := Nat.div_mul_le_self (n * 2 ^ j) (d * 2 ^ i)
  have h2 := Nat.lt_div_mul_add (a := n * 2 ^ j) hp
  rw [Nat.mul_assoc, Nat.mul_assoc]
  refine ⟨h1, ?_⟩
  rw [Nat.add_mul, Nat.one_mul]
  exact h2
/-- The quotient is exact if nothing was left. -/
theorem Ex.of_div {n d : Nat} (hd : 0 < d) (j i : Nat) : Ex n d (n * 2 ^ j / d / 2 ^ i) ((i : Int) - j) ↔ n * 2 ^ j % d = 0 ∧ n * 2 ^ j / d % 2 ^ i = 0 := by
  have e := Nat.div_add_mod (n * 2 ^ j) d
  have e2 := Nat.div_add_mod (n * 2 ^ j / d) (2 ^ i)
  have hr := Nat.mod_lt (n * 2 ^ j) hd
  have key : n * 2 ^ j = n * 2 ^ j / d / 2 ^ i * d * 2 ^ i + (d * (n * 2 ^ j / d % 2 ^ i) + n * 2 ^ j % d) := by
    rw [Nat.mul_assoc, Nat.mul_comm d (2 ^ i), ← Nat.mul_assoc, Nat.mul_comm _ (2 ^ i), Nat.mul_comm (2 ^ i * _) d, ← Nat.add_assoc, ← Nat.mul_add, e2, e]
  constructor
  · intro h
    have := Ex.all h (x := i) (y := j) rfl
    have h0 : d * (n * 2 ^ j / d % 2 ^ i) + n * 2 ^ j % d = 0 := by omega
    have h1 : n * 2 ^ j / d % 2 ^ i = 0 := by
      rcases Nat.eq_zero_or_pos (n * 2 ^ j / d % 2 ^ i) with h | h
      · exact h
      · have := Nat.mul_pos hd h; omega
    exact ⟨by omega, h1⟩
  · rintro ⟨h1, h2⟩
    refine ⟨i, j, rfl, ?_⟩
    rw [h1, h2] at key
    omega
end Go.Fl.Dy
namespace Go.Fl.Dy
open Go.Fl.Nm

/-- A positive quotient, rounded down to p bits. -/
def Enc (n d p t : Nat) (u : Int) : Prop := Fl n d t u ∧ 2 ^ (p - 1) ≤ t ∧ t < 2 ^ p
theorem Enc.unique {n d p t t' : Nat} {u u' : Int} (hd : 0 < d) (hp : 0 < p) (h : Enc n d p t u) (h' : Enc n d p t' u') : t = t' ∧ u = u' :=
  Fl.unique hd h.1 h'.1 h.2.2 h'.2.2 h.2.1 h'.2.1 hp

theorem Fl.scale {a b t : Nat} {u : Int} (i j : Nat) (h : Fl a b t u) : Fl (2 ^ i * a) (2 ^ j * b) t (u + i - j) := by
  obtain ⟨x, y, hu, h1, h2⟩ := h
  refine ⟨x + i, y + j, by omega, ?_, ?_⟩
  · have : t * b * 2 ^ x * (2 ^ i * 2 ^ j) ≤ a * 2 ^ y * (2 ^ i * 2 ^ j) := Nat.mul_le_mul_right _ h1
    refine Nat.le_trans (Nat.le_of_eq ?_) (Nat.le_trans this (Nat.le_of_eq ?_))
    · rw [Nat.pow_add]; ac_rfl
    · rw [Nat.pow_add]; ac_rfl
  · have : a * 2 ^ y * (2 ^ i * 2 ^ j) < (t + 1) * b * 2 ^ x * (2 ^ i * 2 ^ j) := Nat.mul_lt_mul_of_pos_right h2 (Nat.mul_pos (Nat.two_pow_pos _) (Nat.two_pow_pos _))
    refine Nat.lt_of_le_of_lt (Nat.le_of_eq ?_) (Nat.lt_of_lt_of_le this (Nat.le_of_eq ?_))
    · rw [Nat.pow_add]; ac_rfl
    · rw [Nat.pow_add]; ac_rfl
theorem Ex.scale {a b t : Nat} {u : Int} (i j : Nat) : Ex (2 ^ i * a) (2 ^ j * b) t (u + i - j) ↔ Ex a b t u := by
  constructor
  · intro h
    obtain ⟨x, y, hu⟩ : ∃ x y : Nat, (x : Int) - y = u := ⟨u.toNat, (-u).toNat, by omega⟩
    refine ⟨x, y, hu, ?_⟩
    have := Ex.all h (x := x + i) (y := y + j) (by omega)
    have h2 : t * b * 2 ^ x * (2 ^ i * 2 ^ j) = a * 2 ^ y * (2 ^ i * 2 ^ j) := by
      refine Eq.trans ?_ (Eq.trans this ?_)
      · rw [Nat.pow_add]; ac_rfl
      · rw [Nat.pow_add]; ac_rfl
    exact Nat.eq_of_mul_eq_mul_right (Nat.mul_pos (Nat.two_pow_pos _) (Nat.two_pow_pos _)) h2
  · rintro ⟨x, y, hu, h⟩
    refine ⟨x + i, y + j, by omega, ?_⟩
    have h2 : t * b * 2 ^ x * (2 ^ i * 2 ^ j) = a * 2 ^ y * (2 ^ i * 2 ^ j) := by rw [h]
    refine Eq.trans ?_ (Eq.trans h2 ?_)
    · rw [Nat.pow_add]; ac_rfl
    · rw [Nat.pow_add]; ac_rfl

/-- The bits of a quotient. -/
theorem blen_div {x y : Nat} (hy : y ≠ 0) (h : blen y < blen x) : blen x - blen y ≤ blen (x / y) := by
  have hx : x ≠ 0 := by intro h0; rw [h0, blen_zero] at h; omega
  have h1 := (blen_spec hx).1
  have h2 := (blen_spec hy).2
  have : 2 ^ (blen x - 1 - blen y) ≤ x / y := by
    rw [Nat.le_div_iff_mul_le (by omega)]
    refine Nat.le_trans ?_ h1
    refine Nat.le_trans (Nat.mul_le_mul_left _ (Nat.le_of_lt h2)) ?_
    rw [← Nat.pow_add]
    exact Nat.le_of_eq (by congr 1; omega)
  have h3 := blen_mono this
  have h4 : blen (2 ^ (blen x - 1 - blen y)) = blen x - 1 - blen y + 1 := by
    have := blen_shl (x := 1) (blen x - 1 - blen y) (by omega)
    rw [Nat.mul_one] at this
    rw [this]
    rfl
  omega
/-- The top p bits of a number. -/
theorem top_bits {m p : Nat} (hp : 0 < p) (h : p ≤ blen m) : 2 ^ (p - 1) ≤ m / 2 ^ (blen m - p) ∧ m / 2 ^ (blen m - p) < 2 ^ p := by
  have hm : m ≠ 0 := by intro h0; rw [h0, blen_zero] at h; omega
  obtain ⟨h1, h2⟩ := blen_spec hm
  constructor
  · rw [Nat.le_div_iff_mul_le (Nat.two_pow_pos _), ← Nat.pow_add, show p - 1 + (blen m - p) = blen m - 1 by omega]
    exact h1
  · rw [Nat.div_lt_iff_lt_mul (Nat.two_pow_pos _), ← Nat.pow_add, show p + (blen m - p) = blen m by omega]
    exact h2

theorem inR_of {k : Nat} {e : Int} (h1 : blen k ≤ 4096) (h2 : -16384 ≤ e) (h3 : e + blen k ≤ 16384) (h4 : e ≤ 16384) : inR k e = true := by
  by_cases h : k = 0
  · simp [inR, h]
  · exact (inR_iff h).2 ⟨h1, h2, h4, by omega⟩
theorem chk_of {neg : Bool} {k : Nat} {e : Int} (h1 : blen k ≤ 4096) (h2 : -16384 ≤ e) (h3 : e + blen k ≤ 16384) : chk (canon neg k e) = (canon neg k e, 0) := by
  unfold chk
  rw [if_pos]
  by_cases h : k = 0
  · subst h; rfl
  · rw [canon_pos h]
    have := blen_od h
    have := blen_pos (od_ne h)
    exact inR_of (k := od k) (e := e + v2 k) (by omega) (by omega) (by omega) (by omega)

/-- The end of an enclosure. -/
def endQ (t : Nat) (ex up : Bool) : Nat := if up && !ex then t + 1 else t

/-- The rounded quotient of two integers. -/
theorem div_enc {n d p t : Nat} {u : Int} {ex : Bool} (neg up : Bool) (hn : n ≠ 0) (hd : d ≠ 0) (hnb : n ≤ 1073741824) (hdb : d ≤ 1073741824) (hp : 8 ≤ p) (hp2 : p ≤ 512) (h : Enc n d p t u) (hex : ex = true ↔ Ex n d t u) :
    divR (canon neg n 0) (canon false d 0) p up = (canon neg (endQ t ex (up != neg)) u, 0) := by
  have hne := v2_spec hn
  have hde := v2_spec hd
  have hnp := od_ne hn
  have hdp := od_ne hd
  have hb1 : blen n ≤ 31 := blen_le (by omega)
  have hb2 : blen d ≤ 31 := blen_le (by omega)
  have hb3 := blen_od hn
  have hb4 := blen_od hd
  have hbp := blen_pos hnp
  have hbq := blen_pos hdp
  rw [canon_pos hn, canon_pos hd]
  generalize hk : divK ⟨neg, od n, 0 + v2 n⟩ ⟨false, od d, 0 + v2 d⟩ p = k
  have hk' : k = p + 3 + blen (od d) - blen (od n) := hk.symm
  have hmb : blen (2 ^ k * od n) = k + blen (od n) := blen_shl k hnp
  have hql := blen_div hdp (x := 2 ^ k * od n) (by omega)
  have hqm := blen_mono (Nat.div_le_self (2 ^ k * od n) (od d))
  generalize hm : 2 ^ k * od n / od d = m at *
  have hcu : cutU m (0 + (v2 n : Int) - k - (0 + v2 d)) p = 0 + (v2 n : Int) - k - (0 + v2 d) + blen m - p := by unfold cutU; omega
  have hpm : p ≤ blen m := by omega
  obtain ⟨ht1, ht2⟩ := top_bits (by omega) hpm
  have hfl := Fl.of_div (n := od n) (d := od d) (by omega) k (blen m - p)
  have hexd := Ex.of_div (n := od n) (d := od d) (by omega) k (blen m - p)
  rw [Nat.mul_comm (od n) (2 ^ k), hm] at hfl hexd
  have hfl2 := Fl.scale (v2 n) (v2 d) hfl
  have hex2 := Ex.scale (a := od n) (b := od d) (t := m / 2 ^ (blen m - p)) (u := ((blen m - p : Nat) : Int) - k) (v2 n) (v2 d)
  rw [← hne.1, ← hde.1] at hfl2 hex2
  obtain ⟨h1, h2⟩ := Enc.unique (by omega) (by omega) h ⟨hfl2, ht1, ht2⟩
  subst h1
  rw [← h2] at hex2
  have hexb : ex = !(decide (2 ^ k * od n % od d ≠ 0) || decide (m % 2 ^ (blen m - p) ≠ 0)) := by
    rw [Bool.eq_iff_iff, hex, hex2, hexd]
    simp
  have hU : cutU m (0 + (v2 n : Int) - k - (0 + v2 d)) p = u := by rw [hcu, h2]; omega
  have hq : ∀ b, cutQ m (0 + (v2 n : Int) - k - (0 + v2 d)) (decide (2 ^ k * od n % od d ≠ 0)) p b = endQ (m / 2 ^ (blen m - p)) ex b := by
    intro b
    unfold cutQ
    rw [hU, if_neg (by omega), show (u - (0 + (v2 n : Int) - k - (0 + v2 d))).toNat = blen m - p by omega, endQ, hexb]
    simp only [Bool.not_not]
    split <;> rfl
  have hend : ∀ b, blen (endQ (m / 2 ^ (blen m - p)) ex b) ≤ p + 1 := by
    intro b
    refine blen_le ?_
    have : 0 < 2 ^ p := Nat.two_pow_pos p
    unfold endQ
    rw [Nat.pow_succ]
    split <;> omega
  have hcut : ∀ b, cutR m (0 + (v2 n : Int) - k - (0 + v2 d)) (decide (2 ^ k * od n % od d ≠ 0)) p b = (canon false (endQ (m / 2 ^ (blen m - p)) ex b) u, 0) := by
    intro b
    have := hend b
    unfold cutR
    rw [hq, hU, if_neg (by omega)]
    exact chk_of (by omega) (by omega) (by omega)
  unfold divR
  rw [if_neg (by simpa using hdp), if_neg (by simpa using hnp)]
  simp only
  rw [hk, hm, Bool.bne_false]
  unfold sgnR
  rw [hcut]
  have hz : endQ (m / 2 ^ (blen m - p)) ex (up != neg) ≠ 0 := by
    have := Nat.two_pow_pos (p - 1)
    unfold endQ
    split <;> omega
  cases neg with
  | false => rfl
  | true =>
    simp only [and_self, if_true]
    rw [canon_pos hz, canon_pos hz]
    unfold negD
    rw [if_neg (by exact od_ne hz)]
    rfl
end Go.Fl.Dy
namespace Go.Fl.Dy
open Go.Fl.Nm

def cmpI (a b : Int) : Int := if a < b then -1 else if b < a then 1 else 0
theorem cmpI_lt {a b : Int} (h : a < b) : cmpI a b = -1 := by unfold cmpI; rw [if_pos h]
theorem cmpI_gt {a b : Int} (h : b < a) : cmpI a b = 1 := by unfold cmpI; rw [if_neg (by omega), if_pos h]
theorem cmpI_eq {a b : Int} (h : a = b) : cmpI a b = 0 := by unfold cmpI; rw [if_neg (by omega), if_neg (by omega)]
theorem cmpI_nat (a b : Nat) : cmpI (a : Int) (b : Int) = cmpN a b := by
  unfold cmpI cmpN
  by_cases h1 : a < b
  · rw [if_pos h1, if_pos (by omega)]
  · rw [if_neg h1, if_neg (by omega)]
    by_cases h2 : b < a
    · rw [if_pos h2, if_pos (by omega)]
    · rw [if_neg h2, if_neg (by omega)]
theorem cmpI_mul {a b c : Int} (h : 0 < c) : cmpI (a * c) (b * c) = cmpI a b := by
  unfold cmpI
  have h1 : a * c < b * c ↔ a < b := ⟨fun g => Int.lt_of_mul_lt_mul_right g (by omega), fun g => Int.mul_lt_mul_of_pos_right g h⟩
  have h2 : b * c < a * c ↔ b < a := ⟨fun g => Int.lt_of_mul_lt_mul_right g (by omega), fun g => Int.mul_lt_mul_of_pos_right g h⟩
  simp only [h1, h2]
theorem cmpI_neg (a b : Int) : cmpI (-a) (-b) = -cmpI a b := by
  unfold cmpI
  by_cases h1 : a < b
  · rw [if_pos h1, if_neg (by omega), if_pos (by omega)]; rfl
  · by_cases h2 : b < a
    · rw [if_neg h1, if_pos h2, if_pos (by omega)]
    · rw [if_neg h1, if_neg h2, if_neg (by omega), if_neg (by omega)]; rfl
theorem cmpI_le {a b : Int} : cmpI a b ≤ 0 ↔ a ≤ b := by
  unfold cmpI; split
  · simp; omega
  · split <;> simp <;> omega
theorem cmpI_ge {a b : Int} : 0 ≤ cmpI a b ↔ b ≤ a := by
  unfold cmpI; split
  · simp; omega
  · split <;> simp <;> omega
theorem cmpI_zero {a b : Int} : cmpI a b = 0 ↔ a = b := by
  unfold cmpI; split
  · simp; omega
  · split <;> simp <;> omega
theorem cmpN_mul {a b c : Nat} (h : 0 < c) : cmpN (a * c) (b * c) = cmpN a b := by
  rw [← cmpI_nat, ← cmpI_nat, Int.natCast_mul, Int.natCast_mul, cmpI_mul (by omega)]

/-- The greatest exponent. -/
def ZE : Nat := 16384
theorem ZE_eq : ZE = 16384 := rfl
/-- The value of a number, times 2^16384. -/
def mg (x : D) : Nat := x.k * 2 ^ (x.e + ZE).toNat
def iv (x : D) : Int := if x.neg then -(mg x : Int) else mg x
def sg (x : D) : Int := if x.k = 0 then 0 else if x.neg then -1 else 1
/-- The order of the absolute values. -/
def cmpM (a b : D) : Int := cmpN (2 ^ (a.e - min a.e b.e).toNat * a.k) (2 ^ (b.e - min a.e b.e).toNat * b.k)
/-- The order of two numbers. -/
def cmpD (a b : D) : Int := if sg a < sg b then -1 else if sg b < sg a then 1 else if sg a = 0 then 0 else sg a * cmpM a b
theorem vld_e {x : D} (h : vld x) : -16384 ≤ x.e := by
  rcases h with ⟨_, _, h⟩ | ⟨_, _, h, _⟩ <;> omega
theorem mg_pos {x : D} (h : x.k ≠ 0) : 0 < mg x := Nat.mul_pos (by omega) (Nat.two_pow_pos _)
theorem mg_zero {x : D} (h : x.k = 0) : mg x = 0 := by unfold mg; rw [h, Nat.zero_mul]
theorem cmpM_eq {a b : D} (ha : -16384 ≤ a.e) (hb : -16384 ≤ b.e) : cmpM a b = cmpN (mg a) (mg b) := by
  unfold cmpM mg
  have hZ := ZE_eq
  generalize ZE = z at *
  have e1 : (a.e + z).toNat = (a.e - min a.e b.e).toNat + (min a.e b.e + z).toNat := by omega
  have e2 : (b.e + z).toNat = (b.e - min a.e b.e).toNat + (min a.e b.e + z).toNat := by omega
  rw [e1, e2, Nat.pow_add, Nat.pow_add, ← Nat.mul_assoc, ← Nat.mul_assoc, cmpN_mul (Nat.two_pow_pos _), Nat.mul_comm a.k, Nat.mul_comm b.k]
theorem cmpD_eq {a b : D} (ha : vld a) (hb : vld b) : cmpD a b = cmpI (iv a) (iv b) := by
  have e := cmpM_eq (vld_e ha) (vld_e hb)
  unfold cmpD
  rw [e]
  unfold sg iv
  by_cases za : a.k = 0
  · have ma := mg_zero za
    by_cases zb : b.k = 0
    · have mb := mg_zero zb
      simp [za, zb, ma, mb, cmpI]
    · have pb := mg_pos zb
      cases b.neg <;> simp [za, zb, ma, cmpI] <;> omega
  · have pa := mg_pos za
    by_cases zb : b.k = 0
    · have mb := mg_zero zb
      cases a.neg <;> simp [za, zb, mb, cmpI] <;> omega
    · have pb := mg_pos zb
      cases a.neg <;> cases b.neg <;> simp [za, zb]
      · rw [cmpI_nat]
      · rw [cmpI_gt (by omega)]
      · rw [cmpI_lt (by omega)]
      · rw [cmpI_neg, cmpI_nat]
/-- Numbers with different tops. -/
theorem top_lt {a b : D} (ha : -16384 ≤ a.e) (hb : -16384 ≤ b.e) (za : a.k ≠ 0) (zb : b.k ≠ 0) (h : (blen a.k : Int) + a.e < blen b.k + b.e) : mg a < mg b := by
  have h1 := (blen_spec za).2
  have h2 := (blen_spec zb).1
  have hp := blen_pos zb
  unfold mg
  refine Nat.lt_of_lt_of_le (Nat.mul_lt_mul_of_pos_right h1 (Nat.two_pow_pos _)) (Nat.le_trans ?_ (Nat.mul_le_mul_right _ h2))
  rw [← Nat.pow_add, ← Nat.pow_add]
  have hZ := ZE_eq
  generalize ZE = z at *
  exact Nat.pow_le_pow_right (by omega) (by omega)
theorem cmpM_lt {a b : D} (ha : vld a) (hb : vld b) (za : a.k ≠ 0) (zb : b.k ≠ 0) (h : (blen a.k : Int) + a.e < blen b.k + b.e) : cmpM a b = -1 := by
  rw [cmpM_eq (vld_e ha) (vld_e hb)]
  exact cmpN_lt (top_lt (vld_e ha) (vld_e hb) za zb h)
theorem cmpM_gt {a b : D} (ha : vld a) (hb : vld b) (za : a.k ≠ 0) (zb : b.k ≠ 0) (h : (blen b.k : Int) + b.e < blen a.k + a.e) : cmpM a b = 1 := by
  rw [cmpM_eq (vld_e ha) (vld_e hb)]
  exact cmpN_gt (top_lt (vld_e hb) (vld_e ha) zb za h)

/-- The order of n / q and k 2^e. -/
def cmpQ (n q k : Nat) (e : Int) : Int := cmpN (2 ^ (-e).toNat * n) (2 ^ e.toNat * (k * q))
def sgI (n : Int) : Int := if 0 < n then 1 else if n < 0 then -1 else 0
/-- The order of a ratio and a dyadic number. -/
def cmpRD (n d : Int) (x : D) : Int := if sgI n < sg x then -1 else if sg x < sgI n then 1 else if sgI n = 0 then 0 else sgI n * cmpQ n.natAbs d.toNat x.k x.e
/-- 2^16384. -/
def Z16 : Nat := 2 ^ ZE
theorem Z16_pos : 0 < Z16 := Nat.two_pow_pos _
theorem cmpQ_eq {n q : Nat} {x : D} (hx : -16384 ≤ x.e) : cmpQ n q x.k x.e = cmpN (n * Z16) (mg x * q) := by
  unfold cmpQ mg Z16
  have hZ := ZE_eq
  generalize ZE = z at *
  have e1 : z = (-x.e).toNat + (min 0 x.e + z).toNat := by omega
  have e2 : (x.e + z).toNat = x.e.toNat + (min 0 x.e + z).toNat := by omega
  have e3 : n * 2 ^ z = 2 ^ (-x.e).toNat * n * 2 ^ (min 0 x.e + z).toNat := by
    conv => lhs; rw [e1]
    rw [Nat.pow_add]; ac_rfl
  have e4 : x.k * 2 ^ (x.e + z).toNat * q = 2 ^ x.e.toNat * (x.k * q) * 2 ^ (min 0 x.e + z).toNat := by rw [e2, Nat.pow_add]; ac_rfl
  rw [e3, e4, cmpN_mul (Nat.two_pow_pos _)]
theorem cmpRD_eq {n d : Int} {x : D} (hd : 0 < d) (hx : vld x) : cmpRD n d x = cmpI (n * Z16) (iv x * d) := by
  have e := cmpQ_eq (n := n.natAbs) (q := d.toNat) (vld_e hx)
  have hZ := Z16_pos
  unfold cmpRD
  rw [e, ← cmpI_nat, Int.natCast_mul, Int.natCast_mul]
  have hdd : ((d.toNat : Nat) : Int) = d := by omega
  rw [hdd]
  unfold sg iv sgI
  generalize hz : (Z16 : Int) = z
  have hz0 : 0 < z := by omega
  by_cases zx : x.k = 0
  · have mx := mg_zero zx
    rcases Int.lt_trichotomy n 0 with h | h | h
    · have := Int.mul_neg_of_neg_of_pos h hz0
      rw [if_neg (by omega : ¬ 0 < n), if_pos h]
      simp [zx, mx]
      rw [cmpI_lt (by omega)]
    · subst h; simp [zx, mx, cmpI]
    · have := Int.mul_pos h hz0
      simp [zx, mx, h]
      rw [cmpI_gt (by omega)]
  · have px := mg_pos zx
    have pxd : 0 < (mg x : Int) * d := Int.mul_pos (by omega) hd
    rcases Int.lt_trichotomy n 0 with h | h | h
    · have h3 := Int.mul_neg_of_neg_of_pos h hz0
      rw [if_neg (by omega : ¬ 0 < n), if_pos h]
      cases x.neg <;> simp [zx]
      · rw [cmpI_lt (by omega)]
      · have e1 : n * z = -((n.natAbs : Int) * z) := by rw [show (n.natAbs : Int) = -n by omega, Int.neg_mul, Int.neg_neg]
        have e2 : -(mg x : Int) * d = -((mg x : Int) * d) := Int.neg_mul _ _
        rw [e1, e2, cmpI_neg]
    · subst h
      cases x.neg <;> simp [zx]
      · rw [cmpI_lt (by omega)]
      · rw [cmpI_gt (by have : -(mg x : Int) * d = -((mg x : Int) * d) := Int.neg_mul _ _
                        omega)]
    · have h3 := Int.mul_pos h hz0
      simp only [h, if_true]
      cases x.neg <;> simp [zx]
      · rw [show ((n.natAbs : Int)) = n by omega]
      · rw [cmpI_gt (by have : -(mg x : Int) * d = -((mg x : Int) * d) := Int.neg_mul _ _
                        omega)]
end Go.Fl.Dy
namespace Go.Fl.Dy
open Go.Fl.Nm

def encJ (d p : Nat) : Nat := blen d + p
def encM (n d p : Nat) : Nat := n * 2 ^ encJ d p / d
/-- The positive quotient n / d, rounded down to p bits, is encT 2^encU; it is this number if encX. -/
def encT (n d p : Nat) : Nat := encM n d p / 2 ^ (blen (encM n d p) - p)
def encU (n d p : Nat) : Int := ((blen (encM n d p) - p : Nat) : Int) - encJ d p
def encX (n d p : Nat) : Bool := decide (n * 2 ^ encJ d p % d = 0 ∧ encM n d p % 2 ^ (blen (encM n d p) - p) = 0)
theorem encM_bits {n d p : Nat} (hn : n ≠ 0) (hd : d ≠ 0) (hp : 0 < p) : p ≤ blen (encM n d p) := by
  have h1 : blen (n * 2 ^ encJ d p) = encJ d p + blen n := by rw [Nat.mul_comm]; exact blen_shl _ hn
  have h2 := blen_pos hn
  have h3 := blen_div hd (x := n * 2 ^ encJ d p) (by rw [h1]; unfold encJ; omega)
  unfold encM
  rw [h1] at h3
  unfold encJ at h3 ⊢
  omega
theorem enc_spec {n d p : Nat} (hn : n ≠ 0) (hd : d ≠ 0) (hp : 0 < p) : Enc n d p (encT n d p) (encU n d p) := by
  obtain ⟨h1, h2⟩ := top_bits hp (encM_bits hn hd hp)
  exact ⟨Fl.of_div (by omega) _ _, h1, h2⟩
theorem encX_iff {n d p : Nat} (hd : d ≠ 0) : encX n d p = true ↔ Ex n d (encT n d p) (encU n d p) := by
  unfold encX
  rw [decide_eq_true_iff]
  exact (Ex.of_div (by omega) _ _).symm
theorem enc_bound {n d p t : Nat} {u : Int} (hn : n ≠ 0) (hd : d ≠ 0) (hnb : n ≤ 1073741824) (hdb : d ≤ 1073741824) (hp : 0 < p) (h : Enc n d p t u) : -31 - (p : Int) ≤ u ∧ u ≤ 32 - p := by
  obtain ⟨⟨x, y, hu, h1, h2⟩, h3, h4⟩ := h
  have e30 : (1073741824 : Nat) = 2 ^ 30 := by decide
  rw [e30] at hnb hdb
  constructor
  · have : 1 * 2 ^ y < 2 ^ p * 2 ^ 30 * 2 ^ x := by
      refine Nat.lt_of_le_of_lt (Nat.mul_le_mul_right _ (by omega : 1 ≤ n)) (Nat.lt_of_lt_of_le h2 ?_)
      exact Nat.mul_le_mul_right _ (Nat.mul_le_mul (by omega) hdb)
    rw [← Nat.pow_add, ← Nat.pow_add] at this
    have := pow_le_of (d := 1) (by omega) (Nat.lt_of_lt_of_eq this (Nat.one_mul _).symm)
    omega
  · have : 2 ^ (p - 1) * 1 * 2 ^ x ≤ 2 ^ 30 * 2 ^ y :=
      Nat.le_trans (Nat.mul_le_mul_right _ (Nat.mul_le_mul h3 (by omega))) (Nat.le_trans h1 (Nat.mul_le_mul_right _ hnb))
    rw [Nat.mul_one, ← Nat.pow_add, ← Nat.pow_add] at this
    have := (Nat.pow_le_pow_iff_right (a := 2) (by omega)).1 this
    omega

theorem mg_canon {neg : Bool} {k : Nat} {u : Int} (hu : -16384 ≤ u) : mg (canon neg k u) = k * 2 ^ (u + ZE).toNat := by
  by_cases h : k = 0
  · subst h; rw [canon_zero, mg_zero rfl, Nat.zero_mul]
  · rw [canon_pos h]
    unfold mg
    simp only
    have hZ := ZE_eq
    generalize ZE = z at *
    have e1 : (u + (v2 k : Int) + z).toNat = v2 k + (u + z).toNat := by omega
    have e2 := (v2_spec h).1
    rw [e1, Nat.pow_add, ← Nat.mul_assoc, Nat.mul_comm (od k), ← e2]
theorem iv_canon {neg : Bool} {k : Nat} {u : Int} (hu : -16384 ≤ u) : iv (canon neg k u) = if neg then -((k * 2 ^ (u + ZE).toNat : Nat) : Int) else ((k * 2 ^ (u + ZE).toNat : Nat) : Int) := by
  unfold iv
  rw [mg_canon hu]
  by_cases h : k = 0
  · subst h; rw [canon_zero]; simp
  · rw [canon_pos h]

/-- A multiple of 2^y with at most p bits that lies strictly between t 2^x and (t + 1) 2^x: there is none. -/
theorem no_between {t p k x y : Nat} (ht : 2 ^ (p - 1) ≤ t) (hp : 0 < p) (hk : k < 2 ^ p) (h1 : t * 2 ^ x < k * 2 ^ y) (h2 : k * 2 ^ y < (t + 1) * 2 ^ x) : False := by
  rcases Nat.lt_or_ge y x with h | h
  · obtain ⟨j, rfl⟩ : ∃ j, x = y + 1 + j := ⟨x - y - 1, by omega⟩
    have a1 : k * 2 ^ y < 2 ^ (p + y) := by rw [Nat.pow_add]; exact Nat.mul_lt_mul_of_pos_right hk (Nat.two_pow_pos _)
    have a2 : 2 ^ (p + y) ≤ t * 2 ^ (y + 1 + j) := by
      refine Nat.le_trans ?_ (Nat.mul_le_mul_right _ ht)
      rw [← Nat.pow_add]
      exact Nat.pow_le_pow_right (by omega) (by omega)
    omega
  · obtain ⟨j, rfl⟩ : ∃ j, y = j + x := ⟨y - x, by omega⟩
    rw [Nat.pow_add, ← Nat.mul_assoc] at h1 h2
    have a1 := Nat.lt_of_mul_lt_mul_right h1
    have a2 := Nat.lt_of_mul_lt_mul_right h2
    omega
section
variable {n d p t : Nat} {u : Int} {ex : Bool}
theorem Enc.lowest (h : Enc n d p t u) (hp : 0 < p) (hd : 0 < d) (hu : -16384 ≤ u) : t * 2 ^ (u + ZE).toNat * d ≤ n * Z16 := by
  have := (Fl.all h.1 (x := (u + ZE).toNat) (y := ZE) (by have hZ := ZE_eq; generalize ZE = z at *; omega)).1
  unfold Z16
  rw [Nat.mul_assoc, Nat.mul_comm _ d, ← Nat.mul_assoc]
  exact this
theorem Enc.above (h : Enc n d p t u) (hp : 0 < p) (hd : 0 < d) (hu : -16384 ≤ u) : n * Z16 < (t + 1) * 2 ^ (u + ZE).toNat * d := by
  have := (Fl.all h.1 (x := (u + ZE).toNat) (y := ZE) (by have hZ := ZE_eq; generalize ZE = z at *; omega)).2
  unfold Z16
  rw [Nat.mul_assoc, Nat.mul_comm _ d, ← Nat.mul_assoc]
  exact this
theorem Enc.exact_iff (h : Enc n d p t u) (hex : ex = true ↔ Ex n d t u) (hu : -16384 ≤ u) : ex = true ↔ t * 2 ^ (u + ZE).toNat * d = n * Z16 := by
  have hx : (((u + ZE).toNat : Nat) : Int) - (ZE : Nat) = u := by have hZ := ZE_eq; generalize ZE = z at *; omega
  rw [hex]
  unfold Z16
  rw [Nat.mul_assoc, Nat.mul_comm _ d, ← Nat.mul_assoc]
  exact ⟨fun h => Ex.all h hx, fun h => ⟨_, _, hx, h⟩⟩
theorem Enc.great (h : Enc n d p t u) (hp : 0 < p) (hd : 0 < d) (hu : -16384 ≤ u) {k y : Nat} (hk : k < 2 ^ p) (hle : k * 2 ^ y * d ≤ n * Z16) : k * 2 ^ y ≤ t * 2 ^ (u + ZE).toNat := by
  rcases Nat.lt_or_ge (t * 2 ^ (u + ZE).toNat) (k * 2 ^ y) with h1 | h1
  · exact absurd (no_between h.2.1 hp hk h1 (Nat.lt_of_mul_lt_mul_right (Nat.lt_of_le_of_lt hle (h.above hp hd hu)))) id
  · exact h1
theorem Enc.least (h : Enc n d p t u) (hex : ex = true ↔ Ex n d t u) (hp : 0 < p) (hd : 0 < d) (hu : -16384 ≤ u) {k y : Nat} (hk : k < 2 ^ p) (hle : n * Z16 ≤ k * 2 ^ y * d) : endQ t ex true * 2 ^ (u + ZE).toNat ≤ k * 2 ^ y := by
  have hi := h.exact_iff hex hu
  cases ex with
  | true =>
    have := hi.1 rfl
    rw [← this] at hle
    exact Nat.le_of_mul_le_mul_right hle hd
  | false =>
    have h0 : t * 2 ^ (u + ZE).toNat * d ≠ n * Z16 := fun e => by have := hi.2 e; cases this
    have h1 := h.lowest hp hd hu
    have h2 : t * 2 ^ (u + ZE).toNat < k * 2 ^ y := Nat.lt_of_mul_lt_mul_right (a := d) (by omega)
    show (t + 1) * _ ≤ _
    rcases Nat.lt_or_ge (k * 2 ^ y) ((t + 1) * 2 ^ (u + ZE).toNat) with h3 | h3
    · exact absurd (no_between h.2.1 hp hk h2 h3) id
    · exact h3
theorem Enc.highest (h : Enc n d p t u) (hex : ex = true ↔ Ex n d t u) (hp : 0 < p) (hd : 0 < d) (hu : -16384 ≤ u) : n * Z16 ≤ endQ t ex true * 2 ^ (u + ZE).toNat * d := by
  have hi := h.exact_iff hex hu
  cases ex with
  | true => exact Nat.le_of_eq (hi.1 rfl).symm
  | false => exact Nat.le_of_lt (h.above hp hd hu)
theorem Enc.highest_eq (h : Enc n d p t u) (hex : ex = true ↔ Ex n d t u) (hp : 0 < p) (hd : 0 < d) (hu : -16384 ≤ u) : (n * Z16 = endQ t ex true * 2 ^ (u + ZE).toNat * d) ↔ ex = true := by
  have hi := h.exact_iff hex hu
  cases ex with
  | true => exact ⟨fun _ => rfl, fun _ => (hi.1 rfl).symm⟩
  | false =>
    have := h.above hp hd hu
    exact ⟨fun e => by change _ = (t + 1) * _ * _ at e; omega, fun h => by cases h⟩
/-- An end has at most p bits. -/
theorem Enc.endBits (h : Enc n d p t u) (hp : 0 < p) (up : Bool) : blen (od (endQ t ex up)) ≤ p := by
  have h3 := h.2.2
  have hq : endQ t ex up ≤ 2 ^ p := by unfold endQ; split <;> omega
  rcases Nat.lt_or_ge (endQ t ex up) (2 ^ p) with h1 | h1
  · exact blen_le (Nat.lt_of_le_of_lt (od_le _) h1)
  · have : endQ t ex up = 2 ^ p * 1 := by omega
    rw [(v2_unique (by rfl) this).2]
    exact hp
theorem Enc.endPos (h : Enc n d p t u) (up : Bool) : endQ t ex up ≠ 0 := by
  have := Nat.two_pow_pos (p - 1)
  have := h.2.1
  unfold endQ
  split <;> omega
end

/-- The ends of the enclosure of a ratio. -/
def encE (n d : Int) (p : Nat) (up : Bool) : D :=
  if n = 0 then ⟨false, 0, 0⟩ else canon (decide (n < 0)) (endQ (encT n.natAbs d.natAbs p) (encX n.natAbs d.natAbs p) (up != decide (n < 0))) (encU n.natAbs d.natAbs p)

section
variable {n d : Int} {p : Nat}
theorem encE_vld (hn : n.natAbs ≤ 1073741824) (hd : 0 < d) (hdb : d ≤ 1073741824) (hp : 0 < p) (hp2 : p ≤ 1000) (up : Bool) : vld (encE n d p up) ∧ blen (encE n d p up).k ≤ p := by
  unfold encE
  split
  · exact ⟨vld_zero, Nat.zero_le _⟩
  · have hE := enc_spec (n := n.natAbs) (d := d.natAbs) (p := p) (by omega) (by omega) hp
    have hb := enc_bound (by omega) (by omega) hn (by omega) hp hE
    have h0 := hE.endPos (ex := encX n.natAbs d.natAbs p) (up != decide (n < 0))
    have h1 := hE.endBits (ex := encX n.natAbs d.natAbs p) hp (up != decide (n < 0))
    have h2 : blen (endQ (encT n.natAbs d.natAbs p) (encX n.natAbs d.natAbs p) (up != decide (n < 0))) ≤ p + 1 := by
      refine blen_le ?_
      have := hE.2.2
      have := Nat.two_pow_pos p
      unfold endQ
      rw [Nat.pow_succ]
      split <;> omega
    have h3 := blen_od h0
    rw [canon_pos h0]
    exact ⟨.inr ⟨(v2_spec h0).2, by simp only; omega, by simp only; omega, by simp only; omega, by simp only; omega⟩, h1⟩
theorem encE_iv (hn : n.natAbs ≤ 1073741824) (hd : 0 < d) (hdb : d ≤ 1073741824) (hp : 0 < p) (hp2 : p ≤ 1000) (up : Bool) : iv (encE n d p up) = if n = 0 then 0 else if n < 0 then
    -((endQ (encT n.natAbs d.natAbs p) (encX n.natAbs d.natAbs p) (!up) * 2 ^ (encU n.natAbs d.natAbs p + ZE).toNat : Nat) : Int) else ((endQ (encT n.natAbs d.natAbs p) (encX n.natAbs d.natAbs p) up * 2 ^ (encU n.natAbs d.natAbs p + ZE).toNat : Nat) : Int) := by
  unfold encE
  split
  · simp [iv, mg]
  · have hE := enc_spec (n := n.natAbs) (d := d.natAbs) (p := p) (by omega) (by omega) hp
    have hb := enc_bound (by omega) (by omega) hn (by omega) hp hE
    rw [iv_canon (by omega)]
    by_cases h : n < 0
    · simp [h]
    · simp [h]
theorem lift_le {a b c e : Nat} (h : a * b ≤ c * e) : (a : Int) * (b : Int) ≤ (c : Int) * (e : Int) := by
  rw [← Int.natCast_mul, ← Int.natCast_mul]; omega
/-- The lower end is at most the ratio, the upper one at least; both or none are the ratio. -/
theorem enc_in (hn : n.natAbs ≤ 1073741824) (hd : 0 < d) (hdb : d ≤ 1073741824) (hp : 0 < p) (hp2 : p ≤ 1000) :
    iv (encE n d p false) * d ≤ n * Z16 ∧ n * Z16 ≤ iv (encE n d p true) * d ∧ (iv (encE n d p false) * d = n * Z16 ↔ n * Z16 = iv (encE n d p true) * d) := by
  rw [encE_iv hn hd hdb hp hp2, encE_iv hn hd hdb hp hp2]
  by_cases h0 : n = 0
  · subst h0; simp
  have hE := enc_spec (n := n.natAbs) (d := d.natAbs) (p := p) (by omega) (by omega) hp
  have hb := enc_bound (by omega) (by omega) hn (by omega) hp hE
  have hex := encX_iff (n := n.natAbs) (p := p) (show d.natAbs ≠ 0 by omega)
  have l1 := hE.lowest hp (by omega) (by omega)
  have l2 := hE.exact_iff hex (by omega)
  have l3 := hE.highest hex hp (by omega) (by omega)
  have l4 := hE.highest_eq hex hp (by omega) (by omega)
  have q0 : endQ (encT n.natAbs d.natAbs p) (encX n.natAbs d.natAbs p) false = encT n.natAbs d.natAbs p := rfl
  simp only [Bool.not_false, Bool.not_true, q0]
  generalize endQ (encT n.natAbs d.natAbs p) (encX n.natAbs d.natAbs p) true * 2 ^ (encU n.natAbs d.natAbs p + ZE).toNat = hi at *
  generalize encT n.natAbs d.natAbs p * 2 ^ (encU n.natAbs d.natAbs p + ZE).toNat = lo at *
  generalize encX n.natAbs d.natAbs p = ex at *
  have hdd : ((d.natAbs : Nat) : Int) = d := by omega
  have l1' := lift_le l1
  have l3' := lift_le l3
  have l5 : lo * d.natAbs = n.natAbs * Z16 ↔ n.natAbs * Z16 = hi * d.natAbs := by rw [← l2, l4]
  have l6 : (lo : Int) * d = (n.natAbs : Int) * Z16 ↔ (n.natAbs : Int) * Z16 = hi * d := by
    rw [← hdd, ← Int.natCast_mul, ← Int.natCast_mul, ← Int.natCast_mul]
    exact ⟨fun h => by have := l5.1 (by omega); omega, fun h => by have := l5.2 (by omega); omega⟩
  rw [hdd] at l1' l3'
  rw [if_neg h0, if_neg h0]
  by_cases h : n < 0
  · rw [if_pos h, if_pos h]
    have hna : (n.natAbs : Int) = -n := by omega
    rw [hna, Int.neg_mul] at l1' l3' l6
    rw [Int.neg_mul, Int.neg_mul]
    exact ⟨by omega, by omega, fun h => by have := l6.2 (by omega); omega, fun h => by have := l6.1 (by omega); omega⟩
  · rw [if_neg h, if_neg h]
    have hna : (n.natAbs : Int) = n := by omega
    rw [hna] at l1' l3' l6
    exact ⟨l1', l3', l6⟩
/-- The lower end is the greatest number of p bits that is at most the ratio. -/
theorem enc_great (hn : n.natAbs ≤ 1073741824) (hd : 0 < d) (hdb : d ≤ 1073741824) (hp : 0 < p) (hp2 : p ≤ 1000) {y : D} (hy : blen y.k ≤ p) (hle : iv y * d ≤ n * Z16) : iv y ≤ iv (encE n d p false) := by
  have hdd : ((d.natAbs : Nat) : Int) = d := by omega
  have hyk := blen_lt hy
  have hZ := Z16_pos
  rw [encE_iv hn hd hdb hp hp2]
  by_cases h0 : n = 0
  · subst h0
    rw [if_pos rfl]
    rw [Int.zero_mul] at hle
    rcases Int.lt_or_le 0 (iv y) with h | h
    · have := Int.mul_pos h hd; omega
    · exact h
  have hE := enc_spec (n := n.natAbs) (d := d.natAbs) (p := p) (by omega) (by omega) hp
  have hb := enc_bound (by omega) (by omega) hn (by omega) hp hE
  have hex := encX_iff (n := n.natAbs) (p := p) (show d.natAbs ≠ 0 by omega)
  rw [if_neg h0]
  by_cases h : n < 0
  · rw [if_pos h]
    have hnz : n * Z16 < 0 := Int.mul_neg_of_neg_of_pos h (by omega)
    have hna : (n.natAbs : Int) = -n := by omega
    have hyn : iv y = -(mg y : Int) := by
      unfold iv at hle ⊢
      split
      · rfl
      · rename_i h2
        rw [if_neg h2] at hle
        have : 0 ≤ (mg y : Int) * d := Int.mul_nonneg (by omega) (by omega)
        omega
    rw [hyn, Int.neg_mul] at hle
    have l := hE.least hex hp (by omega) (by omega) hyk (y := (y.e + ZE).toNat) (by
      have : (n.natAbs : Int) * Z16 ≤ (mg y : Int) * d.natAbs := by rw [hna, hdd, Int.neg_mul]; omega
      rw [← Int.natCast_mul, ← Int.natCast_mul] at this
      exact Int.ofNat_le.1 this)
    rw [hyn]
    change _ ≤ mg y at l
    rw [Bool.not_false]
    omega
  · rw [if_neg h]
    have hna : (n.natAbs : Int) = n := by omega
    have q0 : endQ (encT n.natAbs d.natAbs p) (encX n.natAbs d.natAbs p) false = encT n.natAbs d.natAbs p := rfl
    rw [q0]
    by_cases hyn : y.neg = true
    · have : iv y = -(mg y : Int) := by unfold iv; rw [if_pos hyn]
      rw [this]
      omega
    · have hye : iv y = (mg y : Int) := by unfold iv; rw [if_neg hyn]
      rw [hye] at hle ⊢
      have l := hE.great hp (by omega) (by omega) hyk (y := (y.e + ZE).toNat) (by
        have : (mg y : Int) * d.natAbs ≤ (n.natAbs : Int) * Z16 := by rw [hna, hdd]; exact hle
        rw [← Int.natCast_mul, ← Int.natCast_mul] at this
        exact Int.ofNat_le.1 this)
      change mg y ≤ _ at l
      omega
/-- The upper end is the least number of p bits that is at least the ratio. -/
theorem enc_least (hn : n.natAbs ≤ 1073741824) (hd : 0 < d) (hdb : d ≤ 1073741824) (hp : 0 < p) (hp2 : p ≤ 1000) {y : D} (hy : blen y.k ≤ p) (hle : n * Z16 ≤ iv y * d) : iv (encE n d p true) ≤ iv y := by
  have hdd : ((d.natAbs : Nat) : Int) = d := by omega
  have hyk := blen_lt hy
  have hZ := Z16_pos
  rw [encE_iv hn hd hdb hp hp2]
  by_cases h0 : n = 0
  · subst h0
    rw [if_pos rfl]
    rw [Int.zero_mul] at hle
    rcases Int.lt_or_le (iv y) 0 with h | h
    · have := Int.mul_neg_of_neg_of_pos h hd; omega
    · exact h
  have hE := enc_spec (n := n.natAbs) (d := d.natAbs) (p := p) (by omega) (by omega) hp
  have hb := enc_bound (by omega) (by omega) hn (by omega) hp hE
  have hex := encX_iff (n := n.natAbs) (p := p) (show d.natAbs ≠ 0 by omega)
  rw [if_neg h0]
  by_cases h : n < 0
  · rw [if_pos h]
    have hna : (n.natAbs : Int) = -n := by omega
    have q0 : endQ (encT n.natAbs d.natAbs p) (encX n.natAbs d.natAbs p) (!true) = encT n.natAbs d.natAbs p := rfl
    rw [q0]
    by_cases hyn : y.neg = true
    · have hye : iv y = -(mg y : Int) := by unfold iv; rw [if_pos hyn]
      rw [hye, Int.neg_mul] at hle
      rw [hye]
      have l := hE.great hp (by omega) (by omega) hyk (y := (y.e + ZE).toNat) (by
        have : (mg y : Int) * d.natAbs ≤ (n.natAbs : Int) * Z16 := by rw [hna, hdd, Int.neg_mul]; omega
        rw [← Int.natCast_mul, ← Int.natCast_mul] at this
        exact Int.ofNat_le.1 this)
      change mg y ≤ _ at l
      omega
    · have hye : iv y = (mg y : Int) := by unfold iv; rw [if_neg hyn]
      rw [hye]
      omega
  · rw [if_neg h]
    have hna : (n.natAbs : Int) = n := by omega
    have hnz : 0 < n * (Z16 : Int) := Int.mul_pos (by omega) (by omega)
    have hyn : iv y = (mg y : Int) := by
      unfold iv at hle ⊢
      split
      · rename_i h2
        rw [if_pos h2, Int.neg_mul] at hle
        have : 0 ≤ (mg y : Int) * d := Int.mul_nonneg (by omega) (by omega)
        omega
      · rfl
    rw [hyn] at hle ⊢
    have l := hE.least hex hp (by omega) (by omega) hyk (y := (y.e + ZE).toNat) (by
      have : (n.natAbs : Int) * Z16 ≤ (mg y : Int) * d.natAbs := by rw [hna, hdd]; exact hle
      rw [← Int.natCast_mul, ← Int.natCast_mul] at this
      exact Int.ofNat_le.1 this)
    change _ ≤ mg y at l
    omega
end
/-- A valid number is known by its value. -/
theorem iv_inj {x y : D} (hx : vld x) (hy : vld y) (h : iv x = iv y) : x = y := by
  have ex := vld_e hx
  have ey := vld_e hy
  have hm : mg x = mg y ∧ (mg x ≠ 0 → x.neg = y.neg) := by
    unfold iv at h
    split at h <;> split at h
    · exact ⟨by omega, fun _ => by simp [*]⟩
    · exact ⟨by omega, fun _ => by omega⟩
    · exact ⟨by omega, fun _ => by omega⟩
    · exact ⟨by omega, fun _ => by simp [*]⟩
  have key : ∀ z : D, vld z → (z.k = 0 → z = ⟨false, 0, 0⟩) ∧ (z.k ≠ 0 → z.k % 2 = 1) := by
    intro z hz
    rcases hz with ⟨h1, h2, h3⟩ | h1
    · exact ⟨fun _ => by cases z; simp at h1 h2 h3; subst h1 h2 h3; rfl, fun h => absurd h1 h⟩
    · exact ⟨fun h => by omega, fun _ => h1.1⟩
  by_cases hk : x.k = 0
  · have hky : y.k = 0 := by
      by_cases h0 : y.k = 0
      · exact h0
      · have := mg_pos h0; have := mg_zero hk; omega
    rw [(key x hx).1 hk, (key y hy).1 hky]
  · have hp := mg_pos hk
    have hky : y.k ≠ 0 := fun h0 => by have := mg_zero h0; omega
    have ox := (key x hx).2 hk
    have oy := (key y hy).2 hky
    have hn := hm.2 (by omega)
    have hv := hm.1
    unfold mg at hv
    have hZ := ZE_eq
    generalize ZE = z at *
    have u1 := v2_unique ox (Nat.mul_comm x.k (2 ^ (x.e + z).toNat))
    have u2 := v2_unique oy (Nat.mul_comm y.k (2 ^ (y.e + z).toNat))
    rw [hv] at u1
    have e1 : x.k = y.k := u1.2.symm.trans u2.2
    have e2 : (x.e + z).toNat = (y.e + z).toNat := u1.1.symm.trans u2.1
    have e3 : x.e = y.e := by omega
    cases x; cases y; simp at hn e1 e3; subst hn e1 e3; rfl
end Go.Fl.Dy
namespace Go.Fl.Dy
theorem ctz_v2 (f x : Nat) (h0 : x ≠ 0) (hx : x < 2 ^ f) : Lib.ctz f x = v2 x := by
  unfold Lib.ctz
  rw [if_neg h0]
  obtain ⟨m, hm, _⟩ := Lib.ctzFrom_spec f x (by omega) hx
  exact (v2_unique (by omega) hm).1.symm
end Go.Fl.Dy
namespace Go.Proofs.YtkjoohnndobjeaaGreatDoor
open Go.RowKit Go.Fl Go.Fl.Nm Go.Fl.Dy

def ints (l : List Nat) : List Int := l.map fun x : Nat => (x : Int)
/-- The tables of the library that are read. -/
structure RB (w : World) : Prop where
  p10 : Lib.TabIs Tryz.prog w "internal/strconv.uint64pow10" .u64 Lib.pow10Tab
  t32 : Lib.TabIs Tryz.prog w "math/bits.deBruijn32tab" .u8 (ints Lib.deBruijn32tab)
  t64 : Lib.TabIs Tryz.prog w "math/bits.deBruijn64tab" .u8 (ints Lib.deBruijn64tab)
theorem tab_below {name : String} {g : Nat} {k : IntKind} {zs : List Int} {w w' : World} (hg : Tryz.prog.globalNamed name = some g) (h : Lib.TabIs Tryz.prog w name k zs) (hb : Below w.heap.size w w') : Lib.TabIs Tryz.prog w' name k zs := by
  unfold Lib.TabIs World.var? at h ⊢
  rw [hg] at h ⊢
  simp only [Option.bind_some] at h ⊢
  have hlt : g < w.heap.size := by
    rcases Nat.lt_or_ge g w.heap.size with h' | h'
    · exact h'
    · rw [Array.getElem?_eq_none h'] at h; cases h
  rw [hb.block g hlt]
  exact h
theorem g10 : Tryz.prog.globalNamed "internal/strconv.uint64pow10" = some 2 := by kernel_rfl
theorem g32 : Tryz.prog.globalNamed "math/bits.deBruijn32tab" = some 3 := by kernel_rfl
theorem g64 : Tryz.prog.globalNamed "math/bits.deBruijn64tab" = some 4 := by kernel_rfl
theorem RB.below {w w' : World} (h : RB w) (hb : Below w.heap.size w w') : RB w' := ⟨tab_below g10 h.p10 hb, tab_below g32 h.t32 hb, tab_below g64 h.t64 hb⟩
theorem RB.alloc {w : World} (h : RB w) (o : Obj) : RB (w.alloc o) := h.below ((Below.refl _ _).alloc (Nat.le_refl _) _)
theorem RB.drewN {w : World} (h : RB w) (n : Nat) : RB (w.drewN n) := h.below (below_drewN (Below.refl _ _) n)
theorem RB.c32 {w : World} (h : RB w) {j : Nat} (hj : j < 32) : w.cell? ⟨3, j, none⟩ = some (.int .u8 (Lib.deBruijn32tab.getD j 0 : Nat)) := by
  have hl : Lib.deBruijn32tab.length = 32 := rfl
  have := Lib.TabIs.cell h.t32 g32 j (by simp [ints, hl, hj])
  rw [this]
  simp [ints, List.getD, hl, hj]
theorem RB.c64 {w : World} (h : RB w) {j : Nat} (hj : j < 64) : w.cell? ⟨4, j, none⟩ = some (.int .u8 (Lib.deBruijn64tab.getD j 0 : Nat)) := by
  have hl : Lib.deBruijn64tab.length = 64 := rfl
  have := Lib.TabIs.cell h.t64 g64 j (by simp [ints, hl, hj])
  rw [this]
  simp [ints, List.getD, hl, hj]

set_option maxHeartbeats 1000000 in
theorem tz32_core (x k idx : Nat) (w : World) (hx0 : ((x : Int) == 0) = false)
    (key : bits BinOp.and IntKind.u32 (x : Int) (-(x : Int) % 4294967296) * 125613361 % 4294967296 / 134217728 = (idx : Int))
    (hi : idx < 32) (hk : k < 32) (hcell : w.cell? ⟨3, idx, none⟩ = some (.int .u8 k)) :
    Calls Tryz.prog 195 #[.int .u32 x] w fun e w' => e = .returned (.int .i64 k) ∧ w = w' := by
  go_enter Tryz.func195, Tryz.ntmps195
  go_wp2_with (simp only [key])
  go_ret
  exact ⟨rfl, rfl⟩
theorem tz32_any (x : Nat) (w : World) (h0 : x ≠ 0) (hx : x < BB) (hT : RB w) :
    Calls Tryz.prog 195 #[.int .u32 x] w fun e w' => e = .returned (.int .i64 (v2 x)) ∧ w = w' := by
  rw [BB_eq] at hx
  obtain ⟨hlow, hk⟩ := Lib.lowest_bit 32 x h0 hx
  obtain ⟨hi, htab⟩ := Lib.deBruijn32_at _ hk
  have hcell := hT.c32 hi
  rw [htab] at hcell
  rw [← ctz_v2 32 x h0 hx]
  exact tz32_core x _ _ w (by simp; omega) (Go.Proofs.tz32_key x _ hx h0 hlow) hi hk hcell
set_option maxHeartbeats 1000000 in
theorem tz64_core (x k idx : Nat) (w : World) (hx0 : ((x : Int) == 0) = false)
    (key : IntKind.u64.wrap (bits BinOp.and IntKind.u64 (x : Int) (IntKind.u64.wrap (-(x : Int))) * 285870213051353865) / 288230376151711744 = (idx : Int))
    (hi : idx < 64) (hk : k < 64) (hcell : w.cell? ⟨4, idx, none⟩ = some (.int .u8 k)) :
    Calls Tryz.prog 196 #[.int .u64 x] w fun e w' => e = .returned (.int .i64 k) ∧ w = w' := by
  go_enter Tryz.func196, Tryz.ntmps196
  go_wp2_with (simp only [key])
  go_ret
  exact ⟨rfl, rfl⟩
theorem tz64_any (x : Nat) (w : World) (h0 : x ≠ 0) (hx : x < 18446744073709551616) (hT : RB w) :
    Calls Tryz.prog 196 #[.int .u64 x] w fun e w' => e = .returned (.int .i64 (v2 x)) ∧ w = w' := by
  obtain ⟨hlow, hk⟩ := Lib.lowest_bit 64 x h0 hx
  obtain ⟨hi, htab⟩ := Lib.deBruijn64_at _ hk
  have hcell := hT.c64 hi
  rw [htab] at hcell
  rw [← ctz_v2 64 x h0 hx]
  exact tz64_core x _ _ w (by simp; omega) (Go.Proofs.tz64_key x _ hx h0 hlow) hi hk hcell

end Go.Proofs.YtkjoohnndobjeaaGreatDoor
namespace Go.Fl
open Go.RowKit
theorem Blk.belowW {w w' : World} {g : Nat} {t : TypeId} {cs : Array Value} (h : Blk w g t cs) (hb : Below w.heap.size w w') : Blk w' g t cs := h.below hb h.lt
theorem Blk.new1 (w : World) (o : Obj) (t : TypeId) (cs : Array Value) : Blk ((w.alloc o).alloc (.cells cs t)) (w.heap.size + 1) t cs := by
  have := Blk.new (w.alloc o) t cs
  simpa using this
theorem Blk.new2 (w : World) (o o' : Obj) (t : TypeId) (cs : Array Value) : Blk (((w.alloc o).alloc o').alloc (.cells cs t)) (w.heap.size + 2) t cs := by
  have := Blk.new ((w.alloc o).alloc o') t cs
  simpa using this
theorem below_a1 (w : World) (o : Obj) : Below w.heap.size w (w.alloc o) := (Below.refl _ _).alloc (Nat.le_refl _) _
theorem below_a2 (w : World) (o o' : Obj) : Below w.heap.size w ((w.alloc o).alloc o') := (below_a1 w o).alloc (by simp) _
theorem below_a3 (w : World) (o o' o'' : Obj) : Below w.heap.size w (((w.alloc o).alloc o').alloc o'') := (below_a2 w o o').alloc (by simp; omega) _
theorem below_a4 (w : World) (o o' o'' o3 : Obj) : Below w.heap.size w ((((w.alloc o).alloc o').alloc o'').alloc o3) := (below_a3 w o o' o'').alloc (by simp; omega) _
theorem Blk.new3 (w : World) (o o' o'' : Obj) (t : TypeId) (cs : Array Value) : Blk ((((w.alloc o).alloc o').alloc o'').alloc (.cells cs t)) (w.heap.size + 3) t cs := by
  have := Blk.new (((w.alloc o).alloc o').alloc o'') t cs
  simpa using this
/-- No cell is a limb. -/
def NoU (cs : Array Value) : Prop := ∀ (i : Nat) (x : Int), cs[i]? ≠ some (.int .u32 x)
theorem noU3 {a : Bool} {A : Option Addr} {n c : Nat} {e : Int} : NoU #[.bool a, .slice A n c, .int .i64 e] := by
  intro i x h
  match i with
  | 0 => simp at h
  | 1 => simp at h
  | 2 => simp at h
  | i + 3 => simp at h
theorem store3_put {w : World} {g : Nat} {t : TypeId} {x y z : Value} (hB : Blk w g t #[x, y, z]) (a b c : Value) : ((w.setCell ⟨g, 0, none⟩ a).setCell ⟨g, 1, none⟩ b).setCell ⟨g, 2, none⟩ c = putB w g t #[a, b, c] := by
  rw [hB.setCell_eq 0 a]
  have h1 := hB.put ((#[x, y, z] : Array Value).setIfInBounds 0 a)
  rw [h1.setCell_eq 1 b, putB_putB]
  have h2 := hB.put (((#[x, y, z] : Array Value).setIfInBounds 0 a).setIfInBounds 1 b)
  rw [h2.setCell_eq 2 c, putB_putB]
  rfl
theorem store3_below {B : Nat} {w0 w : World} {g : Nat} {t : TypeId} {x y z : Value} (h : Below B w0 w) (hB : Blk w g t #[x, y, z]) (a b c : Value) (hg : B ≤ g) : Below B w0 (((w.setCell ⟨g, 0, none⟩ a).setCell ⟨g, 1, none⟩ b).setCell ⟨g, 2, none⟩ c) := by
  rw [store3_put hB]
  exact h.trans (putB_below w g t _ hg)
end Go.Fl
namespace Go.Fl.Nm
open Go.RowKit Go.Fl
theorem Sl.belowW {w w' : World} {A : Option Addr} {n c : Nat} {l : List Nat} (h : Sl w A n c l) (hb : Below w.heap.size w w') : Sl w' A n c l := h.below hb
theorem Sl.clip {w : World} {A : Option Addr} {n c : Nat} {l : List Nat} (h : Sl w A n c l) : Sl w A n n l := by
  have := h.cut (Nat.le_refl n) (Nat.le_refl n) h.max (fun e => by have := h.nil e; have := h.cap; omega)
  rwa [List.take_of_length_le (by rw [h.len]; exact Nat.le_refl _)] at this
theorem Sl.lim {w : World} {A : Option Addr} {n c v k : Nat} (h : Sl w A n c (limbs v)) (hv : blen v ≤ 32 * k) : n ≤ k := by rw [← h.len]; exact Go.Fl.Dy.limbs_bits hv
/-- Limbs do not lie in a block that has none. -/
theorem Sl.far {w w' : World} {A : Option Addr} {n c g : Nat} {l : List Nat} {t : TypeId} {cs : Array Value} (h : Sl w A n c l) (hB : Blk w g t cs) (hN : NoU cs) (hg : w.grownBy w' (some g)) : Sl w' A n c l := by
  rcases Nat.eq_zero_or_pos n with h0 | h0
  · exact ⟨h.1, h.2.1, h.2.2.1, h.2.2.2.1, h.2.2.2.2.1, h.rd.1, fun hp => absurd hp (by omega)⟩
  · refine h.grown hg ?_
    rintro b off hA rfl
    obtain ⟨b', off', x, hA', _, _, _, hx⟩ := h.at_ h0
    rw [hA] at hA'
    injection hA' with hA'
    injection hA' with e1 e2
    subst e1 e2
    rw [hB.cell] at hx
    exact hN _ _ hx
theorem store3_sl {w : World} {A : Option Addr} {n m g : Nat} {l : List Nat} {t : TypeId} {x y z : Value} (h : Sl w A n m l) (hB : Blk w g t #[x, y, z]) (hN : NoU #[x, y, z]) (a b c : Value) : Sl (((w.setCell ⟨g, 0, none⟩ a).setCell ⟨g, 1, none⟩ b).setCell ⟨g, 2, none⟩ c) A n m l := by
  rw [store3_put hB]
  exact h.far hB hN (putB_grown w g t _)
end Go.Fl.Nm
namespace Go.Proofs.YtkjoohnndobjeaaGreatDoor
open Go.RowKit Go.Fl Go.Fl.Nm Go.Fl.Dy

theorem RB.belowW {w w' : World} (h : RB w) (hb : Below w.heap.size w w') : RB w' := h.below hb
/-- Limbs of a number, and no error. -/
def SlR (v : Nat) (w : World) (e : Ending) (w' : World) : Prop :=
  ∃ (A : Option Addr) (n : Nat), e = .returned (.tuple #[.slice A n n, .int .i64 0]) ∧ Hid (Sl w' A n n (limbs v)) ∧ Hid (Below w.heap.size w w')
theorem SlR.of {base v : Nat} {w : World} {e : Ending} {w' : World} (h : Res base v w e w') (hv : blen v ≤ 8192) : SlR v w e w' := by
  obtain ⟨A, n, l, er, rfl, HN, HR, HB⟩ := h
  have hl : (limbs v).length ≤ 256 := limbs_bits (by omega)
  rcases HR.out with ⟨rfl, rfl, _⟩ | ⟨_, _, h⟩
  · exact ⟨A, n, rfl, Lib.hid HN.out.sl, HB⟩
  · omega
section
variable (A B : Option Addr) (n c m d : Nat) (a b : List Nat) (w : World) (ha : Sl w A n c a) (hb : Sl w B m d b) (hn : n ≤ 256) (hm : m ≤ 256)
include ha hb hn hm in
end

/-- A dyadic number. -/
def DyR (d : D) (w : World) (e : Ending) (w' : World) : Prop :=
  ∃ (A : Option Addr) (n c : Nat), e = .returned (.agg #[.bool d.neg, .slice A n c, .int .i64 d.e]) ∧ Hid (Sl w' A n c (limbs d.k)) ∧ Hid (Below w.heap.size w w')
/-- A dyadic number and an error. -/
def DyE (r : D × Int) (w : World) (e : Ending) (w' : World) : Prop :=
  ∃ (A : Option Addr) (n c : Nat), e = .returned (.tuple #[.agg #[.bool r.1.neg, .slice A n c, .int .i64 r.1.e], .int .i64 r.2]) ∧ Hid (Sl w' A n c (limbs r.1.k)) ∧ Hid (Below w.heap.size w w')
/-- A value. -/
def Ret (v : Value) (w : World) (e : Ending) (w' : World) : Prop := e = .returned v ∧ Hid (Below w.heap.size w w')

end Go.Proofs.YtkjoohnndobjeaaGreatDoor
namespace Go.Fl.Dy
open Go.Fl.Nm
theorem limbs_len_of {l : List Nat} (h : ok l) : (limbs (val l)).length ≤ l.length := by
  rw [← trim_limbs h, List.length_take]; omega
theorem canon_len {neg : Bool} {k : Nat} {e : Int} (h : (limbs k).length ≤ 256) : (limbs (canon neg k e).k).length ≤ 256 := by
  have h1 := bits_limbs h
  by_cases h0 : k = 0
  · subst h0; rw [canon_zero, limbs_zero]; simp
  · rw [canon_pos h0]
    have := blen_od h0
    exact limbs_bits (by simp only; omega)
theorem vld_len {d : D} (h : vld d) : (limbs d.k).length ≤ 256 := by
  rcases h with ⟨h, _⟩ | ⟨_, h, _⟩
  · rw [h, limbs_zero]; simp
  · exact limbs_bits (by omega)
theorem vld_ebd {d : D} (h : vld d) : -16384 ≤ d.e ∧ d.e ≤ 16384 := by
  rcases h with ⟨_, _, h⟩ | ⟨_, _, h1, h2, _⟩ <;> omega
theorem vld_bits {d : D} (h : vld d) : blen d.k ≤ 4096 := by
  rcases h with ⟨h, _, _⟩ | ⟨_, h1, _⟩
  · rw [h, blen_zero]; omega
  · exact h1
theorem limbs_two (x : Nat) (h : x < 18446744073709551616) : val [x % 4294967296, x / 4294967296 % 4294967296] = x := by
  rw [val_cons, val_cons, val_nil, BB_eq]; omega
end Go.Fl.Dy
namespace Go.Proofs.YtkjoohnndobjeaaGreatDoor
open Go.RowKit Go.Fl Go.Fl.Nm Go.Fl.Dy

end Go.Proofs.YtkjoohnndobjeaaGreatDoor
namespace Go.Fl.Nm
open Go.RowKit Go.Fl
theorem Sl.two {w : World} {g : Nat} {t : TypeId} {x y : Nat} {a b : Int} (hB : Blk w g t #[.int .u32 a, .int .u32 b]) (ha : a = x) (hb : b = y) (hx : x < BB) (hy : y < BB) : Sl w (some ⟨g, 0, none⟩) 2 2 [x, y] := by
  subst ha hb
  exact (Nw.of_blk (base := 0) (l := [x, y]) hB (ok_cons.2 ⟨hx, ok_cons.2 ⟨hy, ok_nil⟩⟩) (Nat.zero_le _) rfl (by unfold maxLen; simp)).sl
end Go.Fl.Nm
namespace Go.Fl
open Go.RowKit
theorem store3_far {w : World} {g g' i : Nat} {t : TypeId} {x y z v : Value} (hB : Blk w g' t #[x, y, z]) (hc : w.cell? ⟨g, i, none⟩ = some v) (hne : g ≠ g') (a b c : Value) : (((w.setCell ⟨g', 0, none⟩ a).setCell ⟨g', 1, none⟩ b).setCell ⟨g', 2, none⟩ c).cell? ⟨g, i, none⟩ = some v := by
  rw [store3_put hB]
  exact (putB_grown w g' t _).cell hc (by simpa using hne)
end Go.Fl
namespace Go.Proofs.YtkjoohnndobjeaaGreatDoor
open Go.RowKit Go.Fl Go.Fl.Nm Go.Fl.Dy
/-- Limbs of a number. -/
def SlP (v : Nat) (w : World) (e : Ending) (w' : World) : Prop :=
  ∃ (A : Option Addr) (n : Nat), e = .returned (.slice A n n) ∧ Hid (Sl w' A n n (limbs v)) ∧ Hid (Below w.heap.size w w')

end Go.Proofs.YtkjoohnndobjeaaGreatDoor
namespace Go.Fl.Dy
open Go.Fl.Nm
theorem blen_div_le (m k : Nat) : blen (m / 2 ^ k) ≤ blen m - k := by
  by_cases h : m = 0
  · subst h; simp [blen_zero]
  · have h1 := (blen_spec h).2
    refine blen_le ?_
    rcases Nat.lt_or_ge (blen m) k with hk | hk
    · rw [Nat.div_eq_of_lt (Nat.lt_of_lt_of_le h1 (Nat.pow_le_pow_right (by omega) (by omega)))]
      exact Nat.two_pow_pos _
    · rw [Nat.div_lt_iff_lt_mul (Nat.two_pow_pos _), ← Nat.pow_add, show blen m - k + k = blen m by omega]
      exact h1
theorem blen_mul_le (m k : Nat) : blen (2 ^ k * m) ≤ k + blen m := by
  by_cases h : m = 0
  · subst h; simp [blen_zero]
  · exact Nat.le_of_eq (blen_shl k h)
def precB (p : Int) : Bool := decide (8 ≤ p ∧ p ≤ 512)
end Go.Fl.Dy
namespace Go.Proofs.YtkjoohnndobjeaaGreatDoor
open Go.RowKit Go.Fl Go.Fl.Nm Go.Fl.Dy
def ShrP (v : Nat) (b : Bool) (w : World) (e : Ending) (w' : World) : Prop :=
  ∃ (A : Option Addr) (n : Nat), e = .returned (.tuple #[.slice A n n, .bool b]) ∧ Hid (Sl w' A n n (limbs v)) ∧ Hid (Below w.heap.size w w')
theorem cmp_ne {a b : Nat} : (cmpN a b != 0) = decide (a ≠ b) := by
  unfold cmpN
  by_cases h1 : a < b
  · rw [if_pos h1]; simp; omega
  · rw [if_neg h1]
    by_cases h2 : b < a
    · rw [if_pos h2]; simp; omega
    · rw [if_neg h2]; simp; omega

def errP (p : Int) : Int := if precB p then 0 else 2
end Go.Proofs.YtkjoohnndobjeaaGreatDoor
namespace Go.Fl.Dy
open Go.Fl.Nm
theorem noUX {A : Option Addr} {n c : Nat} {e : Int} {a : Bool} : NoU #[.slice A n c, .int .i64 e, .bool a] := by
  intro i x h
  match i with
  | 0 => simp at h
  | 1 => simp at h
  | 2 => simp at h
  | i + 3 => simp at h
theorem cutU_low {m p : Nat} {e : Int} (hp : p ≤ 512) : e + blen m - p ≤ cutU m e p ∧ -16384 ≤ cutU m e p := by unfold cutU; omega
/-- The multiple ahead of rounding up has at most p bits. -/
theorem cut_bitsL {m p : Nat} {e : Int} (hp : p ≤ 512) (h : cutU m e p ≤ e) : blen (2 ^ (e - cutU m e p).toNat * m) ≤ p := by
  have h1 := (cutU_low (m := m) (e := e) hp).1
  by_cases h0 : m = 0
  · subst h0; simp [blen_zero]
  · rw [blen_shl _ h0]; omega
theorem cut_bitsR {m p : Nat} {e : Int} (hp : p ≤ 512) (h : e < cutU m e p) : blen (m / 2 ^ (cutU m e p - e).toNat) ≤ p := by
  have h1 := (cutU_low (m := m) (e := e) hp).1
  have h2 := blen_div_le m (cutU m e p - e).toNat
  omega
theorem blen_succ (q : Nat) : blen (q + 1) ≤ blen q + 1 := by
  refine blen_le ?_
  have := blen_lt (Nat.le_refl (blen q))
  rw [Nat.pow_succ]
  have := Nat.two_pow_pos (blen q)
  omega
theorem blen_pred (p : Nat) : blen (2 ^ p - 1) ≤ p := blen_le (by have := Nat.two_pow_pos p; omega)
end Go.Fl.Dy
namespace Go.Fl.Nm
open Go.RowKit Go.Fl
theorem Sl.one {w : World} {g : Nat} {t : TypeId} {x : Nat} (hB : Blk w g t #[.int .u32 (x : Int)]) (hx : x < BB) : Sl w (some ⟨g, 0, none⟩) 1 1 [x] :=
  (Nw.of_blk (base := 0) (l := [x]) hB (ok_cons.2 ⟨hx, ok_nil⟩) (Nat.zero_le _) rfl (by unfold maxLen; simp)).sl
end Go.Fl.Nm
namespace Go.Proofs.YtkjoohnndobjeaaGreatDoor
open Go.RowKit Go.Fl Go.Fl.Nm Go.Fl.Dy

end Go.Proofs.YtkjoohnndobjeaaGreatDoor
namespace Go.Proofs.YtkjoohnndobjeaaGreatDoor
open Go.RowKit Go.Fl Go.Fl.Nm Go.Fl.Dy

theorem cutR_err (m : Nat) (e : Int) (more : Bool) (p : Nat) (up : Bool) : (cutR m e more p up).2 = 0 ∨ (cutR m e more p up).2 = 9 := by
  unfold cutR chk
  split
  · split
    · exact .inr rfl
    · split
      · exact .inl rfl
      · exact .inr rfl
  · split
    · exact .inl rfl
    · exact .inr rfl
end Go.Proofs.YtkjoohnndobjeaaGreatDoor
namespace Go.Fl.Dy
open Go.Fl.Nm
def divE (a b : D) (p : Int) (up : Bool) : D × Int := if precB p then divR a b p.toNat up else (⟨false, 0, 0⟩, 2)
theorem divE_vld (a b : D) (p : Int) (up : Bool) : vld (divE a b p up).1 := by
  unfold divE divR
  split
  · split
    · exact vld_zero
    · split
      · exact vld_zero
      · exact sgnR_vld _ _ _ _ _ _
  · exact vld_zero
theorem precB_iff {p : Int} : precB p = true ↔ 8 ≤ p ∧ p ≤ 512 := by simp [precB]
end Go.Fl.Dy
namespace Go.Proofs.YtkjoohnndobjeaaGreatDoor
open Go.RowKit Go.Fl Go.Fl.Nm Go.Fl.Dy

end Go.Proofs.YtkjoohnndobjeaaGreatDoor
