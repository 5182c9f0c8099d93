/-
  What the enclosures of shown intervals are, in plain Lean. Of no program.
-/
import Derived.Test.YtffdkakogeofmaaGreatDoorDecU
set_option linter.unusedVariables false
namespace Go.Proofs.YtffdkakogeofmaaGreatDoor
open Go.Fl.Nm Go.Fl.Dy
open Go.Lib (decDigits)
theorem ten_natAbs {q : Nat} (hq : q ≤ 250) : blen (((10 ^ q : Nat) : Int).natAbs) ≤ 1100 := by
  rw [Int.natAbs_natCast]
  have := blen_ten q
  omega
theorem scL_abs (d : D) (q : Nat) : (scL d q).natAbs = scQ d q false := sI_natAbs _ _
theorem scH_abs (d : D) (q : Nat) : (scH d q).natAbs = scQ d q true := sI_natAbs _ _
section
variable {x y : D} {q p : Nat}
theorem encl_lo (vx : vld x) (tx : topB x ≤ 400) (hq : q ≤ 50) (hp : 8 ≤ p) (hp2 : p ≤ 512) :
    vld (encE (scL x q) ((10 ^ q : Nat) : Int) p false) ∧ blen (encE (scL x q) ((10 ^ q : Nat) : Int) p false).k ≤ p ∧ iv (encE (scL x q) ((10 ^ q : Nat) : Int) p false) ≤ iv x ∧ iv (encE (scL x q) ((10 ^ q : Nat) : Int) p false) * ((10 ^ q : Nat) : Int) ≤ scL x q * (Z16 : Int) := by
  have b1 := scQ_blen (q := q) (T := 400) (up := false) vx (by omega)
  have hb : blen (scL x q).natAbs ≤ 1100 := by rw [scL_abs]; omega
  have ht := ten_natAbs (q := q) (by omega)
  have h0 := ten_posI q
  have h1 := encE_vldB (p := p) hb h0 ht (by omega) (by omega) false
  have h2 := (enc_inB (p := p) hb h0 ht (by omega) (by omega)).1
  have h3 := (scL_spec (q := q) vx).1
  exact ⟨h1.1, h1.2, mul_le_cancel h0 (Int.le_trans h2 h3), h2⟩
theorem encl_hi (vx : vld x) (tx : topB x ≤ 400) (hq : q ≤ 50) (hp : 8 ≤ p) (hp2 : p ≤ 512) :
    vld (encE (scH x q) ((10 ^ q : Nat) : Int) p true) ∧ blen (encE (scH x q) ((10 ^ q : Nat) : Int) p true).k ≤ p ∧ iv x ≤ iv (encE (scH x q) ((10 ^ q : Nat) : Int) p true) ∧ scH x q * (Z16 : Int) ≤ iv (encE (scH x q) ((10 ^ q : Nat) : Int) p true) * ((10 ^ q : Nat) : Int) := by
  have b1 := scQ_blen (q := q) (T := 400) (up := true) vx (by omega)
  have hb : blen (scH x q).natAbs ≤ 1100 := by rw [scH_abs]; omega
  have ht := ten_natAbs (q := q) (by omega)
  have h0 := ten_posI q
  have h1 := encE_vldB (p := p) hb h0 ht (by omega) (by omega) true
  have h2 := (enc_inB (p := p) hb h0 ht (by omega) (by omega)).2.1
  have h3 := (scH_spec (q := q) vx).1
  exact ⟨h1.1, h1.2, mul_le_cancel h0 (Int.le_trans h3 h2), h2⟩
theorem encl_lo_next (vx : vld x) (tx : topB x ≤ 400) (hq : q + 1 ≤ 50) (hp : 8 ≤ p) (hp2 : p ≤ 512) :
    iv (encE (scL x q) ((10 ^ q : Nat) : Int) p false) ≤ iv (encE (scL x (q + 1)) ((10 ^ (q + 1) : Nat) : Int) p false) := by
  obtain ⟨v1, k1, l1, m1⟩ := encl_lo (q := q) (p := p) vx tx (by omega) hp hp2
  have b1 := scQ_blen (q := q + 1) (T := 400) (up := false) vx (by omega)
  have hb : blen (scL x (q + 1)).natAbs ≤ 1100 := by rw [scL_abs]; omega
  refine enc_greatB (p := p) hb (ten_posI _) (ten_natAbs (by omega)) (by omega) (by omega) k1 ?_
  rw [ten_succ, Int.mul_left_comm]
  have h1 := Int.mul_le_mul_of_nonneg_left m1 (show (0 : Int) ≤ 10 by omega)
  have h2 := Int.mul_le_mul_of_nonneg_right (scL_next (q := q) vx) (Int.le_of_lt Z16_posI)
  rw [Int.mul_assoc] at h2
  exact Int.le_trans h1 h2
theorem encl_hi_next (vx : vld x) (tx : topB x ≤ 400) (hq : q + 1 ≤ 50) (hp : 8 ≤ p) (hp2 : p ≤ 512) :
    iv (encE (scH x (q + 1)) ((10 ^ (q + 1) : Nat) : Int) p true) ≤ iv (encE (scH x q) ((10 ^ q : Nat) : Int) p true) := by
  obtain ⟨v1, k1, l1, m1⟩ := encl_hi (q := q) (p := p) vx tx (by omega) hp hp2
  have b1 := scQ_blen (q := q + 1) (T := 400) (up := true) vx (by omega)
  have hb : blen (scH x (q + 1)).natAbs ≤ 1100 := by rw [scH_abs]; omega
  refine enc_leastB (p := p) hb (ten_posI _) (ten_natAbs (by omega)) (by omega) (by omega) k1 ?_
  rw [ten_succ, Int.mul_left_comm]
  have h1 := Int.mul_le_mul_of_nonneg_left m1 (show (0 : Int) ≤ 10 by omega)
  have h2 := Int.mul_le_mul_of_nonneg_right (scH_next (q := q) vx) (Int.le_of_lt Z16_posI)
  rw [Int.mul_assoc] at h2
  exact Int.le_trans h2 h1
end
theorem cmp_le {x y : D} (vx : vld x) (vy : vld y) : cmpD x y ≤ 0 ↔ iv x ≤ iv y := by rw [cmpD_eq vx vy, cmpI_le]
/-- All that the law of enclosing texts needs. -/
theorem encl_law {x y : D} {q p : Nat} (vx : vld x) (vy : vld y) (hc : cmpD x y ≤ 0) (tx : topB x ≤ 400) (ty : topB y ≤ 400) (hq : q + 1 ≤ 50) (hp : 8 ≤ p) (hp2 : p ≤ 512) :
    ∃ a b c d : D, parR (textI x y q) (p : Int) = ((a, b, false), 0) ∧ parR (textI x y (q + 1)) (p : Int) = ((c, d, false), 0) ∧ vld a ∧ vld b ∧ vld c ∧ vld d ∧ cmpD a b ≤ 0 ∧ cmpD c d ≤ 0 ∧ cmpD a x ≤ 0 ∧ cmpD y b ≤ 0 ∧ cmpD a c ≤ 0 ∧ cmpD d b ≤ 0 := by
  have hxy := (cmp_le vx vy).1 hc
  obtain ⟨v1, _, l1, _⟩ := encl_lo (q := q) (p := p) vx tx (by omega) hp hp2
  obtain ⟨v2, _, l2, _⟩ := encl_hi (q := q) (p := p) vy ty (by omega) hp hp2
  obtain ⟨v3, _, l3, _⟩ := encl_lo (q := q + 1) (p := p) vx tx (by omega) hp hp2
  obtain ⟨v4, _, l4, _⟩ := encl_hi (q := q + 1) (p := p) vy ty (by omega) hp hp2
  have n1 := encl_lo_next (q := q) (p := p) vx tx hq hp hp2
  have n2 := encl_hi_next (q := q) (p := p) vy ty hq hp hp2
  refine ⟨_, _, _, _, par_textI vx vy hxy tx ty (by omega) hp hp2, par_textI vx vy hxy tx ty (by omega) hp hp2, v1, v2, v3, v4, ?_, ?_, ?_, ?_, ?_, ?_⟩
  · exact (cmp_le v1 v2).2 (by omega)
  · exact (cmp_le v3 v4).2 (by omega)
  · exact (cmp_le v1 vx).2 l1
  · exact (cmp_le vy v2).2 l2
  · exact (cmp_le v1 v3).2 n1
  · exact (cmp_le v4 v2).2 n2
theorem textI_len {x y : D} {q : Nat} (vx : vld x) (vy : vld y) (tx : topB x ≤ 400) (ty : topB y ≤ 400) (hq : q ≤ 50) : (textI x y q).length ≤ 3000 ∧ txtI x y q = textI x y q := by
  have k1 := scQ_top (q := q) (T := 400) (up := false) vx (by omega)
  have k2 := scQ_top (q := q) (T := 400) (up := true) vy (by omega)
  have l1 := dig_len k1 two400 (by omega)
  have l2 := dig_len k2 two400 (by omega)
  have t1 := text_len (scN x q false) (scQ x q false) q
  have t2 := text_len (scN y q true) (scQ y q true) q
  refine ⟨?_, by unfold txtI; rw [if_pos ⟨by omega, by omega⟩]⟩
  unfold textI
  simp only [List.length_append, List.length_cons, List.length_nil]
  omega
/-- A valid interval that is not everything, or everything. -/
theorem vldIB_cases {ng : Bool} {l : List Nat} {ex : Int} {ng' : Bool} {l' : List Nat} {ex' : Int} {all : Bool} (h : vldIB ng l ex ng' l' ex' all = true) :
    l = limbs (val l) ∧ l' = limbs (val l') ∧ vld ⟨ng, val l, ex⟩ ∧ vld ⟨ng', val l', ex'⟩ ∧ cmpD ⟨ng, val l, ex⟩ ⟨ng', val l', ex'⟩ ≤ 0 ∧ (all = true → (⟨ng, val l, ex⟩ : D) = zD ∧ (⟨ng', val l', ex'⟩ : D) = zD) := by
  unfold vldIB at h
  cases all with
  | false =>
    simp only [Bool.false_eq_true, if_false, Bool.and_eq_true, decide_eq_true_eq] at h
    obtain ⟨⟨h1, h2⟩, h3⟩ := h
    obtain ⟨a1, a2⟩ := vldL_iff.1 h1
    obtain ⟨b1, b2⟩ := vldL_iff.1 h2
    exact ⟨a1, b1, a2, b2, h3, fun h => by cases h⟩
  | true =>
    simp only [if_true, Bool.and_eq_true] at h
    unfold zeroB at h
    simp only [Bool.and_eq_true, Bool.not_eq_true', decide_eq_true_eq] at h
    obtain ⟨⟨⟨h1, h2⟩, h3⟩, ⟨⟨h4, h5⟩, h6⟩⟩ := h
    obtain rfl := List.eq_nil_of_length_eq_zero h2
    obtain rfl := List.eq_nil_of_length_eq_zero h5
    subst h1 h3 h4 h6
    have e : limbs (val []) = [] := limbs_zero
    exact ⟨e.symm, e.symm, vld_zero, vld_zero, by decide, fun _ => ⟨rfl, rfl⟩⟩
end Go.Proofs.YtffdkakogeofmaaGreatDoor
