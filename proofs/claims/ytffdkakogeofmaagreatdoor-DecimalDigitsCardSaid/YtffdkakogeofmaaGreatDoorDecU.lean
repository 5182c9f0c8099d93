/-
  What the texts of numbers and intervals are read as, in plain Lean. Of no program.
-/
import Derived.Test.YtffdkakogeofmaaGreatDoorDecI
import Derived.Test.YtffdkakogeofmaaGreatDoorDecT
set_option linter.unusedVariables false
namespace Go.Fl.Dy
open Go.Fl.Nm
open Go.Lib (decDigits)
/-- 10^q times a number, as a multiple of 2^-16384. -/
theorem sc_whole {d : D} {q : Nat} {up : Bool} (he : 0 ≤ d.e) : scQ d q up * Z16 = mg d * 10 ^ q := by
  unfold scQ mg scM Z16
  rw [if_pos he, show (d.e + (ZE : Int)).toNat = d.e.toNat + ZE by omega, Nat.pow_add]
  generalize 2 ^ d.e.toNat = a
  generalize 2 ^ ZE = b
  generalize 10 ^ q = c
  rw [Nat.mul_comm a, Nat.mul_assoc, Nat.mul_assoc, Nat.mul_assoc]
  congr 1
  rw [Nat.mul_comm c]
theorem sc_parts {d : D} {q : Nat} (hv : vld d) (he : d.e < 0) : ∃ T : Nat, 0 < T ∧ Z16 = 2 ^ (-d.e).toNat * T ∧ mg d * 10 ^ q = scM d q * T := by
  have h := vld_e hv
  refine ⟨2 ^ (d.e + ZE).toNat, Nat.two_pow_pos _, ?_, ?_⟩
  · unfold Z16
    rw [← Nat.pow_add]
    congr 1
    have := ZE_eq
    omega
  · unfold mg scM
    rw [Nat.mul_assoc, Nat.mul_assoc, Nat.mul_comm (10 ^ q)]
theorem sc_low {d : D} {q : Nat} {up : Bool} (hv : vld d) (h : (up != d.neg) = false) : scQ d q up * Z16 ≤ mg d * 10 ^ q ∧ mg d * 10 ^ q < scQ d q up * Z16 + Z16 := by
  have hZ := Z16_pos
  rcases Int.lt_or_le d.e 0 with he | he
  · obtain ⟨T, hT, h1, h2⟩ := sc_parts (q := q) hv he
    have e : scQ d q up = scM d q / 2 ^ (-d.e).toNat := by unfold scQ; rw [if_neg (by omega), h, Bool.and_false]; simp
    rw [e, h2, h1]
    have hp := Nat.two_pow_pos (-d.e).toNat
    generalize 2 ^ (-d.e).toNat = P at *
    generalize scM d q = M at *
    have h3 := Nat.div_add_mod M P
    have h4 := Nat.mod_lt M hp
    have e1 : M / P * (P * T) = (P * (M / P)) * T := by rw [← Nat.mul_assoc, Nat.mul_comm (M / P) P]
    rw [e1, ← Nat.add_mul]
    exact ⟨Nat.mul_le_mul_right _ (by omega), Nat.mul_lt_mul_of_pos_right (by omega) hT⟩
  · rw [sc_whole he]
    omega
theorem sc_high {d : D} {q : Nat} {up : Bool} (hv : vld d) (h : (up != d.neg) = true) : mg d * 10 ^ q ≤ scQ d q up * Z16 ∧ scQ d q up * Z16 < mg d * 10 ^ q + Z16 := by
  have hZ := Z16_pos
  rcases Int.lt_or_le d.e 0 with he | he
  · obtain ⟨T, hT, h1, h2⟩ := sc_parts (q := q) hv he
    have e : scQ d q up = scM d q / 2 ^ (-d.e).toNat + (if scM d q % 2 ^ (-d.e).toNat ≠ 0 then 1 else 0) := by unfold scQ; rw [if_neg (by omega), h, Bool.and_true]; simp
    rw [e, h2, h1]
    have hp := Nat.two_pow_pos (-d.e).toNat
    generalize 2 ^ (-d.e).toNat = P at *
    generalize scM d q = M at *
    have h3 := Nat.div_add_mod M P
    have h4 := Nat.mod_lt M hp
    by_cases h5 : M % P = 0
    · rw [if_neg (by simpa using h5), Nat.add_zero]
      have e1 : M / P * (P * T) = (P * (M / P)) * T := by rw [← Nat.mul_assoc, Nat.mul_comm (M / P) P]
      rw [e1, ← Nat.add_mul]
      exact ⟨Nat.mul_le_mul_right _ (by omega), Nat.mul_lt_mul_of_pos_right (by omega) hT⟩
    · rw [if_pos h5]
      have e1 : (M / P + 1) * (P * T) = (P * (M / P) + P) * T := by rw [← Nat.mul_assoc, Nat.add_mul, Nat.one_mul, Nat.mul_comm (M / P) P]
      rw [e1, ← Nat.add_mul]
      exact ⟨Nat.mul_le_mul_right _ (by omega), Nat.mul_lt_mul_of_pos_right (by omega) hT⟩
  · rw [sc_whole he]
    omega
theorem sI_scN (d : D) (q : Nat) (up : Bool) : sI (scN d q up) (scQ d q up) = sI d.neg (scQ d q up) := by
  unfold scN sI
  split
  · rfl
  · cases d.neg with
    | false => rfl
    | true =>
      simp only [Bool.true_and, decide_eq_true_eq, if_true]
      split <;> omega
theorem scN_pos {d : D} {q : Nat} {up : Bool} (hv : vld d) (h : scN d q up = true) : 0 < scQ d q up := by
  unfold scN at h
  split at h
  · rename_i he
    have h0 : d.k ≠ 0 := by rcases hv with ⟨_, h2, _⟩ | ⟨h2, _⟩; · rw [h2] at h; cases h
                            · omega
    unfold scQ scM
    rw [if_pos he]
    exact Nat.mul_pos (Nat.two_pow_pos _) (Nat.mul_pos (by omega) (Nat.pow_pos (by omega)))
  · simp only [Bool.and_eq_true, decide_eq_true_eq] at h
    exact h.2
theorem iv_cast (d : D) (q : Nat) : iv d * ((10 ^ q : Nat) : Int) = if d.neg then -((mg d * 10 ^ q : Nat) : Int) else ((mg d * 10 ^ q : Nat) : Int) := by
  unfold iv
  rw [Int.natCast_mul]
  split
  · rw [Int.neg_mul]
  · rfl
/-- The number rounded down to q digits. -/
def scL (d : D) (q : Nat) : Int := sI (scN d q false) (scQ d q false)
/-- The number rounded up to q digits. -/
def scH (d : D) (q : Nat) : Int := sI (scN d q true) (scQ d q true)
theorem scL_spec {d : D} {q : Nat} (hv : vld d) : scL d q * (Z16 : Int) ≤ iv d * ((10 ^ q : Nat) : Int) ∧ iv d * ((10 ^ q : Nat) : Int) < (scL d q + 1) * (Z16 : Int) := by
  unfold scL
  rw [sI_scN, iv_cast, Int.add_mul, Int.one_mul]
  unfold sI
  cases hn : d.neg with
  | false =>
    have h := sc_low (q := q) (up := false) hv (by rw [hn]; rfl)
    simp only [Bool.false_eq_true, if_false]
    rw [← Int.natCast_mul]
    omega
  | true =>
    have h := sc_high (q := q) (up := false) hv (by rw [hn]; rfl)
    simp only [if_true]
    rw [Int.neg_mul, ← Int.natCast_mul]
    omega
theorem scH_spec {d : D} {q : Nat} (hv : vld d) : iv d * ((10 ^ q : Nat) : Int) ≤ scH d q * (Z16 : Int) ∧ (scH d q - 1) * (Z16 : Int) < iv d * ((10 ^ q : Nat) : Int) := by
  unfold scH
  rw [sI_scN, iv_cast, Int.sub_mul, Int.one_mul]
  unfold sI
  cases hn : d.neg with
  | false =>
    have h := sc_high (q := q) (up := true) hv (by rw [hn]; rfl)
    simp only [Bool.false_eq_true, if_false]
    rw [← Int.natCast_mul]
    omega
  | true =>
    have h := sc_low (q := q) (up := true) hv (by rw [hn]; rfl)
    simp only [if_true]
    rw [Int.neg_mul, ← Int.natCast_mul]
    omega
theorem mul_lt_cancel {a b c : Int} (hc : 0 < c) (h : a * c < b * c) : a < b := Int.lt_of_mul_lt_mul_right h (Int.le_of_lt hc)
theorem mul_le_cancel {a b c : Int} (hc : 0 < c) (h : a * c ≤ b * c) : a ≤ b := Int.le_of_mul_le_mul_right h hc
theorem Z16_posI : (0 : Int) < (Z16 : Int) := by have := Z16_pos; omega
theorem ten_posI (q : Nat) : (0 : Int) < ((10 ^ q : Nat) : Int) := by have : 0 < 10 ^ q := Nat.pow_pos (by omega); omega
theorem ten_succ (q : Nat) : ((10 ^ (q + 1) : Nat) : Int) = 10 * ((10 ^ q : Nat) : Int) := by rw [Nat.pow_succ, Int.natCast_mul, Int.mul_comm]; rfl
theorem scL_next {d : D} {q : Nat} (hv : vld d) : 10 * scL d q ≤ scL d (q + 1) := by
  have h1 := (scL_spec (q := q) hv).1
  have h2 := (scL_spec (q := q + 1) hv).2
  rw [ten_succ, Int.mul_left_comm] at h2
  have h3 : (10 * scL d q) * (Z16 : Int) < (scL d (q + 1) + 1) * (Z16 : Int) := by rw [Int.mul_assoc]; omega
  have := mul_lt_cancel Z16_posI h3
  omega
theorem scH_next {d : D} {q : Nat} (hv : vld d) : scH d (q + 1) ≤ 10 * scH d q := by
  have h1 := (scH_spec (q := q) hv).1
  have h2 := (scH_spec (q := q + 1) hv).2
  rw [ten_succ, Int.mul_left_comm] at h2
  have h3 : (scH d (q + 1) - 1) * (Z16 : Int) < (10 * scH d q) * (Z16 : Int) := by rw [Int.mul_assoc]; omega
  have := mul_lt_cancel Z16_posI h3
  omega
theorem scLH {x y : D} {q : Nat} (vx : vld x) (vy : vld y) (h : iv x ≤ iv y) : scL x q ≤ scH y q := by
  have h1 := (scL_spec (q := q) vx).1
  have h2 := (scH_spec (q := q) vy).1
  have h3 := Int.mul_le_mul_of_nonneg_right h (Int.le_of_lt (ten_posI q))
  exact mul_le_cancel Z16_posI (by omega)
theorem dig_len {v a b : Nat} (h : v ≤ 2 ^ a * 10 ^ b) (ha : 2 ^ a < 10 ^ 122) (hb : b ≤ 51) : (decDigits v).length ≤ 173 := by
  rw [Go.Lib.decDigits_length]
  refine nDigits_le 172 _ ?_
  have h2 : (10 : Nat) ^ b ≤ 10 ^ 51 := Nat.pow_le_pow_right (by omega) hb
  have h3 : 2 ^ a * 10 ^ b < 10 ^ 122 * 10 ^ 51 := Nat.mul_lt_mul_of_lt_of_le ha h2 (Nat.pow_pos (by omega))
  rw [← Nat.pow_add] at h3
  exact Nat.lt_of_le_of_lt h h3
theorem two400 : (2 : Nat) ^ 400 < 10 ^ 122 := of_decide_eq_true (by kernel_rfl)
/-! ### Cutting -/
theorem index_at (a b : List UInt8) (ha : (44 : UInt8) ∉ a) : Go.Lib.index (a ++ 44 :: 32 :: b) [44, 32] = a.length := by
  induction a with
  | nil => rfl
  | cons x a ih =>
    have hx : x ≠ 44 := fun e => ha (by rw [e]; exact List.mem_cons_self)
    have h := ih (fun h => ha (List.mem_cons_of_mem _ h))
    rw [List.cons_append, Go.Lib.index]
    have h1 : List.isPrefixOf [44, 32] (x :: (a ++ 44 :: 32 :: b)) = false := by
      rw [List.isPrefixOf]
      have : (44 == x) = false := by rw [beq_eq_false_iff_ne]; exact fun e => hx e.symm
      rw [this]
      rfl
    rw [h1, h]
    have h2 : ((a.length : Int) == -1) = false := by rw [beq_eq_false_iff_ne]; omega
    rw [h2]
    simp
theorem cut_at (a b : List UInt8) (ha : (44 : UInt8) ∉ a) : Go.Lib.cut (a ++ 44 :: 32 :: b) [44, 32] = (a, b, true) := by
  unfold Go.Lib.cut
  rw [index_at a b ha, if_pos (by omega)]
  have h1 : (a ++ 44 :: 32 :: b).take (a.length : Int).toNat = a := by simp
  have h2 : (a ++ 44 :: 32 :: b).drop ((a.length : Int).toNat + ([44, 32] : List UInt8).length) = b := by
    rw [List.drop_append]
    simp
  rw [h1, h2]
theorem brk_text (a b : List UInt8) (ha : (44 : UInt8) ∉ a) : brkD ([91] ++ a ++ [44, 32] ++ b ++ [93]) = some (a, b) := by
  obtain ⟨l, hl⟩ : ∃ l, a ++ 44 :: 32 :: b = l := ⟨_, rfl⟩
  have e : [91] ++ a ++ [44, 32] ++ b ++ [93] = 91 :: (l ++ [93]) := by rw [← hl]; simp
  have h1 : Go.Lib.hasPrefix (91 :: (l ++ [93])) [91] = true := by unfold Go.Lib.hasPrefix; simp [List.isPrefixOf]
  have h2 : Go.Lib.trimPrefix (91 :: (l ++ [93])) [91] = l ++ [93] := by unfold Go.Lib.trimPrefix; rw [h1]; rfl
  have h3 : Go.Lib.hasSuffix (l ++ [93]) [93] = true := by
    unfold Go.Lib.hasSuffix
    rw [List.isSuffixOf_iff_suffix]
    exact List.suffix_append _ _
  have h4 : Go.Lib.trimSuffix (l ++ [93]) [93] = l := by unfold Go.Lib.trimSuffix; rw [h3]; simp
  unfold brkD
  rw [e, h1, h2, h3, h4, ← hl, cut_at a b ha]
  rfl
theorem pt_no {q v : Nat} {c : UInt8} (hc : Nm.isDig c = false) (h1 : c ≠ 46) : c ∉ ptD q (padD q (decDigits v)) := by
  have ha := padD_all q v
  have hn := dig_no ha hc
  unfold ptD
  split
  · exact hn
  · intro h
    simp only [List.append_assoc, List.mem_append, List.mem_cons, List.not_mem_nil, or_false] at h
    rcases h with h | h | h
    · exact hn (List.mem_of_mem_take h)
    · exact h1 h
    · exact hn (List.mem_of_mem_drop h)
theorem text_no {neg : Bool} {q v : Nat} {c : UInt8} (hc : Nm.isDig c = false) (h1 : c ≠ 46) (h2 : c ≠ 45) : c ∉ textD neg v q := by
  unfold textD
  intro h
  rcases List.mem_append.1 h with h | h
  · cases neg with
    | true => simp at h; exact h2 h
    | false => simp at h
  · exact pt_no hc h1 h
theorem text_head {neg : Bool} {q v : Nat} {c : UInt8} (hc : Nm.isDig c = false) (h1 : c ≠ 46) (h2 : c ≠ 45) : (textD neg v q).head? ≠ some c := by
  intro h
  exact text_no (neg := neg) (q := q) (v := v) hc h1 h2 (List.mem_of_mem_head? (by rw [h]; rfl))
end Go.Fl.Dy
namespace Go.Proofs.YtffdkakogeofmaaGreatDoor
open Go.Fl.Nm Go.Fl.Dy
open Go.Lib (decDigits)
theorem mg_top {d : D} {T : Nat} (hv : vld d) (h : topB d ≤ T) : mg d ≤ 2 ^ T * Z16 := by
  by_cases hk : d.k = 0
  · rw [mg_zero hk]; exact Nat.zero_le _
  · have he := vld_e hv
    have hZ := ZE_eq
    unfold topB at h
    rw [if_neg hk] at h
    have h1 := blen_lt (Nat.le_refl (blen d.k))
    unfold mg Z16
    rw [← Nat.pow_add]
    refine Nat.le_trans (Nat.mul_le_mul_right _ (Nat.le_of_lt h1)) ?_
    rw [← Nat.pow_add]
    exact Nat.pow_le_pow_right (by omega) (by omega)
theorem scQ_top {d : D} {q T : Nat} {up : Bool} (hv : vld d) (h : topB d ≤ T) : scQ d q up ≤ 2 ^ T * 10 ^ q := by
  have hZ := Z16_pos
  have h1 : scQ d q up * Z16 < mg d * 10 ^ q + Z16 := by
    cases hu : (up != d.neg) with
    | false => have := (sc_low (q := q) hv hu).1; omega
    | true => exact (sc_high (q := q) hv hu).2
  have h2 := Nat.mul_le_mul_right (10 ^ q) (mg_top hv h)
  have h3 : 2 ^ T * Z16 * 10 ^ q = 2 ^ T * 10 ^ q * Z16 := by rw [Nat.mul_assoc, Nat.mul_comm Z16, ← Nat.mul_assoc]
  rw [h3] at h2
  have h4 : scQ d q up * Z16 < (2 ^ T * 10 ^ q + 1) * Z16 := by rw [Nat.add_mul, Nat.one_mul]; omega
  have := Nat.lt_of_mul_lt_mul_right h4
  omega
theorem scQ_blen {d : D} {q T : Nat} {up : Bool} (hv : vld d) (h : topB d ≤ T) : blen (scQ d q up) ≤ T + 4 * q + 2 := by
  have h1 := blen_mono (scQ_top (q := q) (up := up) hv h)
  have h2 := blen_mul_le' (2 ^ T) (10 ^ q)
  have h3 : blen (2 ^ T) ≤ T + 1 := blen_le (by rw [Nat.pow_succ]; have := Nat.two_pow_pos T; omega)
  have h4 := blen_ten q
  omega
/-- Two texts of numbers, in brackets. -/
theorem par_two {n1 n2 : Bool} {v1 v2 q p : Nat} (h1 : n1 = true → 0 < v1) (h2 : n2 = true → 0 < v2) (l1 : (decDigits v1).length ≤ 256) (l2 : (decDigits v2).length ≤ 256) (b1 : blen v1 ≤ 1100) (b2 : blen v2 ≤ 1100) (hq : q ≤ 250) (hp : 8 ≤ p) (hp2 : p ≤ 512)
    (hle : sI n1 v1 ≤ sI n2 v2) :
    parT (rdN (textD n1 v1 q)) (rdN (textD n2 v2 q)) (p : Int) = ((encE (sI n1 v1) ((10 ^ q : Nat) : Int) p false, encE (sI n2 v2) ((10 ^ q : Nat) : Int) p true, false), 0) := by
  have bt : blen (10 ^ q) ≤ 1100 := by have := blen_ten q; omega
  have e1 : (n1 && decide (0 < v1)) = n1 := by cases n1 with | false => rfl | true => simp [h1 rfl]
  have e2 : (n2 && decide (0 < v2)) = n2 := by cases n2 with | false => rfl | true => simp [h2 rfl]
  rw [rd_text (by omega), rd_text (by omega), e1, e2]
  unfold parT
  rw [if_neg (fun h => by cases h), if_neg (by simp only; omega)]
  simp only
  rw [abv_iff h1 h2, round_enc false h1 b1 bt hp hp2, round_enc true h2 b2 bt hp hp2]
  have h3 := Int.mul_le_mul_of_nonneg_right hle (Int.le_of_lt (ten_posI q))
  rw [if_neg (by
    rintro (h | h | h)
    · omega
    · omega
    · rw [decide_eq_true_eq] at h; omega), if_neg (by simp)]
theorem par_textI {x y : D} {q p : Nat} (vx : vld x) (vy : vld y) (hc : iv x ≤ iv y) (tx : topB x ≤ 400) (ty : topB y ≤ 400) (hq : q ≤ 50) (hp : 8 ≤ p) (hp2 : p ≤ 512) :
    parR (textI x y q) (p : Int) = ((encE (scL x q) ((10 ^ q : Nat) : Int) p false, encE (scH y q) ((10 ^ q : Nat) : Int) p true, false), 0) := by
  have k1 := scQ_top (q := q) (T := 400) (up := false) vx (by omega)
  have k2 := scQ_top (q := q) (T := 400) (up := true) vy (by omega)
  have l1 := dig_len k1 two400 (by omega)
  have l2 := dig_len k2 two400 (by omega)
  have b1 := scQ_blen (q := q) (T := 400) (up := false) vx (by omega)
  have b2 := scQ_blen (q := q) (T := 400) (up := true) vy (by omega)
  have hb := brk_text (textD (scN x q false) (scQ x q false) q) (textD (scN y q true) (scQ y q true) q) (text_no (by decide) (by decide) (by decide))
  have hne : textI x y q ≠ [97, 108, 108] := by unfold textI; simp
  unfold parR
  rw [if_neg hne]
  unfold textI
  rw [hb]
  exact par_two (fun h => scN_pos vx h) (fun h => scN_pos vy h) (by omega) (by omega) (by omega) (by omega) (by omega) hp hp2 (scLH vx vy hc)
end Go.Proofs.YtffdkakogeofmaaGreatDoor
