/-
  What the reference's comparison, rounding and reading come to, in plain Lean. Of no program.
-/
import Derived.Test.YtffdkakogeofmaaGreatDoorDeD
set_option linter.unusedVariables false
namespace Go.Proofs.YtffdkakogeofmaaGreatDoor
open Go.Fl Go.Fl.Nm Go.Fl.Dy
/-- The sign of a difference, as the reference has it. -/
def cmpV (na : Bool) (x : Nat) (nb : Bool) (y : Nat) : Int :=
  if (na && decide (0 < blen x)) = true then (if (nb && decide (0 < blen y)) = true then -cmpN x y else -1)
  else if (nb && decide (0 < blen y)) = true then 1 else cmpN x y
theorem blen_pos_iff {x : Nat} : decide (0 < blen x) = decide (0 < x) := by
  rw [decide_eq_decide]
  constructor
  · intro h
    rcases Nat.eq_zero_or_pos x with h0 | h0
    · rw [h0, blen_zero] at h; omega
    · exact h0
  · intro h
    exact blen_pos (by omega)
theorem cmpV_eq (na : Bool) (x : Nat) (nb : Bool) (y : Nat) : cmpV na x nb y = cmpI (sI na x) (sI nb y) := by
  unfold cmpV sI
  rw [blen_pos_iff, blen_pos_iff]
  by_cases hx : 0 < x
  · by_cases hy : 0 < y
    · cases na <;> cases nb <;> simp only [Bool.true_and, Bool.false_and, decide_eq_true hx, decide_eq_true hy, if_true, if_false, Bool.false_eq_true]
      · exact (cmpI_nat x y).symm
      · exact (cmpI_gt (by omega)).symm
      · exact (cmpI_lt (by omega)).symm
      · rw [cmpI_neg, cmpI_nat]
    · obtain rfl : y = 0 := by omega
      cases na <;> cases nb <;> simp only [Bool.true_and, Bool.false_and, Bool.and_false, decide_eq_true hx, decide_eq_false hy, if_true, if_false, Bool.false_eq_true]
      · exact (cmpI_nat x 0).symm
      · rw [cmpI_gt (by omega)]; rw [← cmpI_nat, cmpI_gt (by omega)]
      · exact (cmpI_lt (by omega)).symm
      · exact (cmpI_lt (by omega)).symm
  · obtain rfl : x = 0 := by omega
    by_cases hy : 0 < y
    · cases na <;> cases nb <;> simp only [Bool.true_and, Bool.false_and, Bool.and_false, decide_eq_true hy, decide_eq_false hx, if_true, if_false, Bool.false_eq_true]
      · exact (cmpI_nat 0 y).symm
      · exact (cmpI_gt (by omega)).symm
      · rw [← cmpI_nat, cmpI_lt (by omega), cmpI_lt (by omega)]
      · exact (cmpI_gt (by omega)).symm
    · obtain rfl : y = 0 := by omega
      cases na <;> cases nb <;> simp only [Bool.and_false, decide_eq_false hx, if_false, Bool.false_eq_true] <;> rfl
theorem sI_mul (n : Bool) (v k : Nat) : sI n (v * k) = sI n v * (k : Int) := by
  unfold sI
  cases n <;> simp only [if_true, if_false, Bool.false_eq_true]
  · rw [Int.natCast_mul]
  · rw [Int.natCast_mul, Int.neg_mul]
theorem sI_pos (n : Bool) (v : Nat) : sI (n && decide (0 < v)) v = sI n v := by
  unfold sI
  by_cases h : 0 < v
  · rw [decide_eq_true h, Bool.and_true]
  · obtain rfl : v = 0 := by omega
    cases n <;> rfl
theorem cmpV_abv (na nb : Bool) (va ba vb bb : Nat) : decide (0 < cmpV na (va * 10 ^ bb) nb (vb * 10 ^ ba)) = abvB (na && decide (0 < va)) va ba (nb && decide (0 < vb)) vb bb := by
  rw [abv_iff (by simp) (by simp), sI_pos, sI_pos, cmpV_eq, sI_mul, sI_mul, decide_eq_decide]
  obtain ⟨X, hX⟩ : ∃ X, sI na va * ((10 ^ bb : Nat) : Int) = X := ⟨_, rfl⟩
  obtain ⟨Y, hY⟩ : ∃ Y, sI nb vb * ((10 ^ ba : Nat) : Int) = Y := ⟨_, rfl⟩
  rw [hX, hY]
  unfold cmpI
  split
  · omega
  · split <;> omega
/-- The quotient that the reference cuts, and what it drops. -/
theorem ref_enc {v t p k q : Nat} (hv : v ≠ 0) (ht : t ≠ 0) (hp : 0 < p) (hk : k = p + 2 + blen t - blen v) (hq : v * 2 ^ k / t = q) :
    p ≤ blen q ∧ q / 2 ^ (blen q - p) = encT v t p ∧ ((blen q - p : Nat) : Int) - k = encU v t p ∧ ((v * 2 ^ k % t = 0 ∧ q % 2 ^ (blen q - p) = 0) ↔ encX v t p = true) := by
  have h2 : 2 ^ k ≠ 0 := Nat.pos_iff_ne_zero.1 (Nat.two_pow_pos k)
  have h1 : blen (v * 2 ^ k) = k + blen v := by rw [Nat.mul_comm]; exact blen_shl k hv
  have h3 := blen_div ht (x := v * 2 ^ k) (by omega)
  rw [hq] at h3
  have hpq : p ≤ blen q := by omega
  have hF := Fl.of_div (n := v) (d := t) (by omega) k (blen q - p)
  have hE := Ex.of_div (n := v) (d := t) (by omega) k (blen q - p)
  rw [hq] at hF hE
  have hT := top_bits hp hpq
  have hU := Enc.unique (by omega) hp (⟨hF, hT.1, hT.2⟩ : Enc v t p _ _) (enc_spec hv ht hp)
  rw [hU.1, hU.2] at hE
  exact ⟨hpq, hU.1, hU.2, hE.symm.trans (encX_iff ht).symm⟩
/-- A decimal number rounded, as the reference has it. -/
def rndR (d : DR) (p : Nat) (up : Bool) : D := encE (sI d.neg (dval d.ds)) ((10 ^ d.b : Nat) : Int) p up
/-- What the reference cuts off a quotient. -/
def cutX (neg : Bool) (q : Nat) (e : Int) (more : Bool) (p : Nat) (up : Bool) : D :=
  canon neg (if ((more || decide (q % 2 ^ (blen q - p) ≠ 0)) && (neg != up)) = true then q / 2 ^ (blen q - p) + 1 else q / 2 ^ (blen q - p)) (e + ((blen q - p : Nat) : Int))
theorem cut_rnd {neg up : Bool} {v t p k q : Nat} (hv : v ≠ 0) (ht : t ≠ 0) (hp : 0 < p) (hk : k = p + 2 + blen t - blen v) (hq : v * 2 ^ k / t = q) :
    cutX neg q (0 - (k : Int)) (decide (0 < v * 2 ^ k % t)) p up = encE (sI neg v) (t : Int) p up := by
  obtain ⟨h1, h2, h3, h4⟩ := ref_enc hv ht hp hk hq
  have hs : sI neg v ≠ 0 := by unfold sI; split <;> omega
  unfold cutX encE
  rw [if_neg hs, sI_neg (fun _ => by omega), sI_natAbs, Int.natAbs_natCast, h2, show (0 - (k : Int)) + ((blen q - p : Nat) : Int) = encU v t p by rw [← h3]; omega]
  congr 1
  unfold endQ
  have hx : (decide (0 < v * 2 ^ k % t) || decide (q % 2 ^ (blen q - p) ≠ 0)) = !encX v t p := by
    rw [Bool.eq_iff_iff, Bool.or_eq_true, decide_eq_true_eq, decide_eq_true_eq, Bool.not_eq_true', ← Bool.not_eq_true, ← h4]
    omega
  rw [hx, show (neg != up) = (up != neg) by cases neg <;> cases up <;> rfl, Bool.and_comm]
/-- The interval of a text, and the error, as the reference has it. -/
def parF (s : List UInt8) (p : Int) : (D × D × Bool) × Int :=
  if s = [97, 108, 108] then (if p < 8 ∨ 512 < p then ((zD, zD, false), 2) else ((zD, zD, true), 0))
  else match frm s with
    | none => ((zD, zD, false), 3)
    | some (a, b) =>
      if 256 < a.ds.length ∨ 256 < b.ds.length then ((zD, zD, false), 5)
      else if (p < 8 ∨ 512 < p) ∨ 0 < cmpV a.neg (dval a.ds * 10 ^ b.b) b.neg (dval b.ds * 10 ^ a.b) then ((zD, zD, false), 2)
      else ((rndR a p.toNat false, rndR b p.toNat true, false), 0)
theorem rdN_yes {x : List UInt8} (h : okD (rsD x) = true) : ∃ d, rdN x = (d, true) ∧ d.t = (drD x).ds.length ∧ (d.t ≤ 256 → d.neg = ((drD x).neg && decide (0 < dval (drD x).ds)) ∧ d.v = dval (drD x).ds ∧ d.b = (drD x).b) := by
  unfold rdN
  rw [if_pos h]
  have e : (whD (rsD x)).length + (frD (rsD x)).length = (drD x).ds.length := by unfold drD; exact List.length_append.symm
  split
  · rename_i h1
    exact ⟨_, rfl, e, fun h2 => by simp only at h2; omega⟩
  · exact ⟨_, rfl, e, fun _ => ⟨rfl, rfl, rfl⟩⟩
theorem parF_eq (s : List UInt8) (p : Int) : parF s p = parR s p := by
  unfold parF parR
  by_cases hs : s = [97, 108, 108]
  · rw [if_pos hs, if_pos hs]
  · rw [if_neg hs, if_neg hs]
    cases hf : frm s with
    | none =>
      cases hb : brkD s with
      | none => rfl
      | some xy =>
        obtain ⟨x, y⟩ := xy
        simp only
        unfold parT
        rw [if_pos ?_]
        rw [rdN_ok, rdN_ok]
        cases ox : okD (rsD x) with
        | false => rfl
        | true =>
          cases oy : okD (rsD y) with
          | false => rfl
          | true =>
            have := frm_some.2 ⟨x, y, hb, ox, oy, rfl, rfl⟩
            rw [hf] at this
            cases this
    | some ab =>
      obtain ⟨a, b⟩ := ab
      obtain ⟨x, y, hb, ox, oy, rfl, rfl⟩ := frm_some.1 hf
      rw [hb]
      simp only
      obtain ⟨d1, e1, t1, f1⟩ := rdN_yes ox
      obtain ⟨d2, e2, t2, f2⟩ := rdN_yes oy
      rw [e1, e2]
      by_cases h : 256 < (drD x).ds.length ∨ 256 < (drD y).ds.length
      · rw [if_pos h, parT_full (by rw [t1, t2]; exact h)]
      · rw [if_neg h, parT_rest (by rw [t1, t2]; exact h)]
        obtain ⟨n1, v1, b1⟩ := f1 (by omega)
        obtain ⟨n2, v2, b2⟩ := f2 (by omega)
        have hA := cmpV_abv (drD x).neg (drD y).neg (dval (drD x).ds) (drD x).b (dval (drD y).ds) (drD y).b
        have B1 := rdN_bd e1
        have B2 := rdN_bd e2
        by_cases hp : (p < 8 ∨ 512 < p) ∨ 0 < cmpV (drD x).neg (dval (drD x).ds * 10 ^ (drD y).b) (drD y).neg (dval (drD y).ds * 10 ^ (drD x).b)
        · rw [if_pos hp, if_pos]
          rcases hp with (hp | hp) | hp
          · exact .inl hp
          · exact .inr (.inl hp)
          · rw [decide_eq_true hp] at hA
            rw [n1, v1, b1, n2, v2, b2]
            exact .inr (.inr hA.symm)
        · have hA2 : ¬ abvB d1.neg d1.v d1.b d2.neg d2.v d2.b = true := by
            rw [n1, v1, b1, n2, v2, b2, ← hA]
            simp only [decide_eq_true_eq]
            exact fun h => hp (.inr h)
          have hp8 : ¬ (p < 8 ∨ 512 < p) := fun h => hp (.inl h)
          obtain ⟨P, rfl⟩ : ∃ P : Nat, p = (P : Int) := ⟨p.toNat, by omega⟩
          have T1 := blen_ten d1.b
          have T2 := blen_ten d2.b
          have L1 := B1.2.1 (by omega)
          have L2 := B2.2.1 (by omega)
          have R1 := round_enc (neg := d1.neg) (v := d1.v) (b := d1.b) (p := P) false B1.2.2 B1.1 (by omega) (by omega) (by omega)
          have R2 := round_enc (neg := d2.neg) (v := d2.v) (b := d2.b) (p := P) true B2.2.2 B2.1 (by omega) (by omega) (by omega)
          rw [if_neg hp, if_neg (by rintro (h | h | h); exact hp8 (.inl h); exact hp8 (.inr h); exact hA2 h), R1, R2]
          rw [if_neg (by simp)]
          unfold rndR
          rw [Int.toNat_natCast, n1, v1, b1, n2, v2, b2, sI_pos, sI_pos]
end Go.Proofs.YtffdkakogeofmaaGreatDoor
