/-
  The exact text of a number is read as this number, in plain Lean. Of no program.
-/
import Derived.Test.YtffdkakogeofmaaGreatDoorDecV
set_option linter.unusedVariables false
namespace Go.Proofs.YtffdkakogeofmaaGreatDoor
open Go.Fl.Nm Go.Fl.Dy
open Go.Lib (decDigits)
theorem enc_exact {d : D} {n : Int} {q p : Nat} (vd : vld d) (hn : blen n.natAbs ≤ 1100) (hq : q ≤ 250) (hp : 8 ≤ p) (hp2 : p ≤ 512) (hk : blen d.k ≤ p) (h : n * (Z16 : Int) = iv d * ((10 ^ q : Nat) : Int)) (up : Bool) :
    encE n ((10 ^ q : Nat) : Int) p up = d := by
  have ht := ten_natAbs hq
  have h0 := ten_posI q
  obtain ⟨h1, h2, _⟩ := enc_inB (p := p) hn h0 ht (by omega) (by omega)
  rw [h] at h1 h2
  refine iv_inj (encE_vldB hn h0 ht (by omega) (by omega) up).1 vd ?_
  cases up with
  | false =>
    have h3 := enc_greatB (p := p) hn h0 ht (by omega) (by omega) hk (by rw [h]; exact Int.le_refl _)
    have h4 := mul_le_cancel h0 h1
    omega
  | true =>
    have h3 := enc_leastB (p := p) hn h0 ht (by omega) (by omega) hk (by rw [h]; exact Int.le_refl _)
    have h4 := mul_le_cancel h0 h2
    omega
theorem sc_exact {d : D} (vd : vld d) (up : Bool) : scQ d (-d.e).toNat up = (if 0 ≤ d.e then 2 ^ d.e.toNat * d.k else d.k * 5 ^ (-d.e).toNat) ∧ scN d (-d.e).toNat up = d.neg := by
  by_cases he : 0 ≤ d.e
  · have e0 : (-d.e).toNat = 0 := by omega
    unfold scQ scN scM
    rw [if_pos he, if_pos he, if_pos he, e0, Nat.pow_zero, Nat.mul_one]
    exact ⟨rfl, rfl⟩
  · have hm : scM d (-d.e).toNat = d.k * 5 ^ (-d.e).toNat * 2 ^ (-d.e).toNat := by
      unfold scM
      rw [show (10 : Nat) = 5 * 2 from rfl, Nat.mul_pow, Nat.mul_assoc]
    have h2 := Nat.two_pow_pos (-d.e).toNat
    have hq : scQ d (-d.e).toNat up = d.k * 5 ^ (-d.e).toNat := by
      unfold scQ
      rw [if_neg he, hm, Nat.mul_div_cancel _ h2, Nat.mul_mod_left]
      simp
    refine ⟨by rw [hq, if_neg he], ?_⟩
    unfold scN
    rw [if_neg he, hq]
    cases hn : d.neg with
    | false => rfl
    | true =>
      have h0 : 0 < d.k := by rcases vd with ⟨_, h2, _⟩ | ⟨h2, _⟩; · rw [h2] at hn; cases hn
                              · omega
      have := Nat.mul_pos h0 (Nat.pow_pos (n := (-d.e).toNat) (show 0 < 5 by omega))
      rw [decide_eq_true this]
      rfl
theorem two150 : (2 : Nat) ^ 150 < 10 ^ 46 := by decide
/-- All that the law of exact texts needs. -/
theorem rest_law {d : D} (vd : vld d) (h : ¬ (150 < topB d ∨ d.e < -200)) : ∃ S : List UInt8, exE d = (S, 0) ∧ S.length ≤ 1000 ∧ blen d.k ≤ 512 ∧ parR S ((max (blen d.k) 8 : Nat) : Int) = ((d, d, false), 0) ∧ txtI d d (-d.e).toNat = [91] ++ S ++ [44, 32] ++ S ++ [93] := by
  obtain ⟨J, hJ⟩ : ∃ J, (-d.e).toNat = J := ⟨_, rfl⟩
  have hJ2 : J ≤ 200 := by omega
  have ht : topB d ≤ (150 : Nat) := by omega
  obtain ⟨q1, n1⟩ := sc_exact vd false
  obtain ⟨q2, n2⟩ := sc_exact vd true
  rw [hJ] at q1 n1 q2 n2
  have hQ : scQ d J true = scQ d J false := q2.trans q1.symm
  have hN : scN d J true = scN d J false := n2.trans n1.symm
  have hx : scL d J * (Z16 : Int) = iv d * ((10 ^ J : Nat) : Int) := by
    have h1 := (scL_spec (q := J) vd).1
    have h2 := (scH_spec (q := J) vd).1
    unfold scH at h2
    rw [hQ, hN] at h2
    exact Int.le_antisymm h1 h2
  have k1 := scQ_top (q := J) (up := false) vd ht
  have b1 := scQ_blen (q := J) (up := false) vd ht
  have l1 : (decDigits (scQ d J false)).length ≤ 246 := by
    rw [Go.Lib.decDigits_length]
    refine nDigits_le 245 _ ?_
    have h2 : (10 : Nat) ^ J ≤ 10 ^ 200 := Nat.pow_le_pow_right (by omega) hJ2
    have h3 : 2 ^ 150 * 10 ^ J < 10 ^ 46 * 10 ^ 200 := Nat.mul_lt_mul_of_lt_of_le two150 h2 (Nat.pow_pos (by omega))
    rw [← Nat.pow_add] at h3
    exact Nat.lt_of_le_of_lt k1 h3
  have hkb : blen d.k ≤ 350 := by
    by_cases h0 : d.k = 0
    · rw [h0, blen_zero]; omega
    · unfold topB at ht
      rw [if_neg h0] at ht
      omega
  obtain ⟨S, hS⟩ : ∃ S, textD (scN d J false) (scQ d J false) J = S := ⟨_, rfl⟩
  have hne : S.head? ≠ some 97 ∧ S.head? ≠ some 91 := by
    rw [← hS]
    exact ⟨text_head (by decide) (by decide) (by decide), text_head (by decide) (by decide) (by decide)⟩
  refine ⟨S, ?_, ?_, by omega, ?_, ?_⟩
  · unfold exE
    rw [if_neg h]
    by_cases he : 0 ≤ d.e
    · rw [if_pos he]
      have e0 : J = 0 := by omega
      rw [e0] at hS
      rw [hS]
    · rw [if_neg he, hJ]
      rw [if_neg he] at q1
      rw [n1, q1] at hS
      rw [hS]
  · rw [← hS]
    have := text_len (scN d J false) (scQ d J false) J
    omega
  · have hb : brkD S = some (S, S) := by
      unfold brkD
      have : Go.Lib.hasPrefix S [91] = false := by
        unfold Go.Lib.hasPrefix
        cases S with
        | nil => rfl
        | cons x t =>
          have h1 : x ≠ 91 := by intro e; exact hne.2 (by rw [e]; rfl)
          have h2 : (91 == x) = false := by rw [beq_eq_false_iff_ne]; exact fun e => h1 e.symm
          simp [List.isPrefixOf, h2]
      rw [this]
      rfl
    unfold parR
    rw [if_neg (by intro e; exact hne.1 (by rw [e]; rfl)), hb]
    simp only
    have hp := par_two (n1 := scN d J false) (v1 := scQ d J false) (n2 := scN d J false) (v2 := scQ d J false) (q := J) (p := max (blen d.k) 8) (scN_pos vd) (scN_pos vd) (by omega) (by omega) (by omega) (by omega) (by omega) (by omega) (by omega) (Int.le_refl _)
    rw [hS] at hp
    rw [hp]
    have hab : blen (scL d J).natAbs ≤ 1100 := by rw [scL_abs]; omega
    have e1 := enc_exact (p := max (blen d.k) 8) vd hab (by omega) (by omega) (by omega) (by omega) hx false
    have e2 := enc_exact (p := max (blen d.k) 8) vd hab (by omega) (by omega) (by omega) (by omega) hx true
    unfold scL at e1 e2
    rw [e1, e2]
  · unfold txtI
    rw [if_pos ⟨by omega, by omega⟩]
    unfold textI
    rw [hJ, hQ, hN, hS]
end Go.Proofs.YtffdkakogeofmaaGreatDoor
