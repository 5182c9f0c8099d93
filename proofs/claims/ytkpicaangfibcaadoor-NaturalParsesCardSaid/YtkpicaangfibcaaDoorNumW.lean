/-
  The walks of the laws NaturalProducts, NaturalQuotients, NaturalRoots.
-/
import Derived.Test.YtkpicaangfibcaaDoorNumV
set_option linter.unusedVariables false
namespace Go.Proofs.YtkpicaangfibcaaDoor
open Go.RowKit Go.Fl Go.Fl.Nm

theorem limbs_le_len {l : List Nat} (h : ok l) : (limbs (val l)).length ≤ l.length := by rw [← tl_limbs h]; exact tl_le l
theorem mul_len (a b : Nat) : (limbs (a * b)).length ≤ (limbs a).length + (limbs b).length := by
  apply limbs_len_le
  rw [Nat.pow_add]
  exact Nat.mul_lt_mul'' (limbs_lt (Nat.le_refl _)) (limbs_lt (Nat.le_refl _))
theorem succ_len {r k : Nat} (h : (limbs r).length ≤ k) : (limbs (r + 1)).length ≤ k + 1 :=
  limbs_len_le (Nat.lt_of_le_of_lt (show r + 1 ≤ BB ^ k from limbs_lt h) (Nat.pow_lt_pow_right (by decide) (by omega)))
theorem cmpN_le {a b : Nat} (h : a ≤ b) : cmpN a b ≤ 0 := by unfold cmpN; split <;> (try split) <;> omega

set_option maxHeartbeats 1600000 in
set_option maxRecDepth 100000 in
theorem naturalProducts_any (A B : Option Addr) (n c m d : Nat) (a b : List Nat) (w : World) (ht : TB w) (ha : Sl w A n c a) (hb : Sl w B m d b) :
    Calls Tryd.prog 6 #[.slice A n c, .slice B m d] w (Awk w) := by
  have HT := Lib.hid ht
  have HA := Lib.hid ha
  have hnm := ha.max
  have HB := Lib.hid hb
  have hmm := hb.max
  clear ht ha hb
  by_cases h5 : 512 < n ∨ 512 < m
  · have hg : decide (512 < n ∨ 512 < m) = true := by simp; omega
    have HL0 := Lib.hid (Below.refl w.heap.size w)
    go_enter Tryd.func6, Tryd.ntmps6
    go_wp2_with fail
    refine (awake_any w HT.out).mono ?_
    rintro e w1 ⟨rfl, HB1⟩
    have S1a := Lib.hid (HA.out.below HB1.out)
    have S1b := Lib.hid (HB.out.below HB1.out)
    have T1 := Lib.hid (HT.out.below HB1.out)
    have HL1 := Lib.hid (HL0.out.trans (HB1.out.mono HL0.out.size))
    go_wp2_with fail
    refine (longFn_great.two A B n c m d w1 hnm hmm).mono ?_
    rintro e w2 ⟨rfl, hw⟩
    rw [hg]
    have HB2 := Lib.hid (show Below w1.heap.size w1 w2 by rw [hw]; exact (Below.refl _ _).alloc (Nat.le_refl _) _)
    clear hw
    have S2a := Lib.hid (S1a.out.below HB2.out)
    have S2b := Lib.hid (S1b.out.below HB2.out)
    have T2 := Lib.hid (T1.out.below HB2.out)
    have HL2 := Lib.hid (HL1.out.trans (HB2.out.mono HL1.out.size))
    go_wp2_with fail
    go_ret
    exact ⟨rfl, HL2⟩
  · by_cases h2 : 256 < n ∨ 256 < m
    · have hg : decide (512 < n ∨ 512 < m) = false := by simp; omega
      have hl : decide (256 < n ∨ 256 < m) = true := by simp; omega
      have HL0 := Lib.hid (Below.refl w.heap.size w)
      go_enter Tryd.func6, Tryd.ntmps6
      go_wp2_with fail
      refine (awake_any w HT.out).mono ?_
      rintro e w1 ⟨rfl, HB1⟩
      have S1a := Lib.hid (HA.out.below HB1.out)
      have S1b := Lib.hid (HB.out.below HB1.out)
      have T1 := Lib.hid (HT.out.below HB1.out)
      have HL1 := Lib.hid (HL0.out.trans (HB1.out.mono HL0.out.size))
      go_wp2_with fail
      refine (longFn_great.two A B n c m d w1 hnm hmm).mono ?_
      rintro e w2 ⟨rfl, hw⟩
      rw [hg]
      have HB2 := Lib.hid (show Below w1.heap.size w1 w2 by rw [hw]; exact (Below.refl _ _).alloc (Nat.le_refl _) _)
      clear hw
      have S2a := Lib.hid (S1a.out.below HB2.out)
      have S2b := Lib.hid (S1b.out.below HB2.out)
      have T2 := Lib.hid (T1.out.below HB2.out)
      have HL2 := Lib.hid (HL1.out.trans (HB2.out.mono HL1.out.size))
      go_wp2_with fail
      refine (nMul_big A B n c m d a b w2 S2a.out S2b.out h2).mono ?_
      rintro e w3 ⟨rfl, HB3⟩
      have S3a := Lib.hid (S2a.out.below HB3.out)
      have S3b := Lib.hid (S2b.out.below HB3.out)
      have T3 := Lib.hid (T2.out.below HB3.out)
      have HL3 := Lib.hid (HL2.out.trans (HB3.out.mono HL2.out.size))
      go_wp2_with fail
      refine (longFn_long.two A B n c m d w3 hnm hmm).mono ?_
      rintro e w4 ⟨rfl, hw⟩
      rw [hl]
      have HB4 := Lib.hid (show Below w3.heap.size w3 w4 by rw [hw]; exact (Below.refl _ _).alloc (Nat.le_refl _) _)
      clear hw
      have S4a := Lib.hid (S3a.out.below HB4.out)
      have S4b := Lib.hid (S3b.out.below HB4.out)
      have T4 := Lib.hid (T3.out.below HB4.out)
      have HL4 := Lib.hid (HL3.out.trans (HB4.out.mono HL3.out.size))
      go_wp2_with fail
      refine (none_any 9 w4 (by omega)).mono ?_
      rintro e w' ⟨rfl, rfl⟩
      go_wp2_with fail
      go_ret
      exact ⟨rfl, HL4⟩
    · have hg : decide (512 < n ∨ 512 < m) = false := by simp; omega
      have hl : decide (256 < n ∨ 256 < m) = false := by simp; omega
      have HL0 := Lib.hid (Below.refl w.heap.size w)
      go_enter Tryd.func6, Tryd.ntmps6
      go_wp2_with fail
      refine (awake_any w HT.out).mono ?_
      rintro e w1 ⟨rfl, HB1⟩
      have S1a := Lib.hid (HA.out.below HB1.out)
      have S1b := Lib.hid (HB.out.below HB1.out)
      have T1 := Lib.hid (HT.out.below HB1.out)
      have HL1 := Lib.hid (HL0.out.trans (HB1.out.mono HL0.out.size))
      go_wp2_with fail
      refine (longFn_great.two A B n c m d w1 hnm hmm).mono ?_
      rintro e w2 ⟨rfl, hw⟩
      rw [hg]
      have HB2 := Lib.hid (show Below w1.heap.size w1 w2 by rw [hw]; exact (Below.refl _ _).alloc (Nat.le_refl _) _)
      clear hw
      have S2a := Lib.hid (S1a.out.below HB2.out)
      have S2b := Lib.hid (S1b.out.below HB2.out)
      have T2 := Lib.hid (T1.out.below HB2.out)
      have HL2 := Lib.hid (HL1.out.trans (HB2.out.mono HL1.out.size))
      go_wp2_with fail
      refine (nMul_ok A B n c m d a b w2 S2a.out S2b.out (by omega) (by omega)).mono ?_
      rintro e w3 ⟨P, np, lp, er, rfl, HP, HR, HB3⟩
      have S3a := Lib.hid (S2a.out.below HB3.out)
      have S3b := Lib.hid (S2b.out.below HB3.out)
      have T3 := Lib.hid (T2.out.below HB3.out)
      have HL3 := Lib.hid (HL2.out.trans (HB3.out.mono HL2.out.size))
      have S3p := Lib.hid (HP.out.sl)
      go_wp2_with fail
      refine (longFn_long.two A B n c m d w3 hnm hmm).mono ?_
      rintro e w4 ⟨rfl, hw⟩
      rw [hl]
      have HB4 := Lib.hid (show Below w3.heap.size w3 w4 by rw [hw]; exact (Below.refl _ _).alloc (Nat.le_refl _) _)
      clear hw
      have S4a := Lib.hid (S3a.out.below HB4.out)
      have S4b := Lib.hid (S3b.out.below HB4.out)
      have S4p := Lib.hid (S3p.out.below HB4.out)
      have T4 := Lib.hid (T3.out.below HB4.out)
      have HL4 := Lib.hid (HL3.out.trans (HB4.out.mono HL3.out.size))
      go_wp2_with fail
      refine (rMul A B n c m d a b w4 S4a.out S4b.out (by omega) (by omega)).mono ?_
      rintro e w5 ⟨Q, nq, cq, rfl, HQ1, HB5⟩
      have S5a := Lib.hid (S4a.out.below HB5.out)
      have S5b := Lib.hid (S4b.out.below HB5.out)
      have S5p := Lib.hid (S4p.out.below HB5.out)
      have T5 := Lib.hid (T4.out.below HB5.out)
      have HL5 := Lib.hid (HL4.out.trans (HB5.out.mono HL4.out.size))
      have S5q := Lib.hid (HQ1.out.sl)
      go_wp2_with fail
      refine (is_any P Q np np nq cq _ lp er w5 S5p.out S5q.out HR.out).mono ?_
      rintro e w6 ⟨rfl, HQ⟩
      have HB6 := Lib.hid (show Below w5.heap.size w5 w6 by obtain ⟨q, hq⟩ := HQ.out; rw [hq]; exact below_drewN (Below.refl _ _) q)
      clear HQ
      have S6a := Lib.hid (S5a.out.below HB6.out)
      have S6b := Lib.hid (S5b.out.below HB6.out)
      have S6p := Lib.hid (S5p.out.below HB6.out)
      have S6q := Lib.hid (S5q.out.below HB6.out)
      have T6 := Lib.hid (T5.out.below HB6.out)
      have HL6 := Lib.hid (HL5.out.trans (HB6.out.mono HL5.out.size))
      go_wp2_with fail
      go_ret
      exact ⟨rfl, HL6⟩
set_option maxHeartbeats 1600000 in
set_option maxRecDepth 100000 in
theorem naturalQuotients_any (A B : Option Addr) (n c m d : Nat) (a b : List Nat) (w : World) (ht : TB w) (ha : Sl w A n c a) (hb : Sl w B m d b) :
    Calls Tryd.prog 3 #[.slice A n c, .slice B m d] w (Awk w) := by
  have HT := Lib.hid ht
  have HA := Lib.hid ha
  have hnm := ha.max
  have HB := Lib.hid hb
  have hmm := hb.max
  clear ht ha hb
  by_cases h5 : 512 < n ∨ 512 < m
  · have hg : decide (512 < n ∨ 512 < m) = true := by simp; omega
    have HL0 := Lib.hid (Below.refl w.heap.size w)
    go_enter Tryd.func3, Tryd.ntmps3
    go_wp2_with fail
    refine (awake_any w HT.out).mono ?_
    rintro e w1 ⟨rfl, HB1⟩
    have S1a := Lib.hid (HA.out.below HB1.out)
    have S1b := Lib.hid (HB.out.below HB1.out)
    have T1 := Lib.hid (HT.out.below HB1.out)
    have HL1 := Lib.hid (HL0.out.trans (HB1.out.mono HL0.out.size))
    go_wp2_with fail
    refine (longFn_great.two A B n c m d w1 hnm hmm).mono ?_
    rintro e w2 ⟨rfl, hw⟩
    rw [hg]
    have HB2 := Lib.hid (show Below w1.heap.size w1 w2 by rw [hw]; exact (Below.refl _ _).alloc (Nat.le_refl _) _)
    clear hw
    have S2a := Lib.hid (S1a.out.below HB2.out)
    have S2b := Lib.hid (S1b.out.below HB2.out)
    have T2 := Lib.hid (T1.out.below HB2.out)
    have HL2 := Lib.hid (HL1.out.trans (HB2.out.mono HL1.out.size))
    go_wp2_with fail
    go_ret
    exact ⟨rfl, HL2⟩
  · by_cases h2 : 256 < n ∨ 256 < m
    · have hg : decide (512 < n ∨ 512 < m) = false := by simp; omega
      have hl : decide (256 < n ∨ 256 < m) = true := by simp; omega
      have HL0 := Lib.hid (Below.refl w.heap.size w)
      go_enter Tryd.func3, Tryd.ntmps3
      go_wp2_with fail
      refine (awake_any w HT.out).mono ?_
      rintro e w1 ⟨rfl, HB1⟩
      have S1a := Lib.hid (HA.out.below HB1.out)
      have S1b := Lib.hid (HB.out.below HB1.out)
      have T1 := Lib.hid (HT.out.below HB1.out)
      have HL1 := Lib.hid (HL0.out.trans (HB1.out.mono HL0.out.size))
      go_wp2_with fail
      refine (longFn_great.two A B n c m d w1 hnm hmm).mono ?_
      rintro e w2 ⟨rfl, hw⟩
      rw [hg]
      have HB2 := Lib.hid (show Below w1.heap.size w1 w2 by rw [hw]; exact (Below.refl _ _).alloc (Nat.le_refl _) _)
      clear hw
      have S2a := Lib.hid (S1a.out.below HB2.out)
      have S2b := Lib.hid (S1b.out.below HB2.out)
      have T2 := Lib.hid (T1.out.below HB2.out)
      have HL2 := Lib.hid (HL1.out.trans (HB2.out.mono HL1.out.size))
      go_wp2_with fail
      refine (nDivMod_big A B n c m d a b w2 S2a.out S2b.out h2).mono ?_
      rintro e w3 ⟨rfl, HB3⟩
      have S3a := Lib.hid (S2a.out.below HB3.out)
      have S3b := Lib.hid (S2b.out.below HB3.out)
      have T3 := Lib.hid (T2.out.below HB3.out)
      have HL3 := Lib.hid (HL2.out.trans (HB3.out.mono HL2.out.size))
      go_wp2_with fail
      refine (longFn_long.two A B n c m d w3 hnm hmm).mono ?_
      rintro e w4 ⟨rfl, hw⟩
      rw [hl]
      have HB4 := Lib.hid (show Below w3.heap.size w3 w4 by rw [hw]; exact (Below.refl _ _).alloc (Nat.le_refl _) _)
      clear hw
      have S4a := Lib.hid (S3a.out.below HB4.out)
      have S4b := Lib.hid (S3b.out.below HB4.out)
      have T4 := Lib.hid (T3.out.below HB4.out)
      have HL4 := Lib.hid (HL3.out.trans (HB4.out.mono HL3.out.size))
      go_wp2_with fail
      refine (none_any 9 w4 (by omega)).mono ?_
      rintro e w' ⟨rfl, rfl⟩
      go_wp2_with fail
      go_ret
      exact ⟨rfl, HL4⟩
    · by_cases h0 : val b = 0
      · have hg : decide (512 < n ∨ 512 < m) = false := by simp; omega
        have hl : decide (256 < n ∨ 256 < m) = false := by simp; omega
        have HL0 := Lib.hid (Below.refl w.heap.size w)
        go_enter Tryd.func3, Tryd.ntmps3
        go_wp2_with fail
        refine (awake_any w HT.out).mono ?_
        rintro e w1 ⟨rfl, HB1⟩
        have S1a := Lib.hid (HA.out.below HB1.out)
        have S1b := Lib.hid (HB.out.below HB1.out)
        have T1 := Lib.hid (HT.out.below HB1.out)
        have HL1 := Lib.hid (HL0.out.trans (HB1.out.mono HL0.out.size))
        go_wp2_with fail
        refine (longFn_great.two A B n c m d w1 hnm hmm).mono ?_
        rintro e w2 ⟨rfl, hw⟩
        rw [hg]
        have HB2 := Lib.hid (show Below w1.heap.size w1 w2 by rw [hw]; exact (Below.refl _ _).alloc (Nat.le_refl _) _)
        clear hw
        have S2a := Lib.hid (S1a.out.below HB2.out)
        have S2b := Lib.hid (S1b.out.below HB2.out)
        have T2 := Lib.hid (T1.out.below HB2.out)
        have HL2 := Lib.hid (HL1.out.trans (HB2.out.mono HL1.out.size))
        go_wp2_with fail
        refine (nDivMod_zero A B n c m d a b w2 S2a.out S2b.out (by omega) (by omega) h0).mono ?_
        rintro e w3 ⟨rfl, HB3⟩
        have S3a := Lib.hid (S2a.out.below HB3.out)
        have S3b := Lib.hid (S2b.out.below HB3.out)
        have T3 := Lib.hid (T2.out.below HB3.out)
        have HL3 := Lib.hid (HL2.out.trans (HB3.out.mono HL2.out.size))
        go_wp2_with fail
        refine (longFn_long.two A B n c m d w3 hnm hmm).mono ?_
        rintro e w4 ⟨rfl, hw⟩
        rw [hl]
        have HB4 := Lib.hid (show Below w3.heap.size w3 w4 by rw [hw]; exact (Below.refl _ _).alloc (Nat.le_refl _) _)
        clear hw
        have S4a := Lib.hid (S3a.out.below HB4.out)
        have S4b := Lib.hid (S3b.out.below HB4.out)
        have T4 := Lib.hid (T3.out.below HB4.out)
        have HL4 := Lib.hid (HL3.out.trans (HB4.out.mono HL3.out.size))
        go_wp2_with fail
        refine (rBits B m d b w4 S4b.out (by omega)).mono ?_
        rw [h0, blen_zero]
        rintro e w' ⟨rfl, rfl⟩
        go_wp2_with fail
        refine (none_any 10 w4 (by omega)).mono ?_
        rintro e w' ⟨rfl, rfl⟩
        go_wp2_with fail
        go_ret
        exact ⟨rfl, HL4⟩
      · have hbp : 0 < val b := by omega
        have hbb := blen_pos h0
        have HDA := Lib.hid (show (val b * (val a / val b)) + val a % val b = val a from Nat.div_add_mod _ _)
        have HLQ := Lib.hid (show val a / val b ≤ val a from Nat.div_le_self _ _)
        have HLR := Lib.hid (Nat.mod_lt (val a) hbp)
        generalize hbl : blen (val b) = bl at *
        have HBL := Lib.hid hbl
        have hbd : ((bl : Int) == 0) = false := by rw [beq_eq_false_iff_ne]; omega
        have HLIM := Lib.hid (Nat.le_trans (limbs_le_len HA.out.ok) (Nat.le_of_eq HA.out.len))
        have HLIMB := Lib.hid (Nat.le_trans (limbs_le_len HB.out.ok) (Nat.le_of_eq HB.out.len))
        clear hbl hbb
        have hg : decide (512 < n ∨ 512 < m) = false := by simp; omega
        have hl : decide (256 < n ∨ 256 < m) = false := by simp; omega
        have HL0 := Lib.hid (Below.refl w.heap.size w)
        go_enter Tryd.func3, Tryd.ntmps3
        go_wp2_with fail
        refine (awake_any w HT.out).mono ?_
        rintro e w1 ⟨rfl, HB1⟩
        have S1a := Lib.hid (HA.out.below HB1.out)
        have S1b := Lib.hid (HB.out.below HB1.out)
        have T1 := Lib.hid (HT.out.below HB1.out)
        have HL1 := Lib.hid (HL0.out.trans (HB1.out.mono HL0.out.size))
        go_wp2_with fail
        refine (longFn_great.two A B n c m d w1 hnm hmm).mono ?_
        rintro e w2 ⟨rfl, hw⟩
        rw [hg]
        have HB2 := Lib.hid (show Below w1.heap.size w1 w2 by rw [hw]; exact (Below.refl _ _).alloc (Nat.le_refl _) _)
        clear hw
        have S2a := Lib.hid (S1a.out.below HB2.out)
        have S2b := Lib.hid (S1b.out.below HB2.out)
        have T2 := Lib.hid (T1.out.below HB2.out)
        have HL2 := Lib.hid (HL1.out.trans (HB2.out.mono HL1.out.size))
        go_wp2_with fail
        refine (nDivMod_ok A B n c m d a b w2 S2a.out S2b.out (by omega) (by omega) hbp).mono ?_
        rintro e w3 ⟨Q, R, nq, nr, rfl, HQ, HR, HB3⟩
        have S3a := Lib.hid (S2a.out.below HB3.out)
        have S3b := Lib.hid (S2b.out.below HB3.out)
        have T3 := Lib.hid (T2.out.below HB3.out)
        have HL3 := Lib.hid (HL2.out.trans (HB3.out.mono HL2.out.size))
        have S3q := Lib.hid (HQ.out.sl)
        have S3r := Lib.hid (HR.out.sl)
        have HQL := Lib.hid HQ.out.sl.len
        have HRL := Lib.hid HR.out.sl.len
        have hqn : nq ≤ 256 := by
          rw [← HQL.out]
          have := limbs_len_le (k := n) (Nat.lt_of_le_of_lt HLQ.out (limbs_lt HLIM.out))
          omega
        have hrn : nr ≤ 256 := by
          rw [← HRL.out]
          have := limbs_len_le (k := m) (Nat.lt_trans HLR.out (limbs_lt HLIMB.out))
          omega
        generalize hqv : val a / val b = qv at *
        generalize hrv : val a % val b = rv at *
        clear hqv hrv
        go_wp2_with fail
        refine (longFn_long.two A B n c m d w3 hnm hmm).mono ?_
        rintro e w4 ⟨rfl, hw⟩
        rw [hl]
        have HB4 := Lib.hid (show Below w3.heap.size w3 w4 by rw [hw]; exact (Below.refl _ _).alloc (Nat.le_refl _) _)
        clear hw
        have S4a := Lib.hid (S3a.out.below HB4.out)
        have S4b := Lib.hid (S3b.out.below HB4.out)
        have S4q := Lib.hid (S3q.out.below HB4.out)
        have S4r := Lib.hid (S3r.out.below HB4.out)
        have T4 := Lib.hid (T3.out.below HB4.out)
        have HL4 := Lib.hid (HL3.out.trans (HB4.out.mono HL3.out.size))
        go_wp2_with fail
        refine (rBits B m d b w4 S4b.out (by omega)).mono ?_
        rw [HBL.out]
        rintro e w' ⟨rfl, rfl⟩
        go_wp2_with fail
        refine (rTrim Q nq nq _ w4 S4q.out (by omega)).mono ?_
        rw [val_limbs]
        rintro e w5 ⟨T, nt, ct, rfl, HT1, HB5⟩
        have S5a := Lib.hid (S4a.out.below HB5.out)
        have S5b := Lib.hid (S4b.out.below HB5.out)
        have S5q := Lib.hid (S4q.out.below HB5.out)
        have S5r := Lib.hid (S4r.out.below HB5.out)
        have T5 := Lib.hid (T4.out.below HB5.out)
        have HL5 := Lib.hid (HL4.out.trans (HB5.out.mono HL4.out.size))
        have S5t := Lib.hid (HT1.out.sl)
        go_wp2_with fail
        refine (eq_same Q T nq nq nt ct _ _ w5 S5q.out S5t.out rfl).mono ?_
        rintro e w6 ⟨rfl, HQ⟩
        have HB6 := Lib.hid (show Below w5.heap.size w5 w6 by obtain ⟨q, hq⟩ := HQ.out; rw [hq]; exact below_drewN (Below.refl _ _) q)
        clear HQ
        have S6a := Lib.hid (S5a.out.below HB6.out)
        have S6b := Lib.hid (S5b.out.below HB6.out)
        have S6q := Lib.hid (S5q.out.below HB6.out)
        have S6r := Lib.hid (S5r.out.below HB6.out)
        have S6t := Lib.hid (S5t.out.below HB6.out)
        have T6 := Lib.hid (T5.out.below HB6.out)
        have HL6 := Lib.hid (HL5.out.trans (HB6.out.mono HL5.out.size))
        go_wp2_with fail
        refine (rTrim R nr nr _ w6 S6r.out (by omega)).mono ?_
        rw [val_limbs]
        rintro e w7 ⟨T2, nt2, ct2, rfl, HT2, HB7⟩
        have S7a := Lib.hid (S6a.out.below HB7.out)
        have S7b := Lib.hid (S6b.out.below HB7.out)
        have S7q := Lib.hid (S6q.out.below HB7.out)
        have S7r := Lib.hid (S6r.out.below HB7.out)
        have S7t := Lib.hid (S6t.out.below HB7.out)
        have T7 := Lib.hid (T6.out.below HB7.out)
        have HL7 := Lib.hid (HL6.out.trans (HB7.out.mono HL6.out.size))
        have S7t2 := Lib.hid (HT2.out.sl)
        go_wp2_with fail
        refine (eq_same R T2 nr nr nt2 ct2 _ _ w7 S7r.out S7t2.out rfl).mono ?_
        rintro e w8 ⟨rfl, HQ⟩
        have HB8 := Lib.hid (show Below w7.heap.size w7 w8 by obtain ⟨q, hq⟩ := HQ.out; rw [hq]; exact below_drewN (Below.refl _ _) q)
        clear HQ
        have S8a := Lib.hid (S7a.out.below HB8.out)
        have S8b := Lib.hid (S7b.out.below HB8.out)
        have S8q := Lib.hid (S7q.out.below HB8.out)
        have S8r := Lib.hid (S7r.out.below HB8.out)
        have S8t := Lib.hid (S7t.out.below HB8.out)
        have S8t2 := Lib.hid (S7t2.out.below HB8.out)
        have T8 := Lib.hid (T7.out.below HB8.out)
        have HL8 := Lib.hid (HL7.out.trans (HB8.out.mono HL7.out.size))
        go_wp2_with fail
        refine (rCmp R B nr nr m d _ b w8 S8r.out S8b.out (by omega) (by omega)).mono ?_
        rw [val_limbs, cmpN_lt HLR.out]
        rintro e w' ⟨rfl, rfl⟩
        go_wp2_with fail
        refine (rMul Q B nq nq m d _ b w8 S8q.out S8b.out (by omega) (by omega)).mono ?_
        rw [val_limbs]
        rintro e w9 ⟨M, nm, cm, rfl, HM, HB9⟩
        have S9a := Lib.hid (S8a.out.below HB9.out)
        have S9b := Lib.hid (S8b.out.below HB9.out)
        have S9q := Lib.hid (S8q.out.below HB9.out)
        have S9r := Lib.hid (S8r.out.below HB9.out)
        have S9t := Lib.hid (S8t.out.below HB9.out)
        have S9t2 := Lib.hid (S8t2.out.below HB9.out)
        have T9 := Lib.hid (T8.out.below HB9.out)
        have HL9 := Lib.hid (HL8.out.trans (HB9.out.mono HL8.out.size))
        have S9m := Lib.hid (HM.out.sl)
        have hnm2 : nm ≤ 600 := by
          rw [← HM.out.sl.len]
          have h1 := mul_len qv (val b)
          have h2 := HQL.out
          have h3 := HLIMB.out
          omega
        go_wp2_with fail
        refine (rAdd M R nm cm nr nr _ _ w9 S9m.out S9r.out (by omega) (by omega)).mono ?_
        rw [val_limbs, val_limbs, Nat.mul_comm qv, HDA.out]
        rintro e w10 ⟨U, nu, cu, rfl, HU, HB10⟩
        have S10a := Lib.hid (S9a.out.below HB10.out)
        have S10b := Lib.hid (S9b.out.below HB10.out)
        have S10q := Lib.hid (S9q.out.below HB10.out)
        have S10r := Lib.hid (S9r.out.below HB10.out)
        have S10t := Lib.hid (S9t.out.below HB10.out)
        have S10t2 := Lib.hid (S9t2.out.below HB10.out)
        have S10m := Lib.hid (S9m.out.below HB10.out)
        have T10 := Lib.hid (T9.out.below HB10.out)
        have HL10 := Lib.hid (HL9.out.trans (HB10.out.mono HL9.out.size))
        have S10u := Lib.hid (HU.out.sl)
        go_wp2_with fail
        refine (rTrim A n c a w10 S10a.out (by omega)).mono ?_
        rintro e w11 ⟨T3, nt3, ct3, rfl, HT3, HB11⟩
        have S11a := Lib.hid (S10a.out.below HB11.out)
        have S11b := Lib.hid (S10b.out.below HB11.out)
        have S11q := Lib.hid (S10q.out.below HB11.out)
        have S11r := Lib.hid (S10r.out.below HB11.out)
        have S11t := Lib.hid (S10t.out.below HB11.out)
        have S11t2 := Lib.hid (S10t2.out.below HB11.out)
        have S11m := Lib.hid (S10m.out.below HB11.out)
        have S11u := Lib.hid (S10u.out.below HB11.out)
        have T11 := Lib.hid (T10.out.below HB11.out)
        have HL11 := Lib.hid (HL10.out.trans (HB11.out.mono HL10.out.size))
        have S11t3 := Lib.hid (HT3.out.sl)
        go_wp2_with fail
        refine (eq_same U T3 nu cu nt3 ct3 _ _ w11 S11u.out S11t3.out rfl).mono ?_
        rintro e w12 ⟨rfl, HQ⟩
        have HB12 := Lib.hid (show Below w11.heap.size w11 w12 by obtain ⟨q, hq⟩ := HQ.out; rw [hq]; exact below_drewN (Below.refl _ _) q)
        clear HQ
        have S12a := Lib.hid (S11a.out.below HB12.out)
        have S12b := Lib.hid (S11b.out.below HB12.out)
        have S12q := Lib.hid (S11q.out.below HB12.out)
        have S12r := Lib.hid (S11r.out.below HB12.out)
        have S12t := Lib.hid (S11t.out.below HB12.out)
        have S12t2 := Lib.hid (S11t2.out.below HB12.out)
        have S12m := Lib.hid (S11m.out.below HB12.out)
        have S12u := Lib.hid (S11u.out.below HB12.out)
        have S12t3 := Lib.hid (S11t3.out.below HB12.out)
        have T12 := Lib.hid (T11.out.below HB12.out)
        have HL12 := Lib.hid (HL11.out.trans (HB12.out.mono HL11.out.size))
        go_wp2_with fail
        go_ret
        exact ⟨rfl, HL12⟩
set_option maxHeartbeats 1600000 in
set_option maxRecDepth 100000 in
theorem naturalRoots_any (A : Option Addr) (n c : Nat) (a : List Nat) (w : World) (ht : TB w) (ha : Sl w A n c a) :
    Calls Tryd.prog 4 #[.slice A n c] w (Awk w) := by
  have HT := Lib.hid ht
  have HA := Lib.hid ha
  have hnm := ha.max
  clear ht ha
  by_cases h5 : 512 < n
  · have hg : decide (512 < n) = true := by simp; omega
    have HL0 := Lib.hid (Below.refl w.heap.size w)
    go_enter Tryd.func4, Tryd.ntmps4
    go_wp2_with fail
    refine (awake_any w HT.out).mono ?_
    rintro e w1 ⟨rfl, HB1⟩
    have S1a := Lib.hid (HA.out.below HB1.out)
    have T1 := Lib.hid (HT.out.below HB1.out)
    have HL1 := Lib.hid (HL0.out.trans (HB1.out.mono HL0.out.size))
    go_wp2_with fail
    refine (longFn_great.one A n c w1 hnm).mono ?_
    rintro e w2 ⟨rfl, hw⟩
    rw [hg]
    have HB2 := Lib.hid (show Below w1.heap.size w1 w2 by rw [hw]; exact (Below.refl _ _).alloc (Nat.le_refl _) _)
    clear hw
    have S2a := Lib.hid (S1a.out.below HB2.out)
    have T2 := Lib.hid (T1.out.below HB2.out)
    have HL2 := Lib.hid (HL1.out.trans (HB2.out.mono HL1.out.size))
    go_wp2_with fail
    go_ret
    exact ⟨rfl, HL2⟩
  · by_cases h2 : 256 < n
    · have hg : decide (512 < n) = false := by simp; omega
      have hl : decide (256 < n) = true := by simp; omega
      have HL0 := Lib.hid (Below.refl w.heap.size w)
      go_enter Tryd.func4, Tryd.ntmps4
      go_wp2_with fail
      refine (awake_any w HT.out).mono ?_
      rintro e w1 ⟨rfl, HB1⟩
      have S1a := Lib.hid (HA.out.below HB1.out)
      have T1 := Lib.hid (HT.out.below HB1.out)
      have HL1 := Lib.hid (HL0.out.trans (HB1.out.mono HL0.out.size))
      go_wp2_with fail
      refine (longFn_great.one A n c w1 hnm).mono ?_
      rintro e w2 ⟨rfl, hw⟩
      rw [hg]
      have HB2 := Lib.hid (show Below w1.heap.size w1 w2 by rw [hw]; exact (Below.refl _ _).alloc (Nat.le_refl _) _)
      clear hw
      have S2a := Lib.hid (S1a.out.below HB2.out)
      have T2 := Lib.hid (T1.out.below HB2.out)
      have HL2 := Lib.hid (HL1.out.trans (HB2.out.mono HL1.out.size))
      go_wp2_with fail
      refine (nSqrt_big A n c a w2 S2a.out h2).mono ?_
      rintro e w3 ⟨rfl, HB3⟩
      have S3a := Lib.hid (S2a.out.below HB3.out)
      have T3 := Lib.hid (T2.out.below HB3.out)
      have HL3 := Lib.hid (HL2.out.trans (HB3.out.mono HL2.out.size))
      go_wp2_with fail
      refine (longFn_long.one A n c w3 hnm).mono ?_
      rintro e w4 ⟨rfl, hw⟩
      rw [hl]
      have HB4 := Lib.hid (show Below w3.heap.size w3 w4 by rw [hw]; exact (Below.refl _ _).alloc (Nat.le_refl _) _)
      clear hw
      have S4a := Lib.hid (S3a.out.below HB4.out)
      have T4 := Lib.hid (T3.out.below HB4.out)
      have HL4 := Lib.hid (HL3.out.trans (HB4.out.mono HL3.out.size))
      go_wp2_with fail
      refine (none_any 9 w4 (by omega)).mono ?_
      rintro e w' ⟨rfl, rfl⟩
      go_wp2_with fail
      go_ret
      exact ⟨rfl, HL4⟩
    · have hg : decide (512 < n) = false := by simp; omega
      have hl : decide (256 < n) = false := by simp; omega
      have HL0 := Lib.hid (Below.refl w.heap.size w)
      go_enter Tryd.func4, Tryd.ntmps4
      go_wp2_with fail
      refine (awake_any w HT.out).mono ?_
      rintro e w1 ⟨rfl, HB1⟩
      have S1a := Lib.hid (HA.out.below HB1.out)
      have T1 := Lib.hid (HT.out.below HB1.out)
      have HL1 := Lib.hid (HL0.out.trans (HB1.out.mono HL0.out.size))
      go_wp2_with fail
      refine (longFn_great.one A n c w1 hnm).mono ?_
      rintro e w2 ⟨rfl, hw⟩
      rw [hg]
      have HB2 := Lib.hid (show Below w1.heap.size w1 w2 by rw [hw]; exact (Below.refl _ _).alloc (Nat.le_refl _) _)
      clear hw
      have S2a := Lib.hid (S1a.out.below HB2.out)
      have T2 := Lib.hid (T1.out.below HB2.out)
      have HL2 := Lib.hid (HL1.out.trans (HB2.out.mono HL1.out.size))
      go_wp2_with fail
      have HLIM := Lib.hid (Nat.le_trans (limbs_le_len HA.out.ok) (Nat.le_of_eq HA.out.len))
      refine (nSqrt_ok A n c a w2 S2a.out (by omega)).mono ?_
      rintro e w3 ⟨r, h1, h2', S, ns, ls, er, rfl, HS, HRS, HB3⟩
      have S3a := Lib.hid (S2a.out.below HB3.out)
      have T3 := Lib.hid (T2.out.below HB3.out)
      have HL3 := Lib.hid (HL2.out.trans (HB3.out.mono HL2.out.size))
      have S3s := Lib.hid (HS.out.sl)
      have HLE := Lib.hid h1
      have HLT := Lib.hid h2'
      have hrn : (limbs r).length ≤ 256 := by
        have h3 : r ≤ r * r := Nat.le_mul_self r
        have := limbs_len_le (k := n) (Nat.lt_of_le_of_lt (Nat.le_trans h3 h1) (limbs_lt HLIM.out))
        omega
      obtain ⟨he, hls⟩ := HRS.out.small hrn
      subst he hls
      have HSL := Lib.hid HS.out.sl.len
      have hns : ns ≤ 256 := by rw [← HSL.out]; exact hrn
      clear h1 h2'
      go_wp2_with fail
      refine (longFn_long.one A n c w3 hnm).mono ?_
      rintro e w4 ⟨rfl, hw⟩
      rw [hl]
      have HB4 := Lib.hid (show Below w3.heap.size w3 w4 by rw [hw]; exact (Below.refl _ _).alloc (Nat.le_refl _) _)
      clear hw
      have S4a := Lib.hid (S3a.out.below HB4.out)
      have S4s := Lib.hid (S3s.out.below HB4.out)
      have T4 := Lib.hid (T3.out.below HB4.out)
      have HL4 := Lib.hid (HL3.out.trans (HB4.out.mono HL3.out.size))
      have hU1 : (.cells #[.int .u32 1] tU : Obj) = .cells (UA [1]) tU := rfl
      go_wp2_with fail
      have HO := Lib.hid (Sl.new (w := w4) (t := tU) (l := [1]) 1 (by intro x hx; simp at hx; subst hx; decide) rfl (by unfold maxLen; omega))
      obtain ⟨w5, hw⟩ : ∃ x, x = w4.alloc (.cells (UA [1]) tU) := ⟨_, rfl⟩
      rw [← hw] at HO ⊢
      have HB5 := Lib.hid (show Below w4.heap.size w4 w5 by rw [hw]; exact (Below.refl _ _).alloc (Nat.le_refl _) _)
      clear hw hU1
      have S5a := Lib.hid (S4a.out.below HB5.out)
      have S5s := Lib.hid (S4s.out.below HB5.out)
      have T5 := Lib.hid (T4.out.below HB5.out)
      have HL5 := Lib.hid (HL4.out.trans (HB5.out.mono HL4.out.size))
      refine (rAdd S _ ns ns 1 1 _ [1] w5 S5s.out HO.out (by omega) (by omega)).mono ?_
      rw [val_limbs, show val [1] = 1 from rfl]
      rintro e w6 ⟨N, nn, cn, rfl, HN, HB6⟩
      have S6a := Lib.hid (S5a.out.below HB6.out)
      have S6s := Lib.hid (S5s.out.below HB6.out)
      have S6o := Lib.hid (HO.out.below HB6.out)
      have T6 := Lib.hid (T5.out.below HB6.out)
      have HL6 := Lib.hid (HL5.out.trans (HB6.out.mono HL5.out.size))
      have S6n := Lib.hid (HN.out.sl)
      have hnn : nn ≤ 300 := by
        rw [← HN.out.sl.len]
        have h1 := limbs_lt hrn
        have h2 := succ_len hrn
        omega
      go_wp2_with fail
      refine (rTrim S ns ns _ w6 S6s.out (by omega)).mono ?_
      rw [val_limbs]
      rintro e w7 ⟨T, nt, ct, rfl, HT1, HB7⟩
      have S7a := Lib.hid (S6a.out.below HB7.out)
      have S7s := Lib.hid (S6s.out.below HB7.out)
      have S7o := Lib.hid (S6o.out.below HB7.out)
      have S7n := Lib.hid (S6n.out.below HB7.out)
      have T7 := Lib.hid (T6.out.below HB7.out)
      have HL7 := Lib.hid (HL6.out.trans (HB7.out.mono HL6.out.size))
      have S7t := Lib.hid (HT1.out.sl)
      go_wp2_with fail
      refine (eq_same S T ns ns nt ct _ _ w7 S7s.out S7t.out rfl).mono ?_
      rintro e w8 ⟨rfl, HQ⟩
      have HB8 := Lib.hid (show Below w7.heap.size w7 w8 by obtain ⟨q, hq⟩ := HQ.out; rw [hq]; exact below_drewN (Below.refl _ _) q)
      clear HQ
      have S8a := Lib.hid (S7a.out.below HB8.out)
      have S8s := Lib.hid (S7s.out.below HB8.out)
      have S8o := Lib.hid (S7o.out.below HB8.out)
      have S8n := Lib.hid (S7n.out.below HB8.out)
      have S8t := Lib.hid (S7t.out.below HB8.out)
      have T8 := Lib.hid (T7.out.below HB8.out)
      have HL8 := Lib.hid (HL7.out.trans (HB8.out.mono HL7.out.size))
      go_wp2_with fail
      refine (rMul S S ns ns ns ns _ _ w8 S8s.out S8s.out (by omega) (by omega)).mono ?_
      rw [val_limbs]
      rintro e w9 ⟨M, nm, cm, rfl, HM, HB9⟩
      have S9a := Lib.hid (S8a.out.below HB9.out)
      have S9s := Lib.hid (S8s.out.below HB9.out)
      have S9o := Lib.hid (S8o.out.below HB9.out)
      have S9n := Lib.hid (S8n.out.below HB9.out)
      have S9t := Lib.hid (S8t.out.below HB9.out)
      have T9 := Lib.hid (T8.out.below HB9.out)
      have HL9 := Lib.hid (HL8.out.trans (HB9.out.mono HL8.out.size))
      have S9m := Lib.hid (HM.out.sl)
      have hnm2 : nm ≤ 600 := by
        rw [← HM.out.sl.len]
        have h1 := mul_len r r
        omega
      have hc1 := cmpN_le HLE.out
      have hc2 := cmpN_range (r * r) (val a)
      generalize hcc : cmpN (r * r) (val a) = cc at *
      have HCC := Lib.hid hcc
      have hcd : decide (cc ≤ 0) = true := by simpa using hc1
      clear hcc
      go_wp2_with fail
      refine (rCmp M A nm cm n c _ a w9 S9m.out S9a.out (by omega) (by omega)).mono ?_
      rw [val_limbs, HCC.out]
      rintro e w' ⟨rfl, rfl⟩
      go_wp2_with fail
      refine (rMul N N nn cn nn cn _ _ w9 S9n.out S9n.out (by omega) (by omega)).mono ?_
      rw [val_limbs]
      rintro e w10 ⟨M2, nm2, cm2, rfl, HM2, HB10⟩
      have S10a := Lib.hid (S9a.out.below HB10.out)
      have S10s := Lib.hid (S9s.out.below HB10.out)
      have S10o := Lib.hid (S9o.out.below HB10.out)
      have S10n := Lib.hid (S9n.out.below HB10.out)
      have S10t := Lib.hid (S9t.out.below HB10.out)
      have S10m := Lib.hid (S9m.out.below HB10.out)
      have T10 := Lib.hid (T9.out.below HB10.out)
      have HL10 := Lib.hid (HL9.out.trans (HB10.out.mono HL9.out.size))
      have S10m2 := Lib.hid (HM2.out.sl)
      have hnm3 : nm2 ≤ 700 := by
        rw [← HM2.out.sl.len]
        have h1 := mul_len (r + 1) (r + 1)
        have h2 := HN.out.sl.len
        omega
      go_wp2_with fail
      refine (rCmp M2 A nm2 cm2 n c _ a w10 S10m2.out S10a.out (by omega) (by omega)).mono ?_
      rw [val_limbs, cmpN_gt HLT.out]
      rintro e w' ⟨rfl, rfl⟩
      go_wp2_with fail
      go_ret
      exact ⟨rfl, HL10⟩
end Go.Proofs.YtkpicaangfibcaaDoor
