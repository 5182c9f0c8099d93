/-
  The walk of the law NaturalDivisors.
-/
import Derived.Test.YtkpicaangfibcaaDoorNumDM
set_option linter.unusedVariables false
namespace Go.Proofs.YtkpicaangfibcaaDoor
open Go.RowKit Go.Fl Go.Fl.Nm

theorem gcd_len {a b : Nat} {k : Nat} (ha : (limbs a).length ≤ k) (hb : (limbs b).length ≤ k) : (limbs (Nat.gcd a b)).length ≤ k := by
  rcases Nat.eq_zero_or_pos a with h | h
  · rw [h, Nat.gcd_zero_left]; exact hb
  · exact limbs_len_le (Nat.lt_of_le_of_lt (Nat.gcd_le_left b h) (limbs_lt ha))
theorem div_len {a b k : Nat} (ha : (limbs a).length ≤ k) : (limbs (a / b)).length ≤ k := limbs_len_le (Nat.lt_of_le_of_lt (Nat.div_le_self a b) (limbs_lt ha))

set_option maxHeartbeats 3200000 in
set_option maxRecDepth 100000 in
theorem naturalDivisors_any (A B : Option Addr) (n c m d : Nat) (a b : List Nat) (w : World) (ht : TB w) (ha : Sl w A n c a) (hb : Sl w B m d b) :
    Calls Tryd.prog 5 #[.slice A n c, .slice B m d] w (Awk w) := by
  have HT := Lib.hid ht
  have HA := Lib.hid ha
  have HB := Lib.hid hb
  have hnm := ha.max
  have hmm := hb.max
  have HLA := Lib.hid (Nat.le_trans (limbs_le_len ha.ok) (Nat.le_of_eq ha.len))
  have HLB := Lib.hid (Nat.le_trans (limbs_le_len hb.ok) (Nat.le_of_eq hb.len))
  clear ht ha hb
  by_cases h5 : 512 < n ∨ 512 < m
  · have hg : decide (512 < n ∨ 512 < m) = true := by simp; omega
    have HL0 := Lib.hid (Below.refl w.heap.size w)
    go_enter Tryd.func5, Tryd.ntmps5
    go_wp2_with fail
    refine (awake_any w HT.out).mono ?_
    rintro e w1 ⟨rfl, HB1⟩
    have S1a := Lib.hid (HA.out.below HB1.out)
    have S1b := Lib.hid (HB.out.below HB1.out)
    have T1 := Lib.hid (HT.out.below HB1.out)
    have HL1 := Lib.hid (HL0.out.trans (HB1.out.mono HL0.out.size))
    go_wp2_with fail
    refine (longFn_great.two A B n c m d w1 hnm hmm).mono ?_
    rintro e w2 ⟨rfl, hw⟩
    rw [hg]
    have HB2 := Lib.hid (show Below w1.heap.size w1 w2 by rw [hw]; exact (Below.refl _ _).alloc (Nat.le_refl _) _)
    clear hw
    have S2a := Lib.hid (S1a.out.below HB2.out)
    have S2b := Lib.hid (S1b.out.below HB2.out)
    have T2 := Lib.hid (T1.out.below HB2.out)
    have HL2 := Lib.hid (HL1.out.trans (HB2.out.mono HL1.out.size))
    go_wp2_with fail
    go_ret
    exact ⟨rfl, HL2⟩
  · by_cases h2 : 256 < n ∨ 256 < m
    · have hg : decide (512 < n ∨ 512 < m) = false := by simp; omega
      have hl : decide (256 < n ∨ 256 < m) = true := by simp; omega
      have HL0 := Lib.hid (Below.refl w.heap.size w)
      go_enter Tryd.func5, Tryd.ntmps5
      go_wp2_with fail
      refine (awake_any w HT.out).mono ?_
      rintro e w1 ⟨rfl, HB1⟩
      have S1a := Lib.hid (HA.out.below HB1.out)
      have S1b := Lib.hid (HB.out.below HB1.out)
      have T1 := Lib.hid (HT.out.below HB1.out)
      have HL1 := Lib.hid (HL0.out.trans (HB1.out.mono HL0.out.size))
      go_wp2_with fail
      refine (longFn_great.two A B n c m d w1 hnm hmm).mono ?_
      rintro e w2 ⟨rfl, hw⟩
      rw [hg]
      have HB2 := Lib.hid (show Below w1.heap.size w1 w2 by rw [hw]; exact (Below.refl _ _).alloc (Nat.le_refl _) _)
      clear hw
      have S2a := Lib.hid (S1a.out.below HB2.out)
      have S2b := Lib.hid (S1b.out.below HB2.out)
      have T2 := Lib.hid (T1.out.below HB2.out)
      have HL2 := Lib.hid (HL1.out.trans (HB2.out.mono HL1.out.size))
      go_wp2_with fail
      refine (longFn_long.two A B n c m d w2 hnm hmm).mono ?_
      rintro e w3 ⟨rfl, hw⟩
      rw [hl]
      have HB3 := Lib.hid (show Below w2.heap.size w2 w3 by rw [hw]; exact (Below.refl _ _).alloc (Nat.le_refl _) _)
      clear hw
      have S3a := Lib.hid (S2a.out.below HB3.out)
      have S3b := Lib.hid (S2b.out.below HB3.out)
      have T3 := Lib.hid (T2.out.below HB3.out)
      have HL3 := Lib.hid (HL2.out.trans (HB3.out.mono HL2.out.size))
      go_wp2_with fail
      refine (nGcd_big A B n c m d a b w3 S3a.out S3b.out h2).mono ?_
      rintro e w4 ⟨rfl, HB4⟩
      have S4a := Lib.hid (S3a.out.below HB4.out)
      have S4b := Lib.hid (S3b.out.below HB4.out)
      have T4 := Lib.hid (T3.out.below HB4.out)
      have HL4 := Lib.hid (HL3.out.trans (HB4.out.mono HL3.out.size))
      go_wp2_with fail
      refine (longFn_long.two A B n c m d w4 hnm hmm).mono ?_
      rintro e w5 ⟨rfl, hw⟩
      rw [hl]
      have HB5 := Lib.hid (show Below w4.heap.size w4 w5 by rw [hw]; exact (Below.refl _ _).alloc (Nat.le_refl _) _)
      clear hw
      have S5a := Lib.hid (S4a.out.below HB5.out)
      have S5b := Lib.hid (S4b.out.below HB5.out)
      have T5 := Lib.hid (T4.out.below HB5.out)
      have HL5 := Lib.hid (HL4.out.trans (HB5.out.mono HL4.out.size))
      go_wp2_with fail
      refine (none_any 9 w5 (by omega)).mono ?_
      rintro e w' ⟨rfl, rfl⟩
      go_wp2_with fail
      go_ret
      exact ⟨rfl, HL5⟩
    · by_cases h4 : 40 < n
      · have hg : decide (512 < n ∨ 512 < m) = false := by simp; omega
        have hl : decide (256 < n ∨ 256 < m) = false := by simp; omega
        have h40 : decide ((40 : Int) < n) = true := by simp; omega
        have HL0 := Lib.hid (Below.refl w.heap.size w)
        go_enter Tryd.func5, Tryd.ntmps5
        go_wp2_with fail
        refine (awake_any w HT.out).mono ?_
        rintro e w1 ⟨rfl, HB1⟩
        have S1a := Lib.hid (HA.out.below HB1.out)
        have S1b := Lib.hid (HB.out.below HB1.out)
        have T1 := Lib.hid (HT.out.below HB1.out)
        have HL1 := Lib.hid (HL0.out.trans (HB1.out.mono HL0.out.size))
        go_wp2_with fail
        refine (longFn_great.two A B n c m d w1 hnm hmm).mono ?_
        rintro e w2 ⟨rfl, hw⟩
        rw [hg]
        have HB2 := Lib.hid (show Below w1.heap.size w1 w2 by rw [hw]; exact (Below.refl _ _).alloc (Nat.le_refl _) _)
        clear hw
        have S2a := Lib.hid (S1a.out.below HB2.out)
        have S2b := Lib.hid (S1b.out.below HB2.out)
        have T2 := Lib.hid (T1.out.below HB2.out)
        have HL2 := Lib.hid (HL1.out.trans (HB2.out.mono HL1.out.size))
        go_wp2_with fail
        refine (longFn_long.two A B n c m d w2 hnm hmm).mono ?_
        rintro e w3 ⟨rfl, hw⟩
        rw [hl]
        have HB3 := Lib.hid (show Below w2.heap.size w2 w3 by rw [hw]; exact (Below.refl _ _).alloc (Nat.le_refl _) _)
        clear hw
        have S3a := Lib.hid (S2a.out.below HB3.out)
        have S3b := Lib.hid (S2b.out.below HB3.out)
        have T3 := Lib.hid (T2.out.below HB3.out)
        have HL3 := Lib.hid (HL2.out.trans (HB3.out.mono HL2.out.size))
        go_wp2_with fail
        go_ret
        exact ⟨rfl, HL3⟩
      · by_cases h6 : 40 < m
        · have hg : decide (512 < n ∨ 512 < m) = false := by simp; omega
          have hl : decide (256 < n ∨ 256 < m) = false := by simp; omega
          have h40 : decide ((40 : Int) < n) = false := by simp; omega
          have h41 : decide ((40 : Int) < m) = true := by simp; omega
          have HL0 := Lib.hid (Below.refl w.heap.size w)
          go_enter Tryd.func5, Tryd.ntmps5
          go_wp2_with fail
          refine (awake_any w HT.out).mono ?_
          rintro e w1 ⟨rfl, HB1⟩
          have S1a := Lib.hid (HA.out.below HB1.out)
          have S1b := Lib.hid (HB.out.below HB1.out)
          have T1 := Lib.hid (HT.out.below HB1.out)
          have HL1 := Lib.hid (HL0.out.trans (HB1.out.mono HL0.out.size))
          go_wp2_with fail
          refine (longFn_great.two A B n c m d w1 hnm hmm).mono ?_
          rintro e w2 ⟨rfl, hw⟩
          rw [hg]
          have HB2 := Lib.hid (show Below w1.heap.size w1 w2 by rw [hw]; exact (Below.refl _ _).alloc (Nat.le_refl _) _)
          clear hw
          have S2a := Lib.hid (S1a.out.below HB2.out)
          have S2b := Lib.hid (S1b.out.below HB2.out)
          have T2 := Lib.hid (T1.out.below HB2.out)
          have HL2 := Lib.hid (HL1.out.trans (HB2.out.mono HL1.out.size))
          go_wp2_with fail
          refine (longFn_long.two A B n c m d w2 hnm hmm).mono ?_
          rintro e w3 ⟨rfl, hw⟩
          rw [hl]
          have HB3 := Lib.hid (show Below w2.heap.size w2 w3 by rw [hw]; exact (Below.refl _ _).alloc (Nat.le_refl _) _)
          clear hw
          have S3a := Lib.hid (S2a.out.below HB3.out)
          have S3b := Lib.hid (S2b.out.below HB3.out)
          have T3 := Lib.hid (T2.out.below HB3.out)
          have HL3 := Lib.hid (HL2.out.trans (HB3.out.mono HL2.out.size))
          go_wp2_with fail
          go_ret
          exact ⟨rfl, HL3⟩
        · by_cases h0 : val a = 0 ∧ val b = 0
          · have hg : decide (512 < n ∨ 512 < m) = false := by simp; omega
            have hl : decide (256 < n ∨ 256 < m) = false := by simp; omega
            have h40 : decide ((40 : Int) < n) = false := by simp; omega
            have h41 : decide ((40 : Int) < m) = false := by simp; omega
            have HL0 := Lib.hid (Below.refl w.heap.size w)
            go_enter Tryd.func5, Tryd.ntmps5
            go_wp2_with fail
            refine (awake_any w HT.out).mono ?_
            rintro e w1 ⟨rfl, HB1⟩
            have S1a := Lib.hid (HA.out.below HB1.out)
            have S1b := Lib.hid (HB.out.below HB1.out)
            have T1 := Lib.hid (HT.out.below HB1.out)
            have HL1 := Lib.hid (HL0.out.trans (HB1.out.mono HL0.out.size))
            go_wp2_with fail
            refine (longFn_great.two A B n c m d w1 hnm hmm).mono ?_
            rintro e w2 ⟨rfl, hw⟩
            rw [hg]
            have HB2 := Lib.hid (show Below w1.heap.size w1 w2 by rw [hw]; exact (Below.refl _ _).alloc (Nat.le_refl _) _)
            clear hw
            have S2a := Lib.hid (S1a.out.below HB2.out)
            have S2b := Lib.hid (S1b.out.below HB2.out)
            have T2 := Lib.hid (T1.out.below HB2.out)
            have HL2 := Lib.hid (HL1.out.trans (HB2.out.mono HL1.out.size))
            go_wp2_with fail
            refine (longFn_long.two A B n c m d w2 hnm hmm).mono ?_
            rintro e w3 ⟨rfl, hw⟩
            rw [hl]
            have HB3 := Lib.hid (show Below w2.heap.size w2 w3 by rw [hw]; exact (Below.refl _ _).alloc (Nat.le_refl _) _)
            clear hw
            have S3a := Lib.hid (S2a.out.below HB3.out)
            have S3b := Lib.hid (S2b.out.below HB3.out)
            have T3 := Lib.hid (T2.out.below HB3.out)
            have HL3 := Lib.hid (HL2.out.trans (HB3.out.mono HL2.out.size))
            go_wp2_with fail
            refine (nGcd_ok A B n c m d a b w3 S3a.out S3b.out (by omega) (by omega)).mono ?_
            rintro e w4 ⟨P, np, lp, er, rfl, HP, HR, HB4⟩
            have S4a := Lib.hid (S3a.out.below HB4.out)
            have S4b := Lib.hid (S3b.out.below HB4.out)
            have T4 := Lib.hid (T3.out.below HB4.out)
            have HL4 := Lib.hid (HL3.out.trans (HB4.out.mono HL3.out.size))
            have S4p := Lib.hid (HP.out.sl)
            have hgl := gcd_len (k := 40) (Nat.le_trans HLA.out (by omega)) (Nat.le_trans HLB.out (by omega))
            obtain ⟨he, hlp⟩ := HR.out.small (by omega)
            subst he hlp
            have hpn : np ≤ 40 := by rw [← HP.out.sl.len]; exact hgl
            clear hgl
            have hp0 : np = 0 := by
              rw [← HP.out.sl.len, h0.1, h0.2, Nat.gcd_zero_left, limbs_zero]; rfl
            subst hp0
            go_wp2_with fail
            refine (longFn_long.two A B n c m d w4 hnm hmm).mono ?_
            rintro e w5 ⟨rfl, hw⟩
            rw [hl]
            have HB5 := Lib.hid (show Below w4.heap.size w4 w5 by rw [hw]; exact (Below.refl _ _).alloc (Nat.le_refl _) _)
            clear hw
            have S5a := Lib.hid (S4a.out.below HB5.out)
            have S5b := Lib.hid (S4b.out.below HB5.out)
            have S5p := Lib.hid (S4p.out.below HB5.out)
            have T5 := Lib.hid (T4.out.below HB5.out)
            have HL5 := Lib.hid (HL4.out.trans (HB5.out.mono HL4.out.size))
            go_wp2_with fail
            refine (rBits A n c a w5 S5a.out (by omega)).mono ?_
            rw [h0.1, blen_zero]
            rintro e w' ⟨rfl, rfl⟩
            go_wp2_with fail
            refine (rBits B m d b w5 S5b.out (by omega)).mono ?_
            rw [h0.2, blen_zero]
            rintro e w' ⟨rfl, rfl⟩
            go_wp2_with fail
            go_ret
            exact ⟨rfl, HL5⟩
          · have hgp : 0 < Nat.gcd (val a) (val b) := by
              rcases Nat.eq_zero_or_pos (val a) with h | h
              · rw [h, Nat.gcd_zero_left]; omega
              · exact Nat.gcd_pos_of_pos_left _ h
            have HONE := Lib.hid (show Nat.gcd (val a / Nat.gcd (val a) (val b)) (val b / Nat.gcd (val a) (val b)) = 1 by
              rcases Nat.eq_zero_or_pos (val a) with h | h
              · exact Nat.gcd_div_gcd_div_gcd_of_pos_right (by omega)
              · exact Nat.gcd_div_gcd_div_gcd_of_pos_left h)
            have HMA := Lib.hid (Nat.mod_eq_zero_of_dvd (Nat.gcd_dvd_left (val a) (val b)))
            have HMB := Lib.hid (Nat.mod_eq_zero_of_dvd (Nat.gcd_dvd_right (val a) (val b)))
            have hba : blen (val a) + blen (val b) ≠ 0 := by
              rcases Nat.eq_zero_or_pos (val a) with h | h
              · have := blen_pos (n := val b) (by omega); omega
              · have := blen_pos (n := val a) (by omega); omega
            have hbl1 : blen (val a) ≤ 100000 := by have := blen_limbs (val a); have := HLA.out; omega
            have hbl2 : blen (val b) ≤ 100000 := by have := blen_limbs (val b); have := HLB.out; omega
            obtain ⟨ba, HBA⟩ : ∃ x, Hid (blen (val a) = x) := ⟨_, Lib.hid rfl⟩
            obtain ⟨bb, HBB⟩ : ∃ x, Hid (blen (val b) = x) := ⟨_, Lib.hid rfl⟩
            rw [HBA.out, HBB.out] at hba
            rw [HBA.out] at hbl1
            rw [HBB.out] at hbl2
            have hbd : ((ba : Int) + bb == 0) = false := by rw [beq_eq_false_iff_ne]; omega
            have hg : decide (512 < n ∨ 512 < m) = false := by simp; omega
            have hl : decide (256 < n ∨ 256 < m) = false := by simp; omega
            have h40 : decide ((40 : Int) < n) = false := by simp; omega
            have h41 : decide ((40 : Int) < m) = false := by simp; omega
            have HL0 := Lib.hid (Below.refl w.heap.size w)
            go_enter Tryd.func5, Tryd.ntmps5
            go_wp2_with fail
            refine (awake_any w HT.out).mono ?_
            rintro e w1 ⟨rfl, HB1⟩
            have S1a := Lib.hid (HA.out.below HB1.out)
            have S1b := Lib.hid (HB.out.below HB1.out)
            have T1 := Lib.hid (HT.out.below HB1.out)
            have HL1 := Lib.hid (HL0.out.trans (HB1.out.mono HL0.out.size))
            go_wp2_with fail
            refine (longFn_great.two A B n c m d w1 hnm hmm).mono ?_
            rintro e w2 ⟨rfl, hw⟩
            rw [hg]
            have HB2 := Lib.hid (show Below w1.heap.size w1 w2 by rw [hw]; exact (Below.refl _ _).alloc (Nat.le_refl _) _)
            clear hw
            have S2a := Lib.hid (S1a.out.below HB2.out)
            have S2b := Lib.hid (S1b.out.below HB2.out)
            have T2 := Lib.hid (T1.out.below HB2.out)
            have HL2 := Lib.hid (HL1.out.trans (HB2.out.mono HL1.out.size))
            go_wp2_with fail
            refine (longFn_long.two A B n c m d w2 hnm hmm).mono ?_
            rintro e w3 ⟨rfl, hw⟩
            rw [hl]
            have HB3 := Lib.hid (show Below w2.heap.size w2 w3 by rw [hw]; exact (Below.refl _ _).alloc (Nat.le_refl _) _)
            clear hw
            have S3a := Lib.hid (S2a.out.below HB3.out)
            have S3b := Lib.hid (S2b.out.below HB3.out)
            have T3 := Lib.hid (T2.out.below HB3.out)
            have HL3 := Lib.hid (HL2.out.trans (HB3.out.mono HL2.out.size))
            go_wp2_with fail
            refine (nGcd_ok A B n c m d a b w3 S3a.out S3b.out (by omega) (by omega)).mono ?_
            rintro e w4 ⟨P, np, lp, er, rfl, HP, HR, HB4⟩
            have S4a := Lib.hid (S3a.out.below HB4.out)
            have S4b := Lib.hid (S3b.out.below HB4.out)
            have T4 := Lib.hid (T3.out.below HB4.out)
            have HL4 := Lib.hid (HL3.out.trans (HB4.out.mono HL3.out.size))
            have S4p := Lib.hid (HP.out.sl)
            have hgl := gcd_len (k := 40) (Nat.le_trans HLA.out (by omega)) (Nat.le_trans HLB.out (by omega))
            obtain ⟨he, hlp⟩ := HR.out.small (by omega)
            subst he hlp
            have hpn : np ≤ 40 := by rw [← HP.out.sl.len]; exact hgl
            clear hgl
            have hgb := blen_pos (n := Nat.gcd (val a) (val b)) (by omega)
            have HDL := Lib.hid (div_len (b := Nat.gcd (val a) (val b)) HLA.out)
            have HDM := Lib.hid (div_len (b := Nat.gcd (val a) (val b)) HLB.out)
            obtain ⟨bg, HBG⟩ : ∃ x, Hid (blen (Nat.gcd (val a) (val b)) = x) := ⟨_, Lib.hid rfl⟩
            rw [HBG.out] at hgb
            obtain ⟨gv, HGV⟩ : ∃ x, Hid (Nat.gcd (val a) (val b) = x) := ⟨_, Lib.hid rfl⟩
            rw [HGV.out] at HBG HONE HMA HMB hgp HDL HDM
            have hbg : ((bg : Int) == 0) = false := by rw [beq_eq_false_iff_ne]; omega
            go_wp2_with fail
            refine (longFn_long.two A B n c m d w4 hnm hmm).mono ?_
            rintro e w5 ⟨rfl, hw⟩
            rw [hl]
            have HB5 := Lib.hid (show Below w4.heap.size w4 w5 by rw [hw]; exact (Below.refl _ _).alloc (Nat.le_refl _) _)
            clear hw
            have S5a := Lib.hid (S4a.out.below HB5.out)
            have S5b := Lib.hid (S4b.out.below HB5.out)
            have S5p := Lib.hid (S4p.out.below HB5.out)
            have T5 := Lib.hid (T4.out.below HB5.out)
            have HL5 := Lib.hid (HL4.out.trans (HB5.out.mono HL4.out.size))
            go_wp2_with fail
            refine (rBits A n c a w5 S5a.out (by omega)).mono ?_
            rw [HBA.out]
            rintro e w' ⟨rfl, rfl⟩
            go_wp2_with fail
            refine (rBits B m d b w5 S5b.out (by omega)).mono ?_
            rw [HBB.out]
            rintro e w' ⟨rfl, rfl⟩
            go_wp2_with fail
            refine (rBits P np np _ w5 S5p.out (by omega)).mono ?_
            rw [val_limbs, HGV.out, HBG.out]
            rintro e w' ⟨rfl, rfl⟩
            go_wp2_with fail
            refine (rDivMod A P n c np np a _ w5 S5a.out S5p.out (by omega) (by omega) (by rw [val_limbs, HGV.out]; exact hgp)).mono ?_
            rw [val_limbs, HGV.out, HMA.out]
            rintro e w6 ⟨X, nx, cx, R, nr, cr, rfl, HX, HR1, HB6⟩
            have S6a := Lib.hid (S5a.out.below HB6.out)
            have S6b := Lib.hid (S5b.out.below HB6.out)
            have S6p := Lib.hid (S5p.out.below HB6.out)
            have T6 := Lib.hid (T5.out.below HB6.out)
            have HL6 := Lib.hid (HL5.out.trans (HB6.out.mono HL5.out.size))
            have S6x := Lib.hid (HX.out.sl)
            obtain rfl : nr = 0 := by rw [← HR1.out.sl.len, limbs_zero]; rfl
            have hnx : nx ≤ 100 := by rw [← HX.out.sl.len]; have := HDL.out; omega
            go_wp2_with fail
            refine (rDivMod B P m d np np b _ w6 S6b.out S6p.out (by omega) (by omega) (by rw [val_limbs, HGV.out]; exact hgp)).mono ?_
            rw [val_limbs, HGV.out, HMB.out]
            rintro e w7 ⟨Y, ny, cy, S, ns, cs, rfl, HY, HS1, HB7⟩
            have S7a := Lib.hid (S6a.out.below HB7.out)
            have S7b := Lib.hid (S6b.out.below HB7.out)
            have S7p := Lib.hid (S6p.out.below HB7.out)
            have S7x := Lib.hid (S6x.out.below HB7.out)
            have T7 := Lib.hid (T6.out.below HB7.out)
            have HL7 := Lib.hid (HL6.out.trans (HB7.out.mono HL6.out.size))
            have S7y := Lib.hid (HY.out.sl)
            obtain rfl : ns = 0 := by rw [← HS1.out.sl.len, limbs_zero]; rfl
            have hny : ny ≤ 100 := by rw [← HY.out.sl.len]; have := HDM.out; omega
            go_wp2_with fail
            refine (rGcd X Y nx cx ny cy _ _ w7 S7x.out S7y.out (by omega) (by omega)).mono ?_
            rw [val_limbs, val_limbs, HONE.out]
            rintro e w8 ⟨O, no, co, rfl, HO, HB8⟩
            have S8a := Lib.hid (S7a.out.below HB8.out)
            have S8b := Lib.hid (S7b.out.below HB8.out)
            have S8p := Lib.hid (S7p.out.below HB8.out)
            have S8x := Lib.hid (S7x.out.below HB8.out)
            have S8y := Lib.hid (S7y.out.below HB8.out)
            have T8 := Lib.hid (T7.out.below HB8.out)
            have HL8 := Lib.hid (HL7.out.trans (HB8.out.mono HL7.out.size))
            have SO := Lib.hid (show Sl w8 O no co [1] by rw [← limbs_one (x := 1) (by omega) (by decide)]; exact HO.out.sl)
            have hU1 : (.cells #[.int .u32 1] tU : Obj) = .cells (UA [1]) tU := rfl
            go_wp2_with fail
            have HO1 := Lib.hid (Sl.new (w := w8) (t := tU) (l := [1]) 1 (by intro x hx; simp at hx; subst hx; decide) rfl (by unfold maxLen; omega))
            obtain ⟨w9, hw⟩ : ∃ x, x = w8.alloc (.cells (UA [1]) tU) := ⟨_, rfl⟩
            rw [← hw] at HO1 ⊢
            have HB9 := Lib.hid (show Below w8.heap.size w8 w9 by rw [hw]; exact (Below.refl _ _).alloc (Nat.le_refl _) _)
            clear hw hU1
            have S9a := Lib.hid (S8a.out.below HB9.out)
            have S9b := Lib.hid (S8b.out.below HB9.out)
            have S9p := Lib.hid (S8p.out.below HB9.out)
            have S9x := Lib.hid (S8x.out.below HB9.out)
            have S9y := Lib.hid (S8y.out.below HB9.out)
            have S9o := Lib.hid (SO.out.below HB9.out)
            have T9 := Lib.hid (T8.out.below HB9.out)
            have HL9 := Lib.hid (HL8.out.trans (HB9.out.mono HL8.out.size))
            refine (eq_same O _ no co 1 1 _ [1] w9 S9o.out HO1.out rfl).mono ?_
            rintro e w10 ⟨rfl, HQ⟩
            have HB10 := Lib.hid (show Below w9.heap.size w9 w10 by obtain ⟨q, hq⟩ := HQ.out; rw [hq]; exact below_drewN (Below.refl _ _) q)
            clear HQ
            have S10a := Lib.hid (S9a.out.below HB10.out)
            have S10b := Lib.hid (S9b.out.below HB10.out)
            have S10p := Lib.hid (S9p.out.below HB10.out)
            have S10x := Lib.hid (S9x.out.below HB10.out)
            have S10y := Lib.hid (S9y.out.below HB10.out)
            have S10o := Lib.hid (S9o.out.below HB10.out)
            have S10u := Lib.hid (HO1.out.below HB10.out)
            have T10 := Lib.hid (T9.out.below HB10.out)
            have HL10 := Lib.hid (HL9.out.trans (HB10.out.mono HL9.out.size))
            go_wp2_with fail
            refine (rTrim P np np _ w10 S10p.out (by omega)).mono ?_
            rw [val_limbs]
            rintro e w11 ⟨T, nt, ct, rfl, HT1, HB11⟩
            have S11a := Lib.hid (S10a.out.below HB11.out)
            have S11b := Lib.hid (S10b.out.below HB11.out)
            have S11p := Lib.hid (S10p.out.below HB11.out)
            have S11x := Lib.hid (S10x.out.below HB11.out)
            have S11y := Lib.hid (S10y.out.below HB11.out)
            have S11o := Lib.hid (S10o.out.below HB11.out)
            have S11u := Lib.hid (S10u.out.below HB11.out)
            have T11 := Lib.hid (T10.out.below HB11.out)
            have HL11 := Lib.hid (HL10.out.trans (HB11.out.mono HL10.out.size))
            have S11t := Lib.hid (HT1.out.sl)
            go_wp2_with fail
            refine (eq_same P T np np nt ct _ _ w11 S11p.out S11t.out rfl).mono ?_
            rintro e w12 ⟨rfl, HQ⟩
            have HB12 := Lib.hid (show Below w11.heap.size w11 w12 by obtain ⟨q, hq⟩ := HQ.out; rw [hq]; exact below_drewN (Below.refl _ _) q)
            clear HQ
            have S12a := Lib.hid (S11a.out.below HB12.out)
            have S12b := Lib.hid (S11b.out.below HB12.out)
            have S12p := Lib.hid (S11p.out.below HB12.out)
            have S12x := Lib.hid (S11x.out.below HB12.out)
            have S12y := Lib.hid (S11y.out.below HB12.out)
            have S12o := Lib.hid (S11o.out.below HB12.out)
            have S12u := Lib.hid (S11u.out.below HB12.out)
            have S12t := Lib.hid (S11t.out.below HB12.out)
            have T12 := Lib.hid (T11.out.below HB12.out)
            have HL12 := Lib.hid (HL11.out.trans (HB12.out.mono HL11.out.size))
            go_wp2_with fail
            go_ret
            exact ⟨rfl, HL12⟩
end Go.Proofs.YtkpicaangfibcaaDoor
