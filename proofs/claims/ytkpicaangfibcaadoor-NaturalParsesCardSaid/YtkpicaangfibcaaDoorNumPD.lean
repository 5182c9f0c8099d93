/-
  The walks of the laws NaturalParses, NaturalTexts.
-/
import Derived.Test.YtkpicaangfibcaaDoorNumPC
set_option linter.unusedVariables false
namespace Go.Proofs.YtkpicaangfibcaaDoor
open Go.RowKit Go.Fl Go.Fl.Nm

theorem dec_len3 {v n m : Nat} (h : v < BB ^ n) (hn : 32 * n ≤ 3 * (m + 1)) : (Go.Lib.decDigits v).length ≤ m + 1 := by
  rw [Go.Lib.decDigits_length]
  apply nDigits_le
  rw [BB_pow, ← Nat.pow_mul] at h
  have h1 : 2 ^ (32 * n) ≤ 2 ^ (3 * (m + 1)) := Nat.pow_le_pow_right (by omega) hn
  rw [Nat.pow_mul 2 3 (m + 1)] at h1
  exact Nat.lt_of_lt_of_le h (Nat.le_trans h1 (Nat.pow_le_pow_left (by omega) _))

set_option maxHeartbeats 1600000 in
set_option maxRecDepth 100000 in
theorem naturalParses_any (s : ByteArray) (w : World) (ht : TB w) (hs : s.size ≤ maxLen) :
    Calls Tryd.prog 12 #[.string s] w (Awk w) := by
  have HT := Lib.hid ht
  have HSZ := Lib.hid hs
  have hs2 := hs
  unfold maxLen at hs2
  clear ht hs
  by_cases h1 : 1000 < s.size
  · have hd : decide ((1000 : Int) < s.size) = true := decide_eq_true (by omega)
    have HL0 := Lib.hid (Below.refl w.heap.size w)
    go_enter Tryd.func12, Tryd.ntmps12
    go_wp2_with fail
    refine (awake_any w HT.out).mono ?_
    rintro e w1 ⟨rfl, HB1⟩
    have T1 := Lib.hid (HT.out.below HB1.out)
    have HL1 := Lib.hid (HL0.out.trans (HB1.out.mono HL0.out.size))
    go_wp2_with fail
    refine (nParse_full s w1 h1 HSZ.out).mono ?_
    rintro e w2 ⟨rfl, HB2⟩
    have T2 := Lib.hid (T1.out.below HB2.out)
    have HL2 := Lib.hid (HL1.out.trans (HB2.out.mono HL1.out.size))
    go_wp2_with fail
    refine (none_any 5 w2 (by omega)).mono ?_
    rintro e w' ⟨rfl, rfl⟩
    go_wp2_with fail
    go_ret
    exact ⟨rfl, HL2⟩
  · have hd : decide ((1000 : Int) < s.size) = false := decide_eq_false (by omega)
    cases hn : isNum s.data.toList with
    | false =>
      have HN := Lib.hid hn
      clear hn
      have HL0 := Lib.hid (Below.refl w.heap.size w)
      go_enter Tryd.func12, Tryd.ntmps12
      go_wp2_with fail
      refine (awake_any w HT.out).mono ?_
      rintro e w1 ⟨rfl, HB1⟩
      have T1 := Lib.hid (HT.out.below HB1.out)
      have HL1 := Lib.hid (HL0.out.trans (HB1.out.mono HL0.out.size))
      go_wp2_with fail
      refine (nParse_form s w1 (by omega) HN.out).mono ?_
      rintro e w2 ⟨rfl, HB2⟩
      have T2 := Lib.hid (T1.out.below HB2.out)
      have HL2 := Lib.hid (HL1.out.trans (HB2.out.mono HL1.out.size))
      go_wp2_with fail
      refine (rDecimal s w2 HSZ.out).mono ?_
      rw [HN.out]
      rintro e w' ⟨rfl, rfl⟩
      go_wp2_with fail
      refine (none_any 3 w2 (by omega)).mono ?_
      rintro e w' ⟨rfl, rfl⟩
      go_wp2_with fail
      go_ret
      exact ⟨rfl, HL2⟩
    | true =>
      have HN := Lib.hid hn
      have HALL := Lib.hid (show s.data.toList.all isDig = true by
        unfold isNum at hn
        rw [Bool.and_eq_true, Bool.and_eq_true] at hn
        exact hn.1.1)
      clear hn
      have HL0 := Lib.hid (Below.refl w.heap.size w)
      go_enter Tryd.func12, Tryd.ntmps12
      go_wp2_with fail
      refine (awake_any w HT.out).mono ?_
      rintro e w1 ⟨rfl, HB1⟩
      have T1 := Lib.hid (HT.out.below HB1.out)
      have HL1 := Lib.hid (HL0.out.trans (HB1.out.mono HL0.out.size))
      go_wp2_with fail
      refine (nParse_ok s w1 (by omega) HN.out).mono ?_
      rintro e w2 ⟨P, np, lp, er, rfl, HP, HR, HB2⟩
      have T2 := Lib.hid (T1.out.below HB2.out)
      have HL2 := Lib.hid (HL1.out.trans (HB2.out.mono HL1.out.size))
      have S2p := Lib.hid (HP.out.sl)
      go_wp2_with fail
      refine (rDecimal s w2 HSZ.out).mono ?_
      rw [HN.out]
      rintro e w' ⟨rfl, rfl⟩
      go_wp2_with fail
      refine (rParse s w2 (by omega) HALL.out).mono ?_
      rintro e w3 ⟨Q, nq, cq, rfl, HQ1, HB3⟩
      have S3p := Lib.hid (S2p.out.below HB3.out)
      have T3 := Lib.hid (T2.out.below HB3.out)
      have HL3 := Lib.hid (HL2.out.trans (HB3.out.mono HL2.out.size))
      have S3q := Lib.hid (HQ1.out.sl)
      go_wp2_with fail
      refine (is_any P Q np np nq cq _ lp er w3 S3p.out S3q.out HR.out).mono ?_
      rintro e w4 ⟨rfl, HQ⟩
      have HB4 := Lib.hid (show Below w3.heap.size w3 w4 by obtain ⟨q, hq⟩ := HQ.out; rw [hq]; exact below_drewN (Below.refl _ _) q)
      clear HQ
      have S4p := Lib.hid (S3p.out.below HB4.out)
      have S4q := Lib.hid (S3q.out.below HB4.out)
      have T4 := Lib.hid (T3.out.below HB4.out)
      have HL4 := Lib.hid (HL3.out.trans (HB4.out.mono HL3.out.size))
      go_wp2_with fail
      go_ret
      exact ⟨rfl, HL4⟩

set_option maxHeartbeats 1600000 in
set_option maxRecDepth 100000 in
theorem naturalTexts_any (A : Option Addr) (n c : Nat) (a : List Nat) (w : World) (ht : TB w) (ha : Sl w A n c a) :
    Calls Tryd.prog 11 #[.slice A n c] w (Awk w) := by
  have HT := Lib.hid ht
  have HA := Lib.hid ha
  have hnm := ha.max
  clear ht ha
  by_cases h5 : 512 < n
  · have hg : decide (512 < n) = true := by simp; omega
    have HL0 := Lib.hid (Below.refl w.heap.size w)
    go_enter Tryd.func11, Tryd.ntmps11
    go_wp2_with fail
    refine (awake_any w HT.out).mono ?_
    rintro e w1 ⟨rfl, HB1⟩
    have S1a := Lib.hid (HA.out.below HB1.out)
    have T1 := Lib.hid (HT.out.below HB1.out)
    have HL1 := Lib.hid (HL0.out.trans (HB1.out.mono HL0.out.size))
    go_wp2_with fail
    refine (longFn_great.one A n c w1 hnm).mono ?_
    rintro e w2 ⟨rfl, hw⟩
    rw [hg]
    have HB2 := Lib.hid (show Below w1.heap.size w1 w2 by rw [hw]; exact (Below.refl _ _).alloc (Nat.le_refl _) _)
    clear hw
    have S2a := Lib.hid (S1a.out.below HB2.out)
    have T2 := Lib.hid (T1.out.below HB2.out)
    have HL2 := Lib.hid (HL1.out.trans (HB2.out.mono HL1.out.size))
    go_wp2_with fail
    go_ret
    exact ⟨rfl, HL2⟩
  · by_cases h2 : 256 < n
    · have hg : decide (512 < n) = false := by simp; omega
      have hl : decide (256 < n) = true := by simp; omega
      have HL0 := Lib.hid (Below.refl w.heap.size w)
      go_enter Tryd.func11, Tryd.ntmps11
      go_wp2_with fail
      refine (awake_any w HT.out).mono ?_
      rintro e w1 ⟨rfl, HB1⟩
      have S1a := Lib.hid (HA.out.below HB1.out)
      have T1 := Lib.hid (HT.out.below HB1.out)
      have HL1 := Lib.hid (HL0.out.trans (HB1.out.mono HL0.out.size))
      go_wp2_with fail
      refine (longFn_great.one A n c w1 hnm).mono ?_
      rintro e w2 ⟨rfl, hw⟩
      rw [hg]
      have HB2 := Lib.hid (show Below w1.heap.size w1 w2 by rw [hw]; exact (Below.refl _ _).alloc (Nat.le_refl _) _)
      clear hw
      have S2a := Lib.hid (S1a.out.below HB2.out)
      have T2 := Lib.hid (T1.out.below HB2.out)
      have HL2 := Lib.hid (HL1.out.trans (HB2.out.mono HL1.out.size))
      go_wp2_with fail
      refine (longFn_long.one A n c w2 hnm).mono ?_
      rintro e w3 ⟨rfl, hw⟩
      rw [hl]
      have HB3 := Lib.hid (show Below w2.heap.size w2 w3 by rw [hw]; exact (Below.refl _ _).alloc (Nat.le_refl _) _)
      clear hw
      have S3a := Lib.hid (S2a.out.below HB3.out)
      have T3 := Lib.hid (T2.out.below HB3.out)
      have HL3 := Lib.hid (HL2.out.trans (HB3.out.mono HL2.out.size))
      go_wp2_with fail
      refine (nText_big A n c a w3 S3a.out h2).mono ?_
      rintro e w4 ⟨rfl, HB4⟩
      have S4a := Lib.hid (S3a.out.below HB4.out)
      have T4 := Lib.hid (T3.out.below HB4.out)
      have HL4 := Lib.hid (HL3.out.trans (HB4.out.mono HL3.out.size))
      go_wp2_with fail
      refine (longFn_long.one A n c w4 hnm).mono ?_
      rintro e w5 ⟨rfl, hw⟩
      rw [hl]
      have HB5 := Lib.hid (show Below w4.heap.size w4 w5 by rw [hw]; exact (Below.refl _ _).alloc (Nat.le_refl _) _)
      clear hw
      have S5a := Lib.hid (S4a.out.below HB5.out)
      have T5 := Lib.hid (T4.out.below HB5.out)
      have HL5 := Lib.hid (HL4.out.trans (HB5.out.mono HL4.out.size))
      go_wp2_with fail
      go_ret
      exact ⟨rfl, HL5⟩
    · by_cases h4 : 40 < n
      · have hg : decide (512 < n) = false := by simp; omega
        have hl : decide (256 < n) = false := by simp; omega
        have h40 : decide ((40 : Int) < n) = true := by simp; omega
        have HL0 := Lib.hid (Below.refl w.heap.size w)
        go_enter Tryd.func11, Tryd.ntmps11
        go_wp2_with fail
        refine (awake_any w HT.out).mono ?_
        rintro e w1 ⟨rfl, HB1⟩
        have S1a := Lib.hid (HA.out.below HB1.out)
        have T1 := Lib.hid (HT.out.below HB1.out)
        have HL1 := Lib.hid (HL0.out.trans (HB1.out.mono HL0.out.size))
        go_wp2_with fail
        refine (longFn_great.one A n c w1 hnm).mono ?_
        rintro e w2 ⟨rfl, hw⟩
        rw [hg]
        have HB2 := Lib.hid (show Below w1.heap.size w1 w2 by rw [hw]; exact (Below.refl _ _).alloc (Nat.le_refl _) _)
        clear hw
        have S2a := Lib.hid (S1a.out.below HB2.out)
        have T2 := Lib.hid (T1.out.below HB2.out)
        have HL2 := Lib.hid (HL1.out.trans (HB2.out.mono HL1.out.size))
        go_wp2_with fail
        refine (longFn_long.one A n c w2 hnm).mono ?_
        rintro e w3 ⟨rfl, hw⟩
        rw [hl]
        have HB3 := Lib.hid (show Below w2.heap.size w2 w3 by rw [hw]; exact (Below.refl _ _).alloc (Nat.le_refl _) _)
        clear hw
        have S3a := Lib.hid (S2a.out.below HB3.out)
        have T3 := Lib.hid (T2.out.below HB3.out)
        have HL3 := Lib.hid (HL2.out.trans (HB3.out.mono HL2.out.size))
        go_wp2_with fail
        go_ret
        exact ⟨rfl, HL3⟩
      · have hg : decide (512 < n) = false := by simp; omega
        have hl : decide (256 < n) = false := by simp; omega
        have h40 : decide ((40 : Int) < n) = false := by simp; omega
        have hdl : (Go.Lib.decDigits (val a)).length ≤ 999 + 1 := by
          have h2 := val_lt HA.out.ok
          rw [HA.out.len] at h2
          exact dec_len3 h2 (by omega)
        have HL0 := Lib.hid (Below.refl w.heap.size w)
        go_enter Tryd.func11, Tryd.ntmps11
        go_wp2_with fail
        refine (awake_any w HT.out).mono ?_
        rintro e w1 ⟨rfl, HB1⟩
        have S1a := Lib.hid (HA.out.below HB1.out)
        have T1 := Lib.hid (HT.out.below HB1.out)
        have HL1 := Lib.hid (HL0.out.trans (HB1.out.mono HL0.out.size))
        go_wp2_with fail
        refine (longFn_great.one A n c w1 hnm).mono ?_
        rintro e w2 ⟨rfl, hw⟩
        rw [hg]
        have HB2 := Lib.hid (show Below w1.heap.size w1 w2 by rw [hw]; exact (Below.refl _ _).alloc (Nat.le_refl _) _)
        clear hw
        have S2a := Lib.hid (S1a.out.below HB2.out)
        have T2 := Lib.hid (T1.out.below HB2.out)
        have HL2 := Lib.hid (HL1.out.trans (HB2.out.mono HL1.out.size))
        go_wp2_with fail
        refine (longFn_long.one A n c w2 hnm).mono ?_
        rintro e w3 ⟨rfl, hw⟩
        rw [hl]
        have HB3 := Lib.hid (show Below w2.heap.size w2 w3 by rw [hw]; exact (Below.refl _ _).alloc (Nat.le_refl _) _)
        clear hw
        have S3a := Lib.hid (S2a.out.below HB3.out)
        have T3 := Lib.hid (T2.out.below HB3.out)
        have HL3 := Lib.hid (HL2.out.trans (HB3.out.mono HL2.out.size))
        go_wp2_with fail
        refine (nText_ok A n c a w3 S3a.out (by omega) T3.out).mono ?_
        rintro e w4 ⟨rfl, HB4⟩
        have S4a := Lib.hid (S3a.out.below HB4.out)
        have T4 := Lib.hid (T3.out.below HB4.out)
        have HL4 := Lib.hid (HL3.out.trans (HB4.out.mono HL3.out.size))
        obtain ⟨ts, HTS⟩ : ∃ ts : ByteArray, Hid (ts = ⟨(Go.Lib.decDigits (val a)).toArray⟩) := ⟨_, Lib.hid rfl⟩
        have HTD := Lib.hid (show ts.data.toList = Go.Lib.decDigits (val a) by rw [HTS.out])
        have HTN := Lib.hid (show isNum ts.data.toList = true by rw [HTD.out]; exact dec_num _)
        have HTV := Lib.hid (show dval ts.data.toList = val a by rw [HTD.out]; exact dval_dec _)
        have hts : ts.size ≤ 1000 := by
          have h1 : ts.data.toList.length = ts.size := rfl
          rw [HTD.out] at h1
          omega
        rw [← HTS.out]
        go_wp2_with fail
        refine (longFn_long.one A n c w4 hnm).mono ?_
        rintro e w5 ⟨rfl, hw⟩
        rw [hl]
        have HB5 := Lib.hid (show Below w4.heap.size w4 w5 by rw [hw]; exact (Below.refl _ _).alloc (Nat.le_refl _) _)
        clear hw
        have S5a := Lib.hid (S4a.out.below HB5.out)
        have T5 := Lib.hid (T4.out.below HB5.out)
        have HL5 := Lib.hid (HL4.out.trans (HB5.out.mono HL4.out.size))
        go_wp2_with fail
        refine (nParse_ok ts w5 hts HTN.out).mono ?_
        rw [HTV.out]
        rintro e w6 ⟨P, np, lp, er, rfl, HP, HR, HB6⟩
        have S6a := Lib.hid (S5a.out.below HB6.out)
        have T6 := Lib.hid (T5.out.below HB6.out)
        have HL6 := Lib.hid (HL5.out.trans (HB6.out.mono HL5.out.size))
        have S6p := Lib.hid (HP.out.sl)
        go_wp2_with fail
        refine (rText A n c a w6 S6a.out (by omega)).mono ?_
        rintro e w7 ⟨rfl, HB7⟩
        have S7a := Lib.hid (S6a.out.below HB7.out)
        have S7p := Lib.hid (S6p.out.below HB7.out)
        have T7 := Lib.hid (T6.out.below HB7.out)
        have HL7 := Lib.hid (HL6.out.trans (HB7.out.mono HL6.out.size))
        rw [← HTS.out]
        have hteq : (ts.toList == ts.toList) = true := by simp
        go_wp2_with fail
        refine (rTrim A n c a w7 S7a.out (by omega)).mono ?_
        rintro e w8 ⟨Q, nq, cq, rfl, HQ1, HB8⟩
        have S8a := Lib.hid (S7a.out.below HB8.out)
        have S8p := Lib.hid (S7p.out.below HB8.out)
        have T8 := Lib.hid (T7.out.below HB8.out)
        have HL8 := Lib.hid (HL7.out.trans (HB8.out.mono HL7.out.size))
        have S8q := Lib.hid (HQ1.out.sl)
        go_wp2_with fail
        refine (is_any P Q np np nq cq _ lp er w8 S8p.out S8q.out HR.out).mono ?_
        rintro e w9 ⟨rfl, HQ⟩
        have HB9 := Lib.hid (show Below w8.heap.size w8 w9 by obtain ⟨q, hq⟩ := HQ.out; rw [hq]; exact below_drewN (Below.refl _ _) q)
        clear HQ
        have S9a := Lib.hid (S8a.out.below HB9.out)
        have S9p := Lib.hid (S8p.out.below HB9.out)
        have S9q := Lib.hid (S8q.out.below HB9.out)
        have T9 := Lib.hid (T8.out.below HB9.out)
        have HL9 := Lib.hid (HL8.out.trans (HB9.out.mono HL8.out.size))
        go_wp2_with fail
        go_ret
        exact ⟨rfl, HL9⟩
end Go.Proofs.YtkpicaangfibcaaDoor
