/-
  The walks of the laws NaturalSums, NaturalShifts.
-/
import Derived.Test.YtkpicaangfibcaaDoorNumY
set_option linter.unusedVariables false
namespace Go.Proofs.YtkpicaangfibcaaDoor
open Go.RowKit Go.Fl Go.Fl.Nm

set_option maxHeartbeats 1600000 in
set_option maxRecDepth 100000 in
theorem naturalSums_any (A B : Option Addr) (n c m d : Nat) (a b : List Nat) (w : World) (ht : TB w) (ha : Sl w A n c a) (hb : Sl w B m d b) :
    Calls Tryd.prog 8 #[.slice A n c, .slice B m d] w (Awk w) := by
  have HT := Lib.hid ht
  have HA := Lib.hid ha
  have HB := Lib.hid hb
  have hnm := ha.max
  have hmm := hb.max
  have hcr := cmpN_range (val a) (val b)
  have hcn := cmpN_neg (val a) (val b)
  have hcc : (cmpN (val a) (val b) != cmpN (val a) (val b)) = false := by simp
  have hbb : (((blen (val a) : Nat) : Int) != ((blen (val a) : Nat) : Int)) = false := by simp
  obtain ⟨cc, HCC⟩ : ∃ cc, Hid (cmpN (val a) (val b) = cc) := ⟨_, Lib.hid rfl⟩
  rw [HCC.out] at hcr hcn hcc
  obtain ⟨bl, HBL⟩ : ∃ bl, Hid (blen (val a) = bl) := ⟨_, Lib.hid rfl⟩
  rw [HBL.out] at hbb
  have hblb : bl ≤ 32 * n := by
    rw [← HBL.out]
    have h1 := blen_limbs (val a)
    have h2 := limbs_le_len ha.ok
    have h3 := ha.len
    omega
  clear ht ha hb
  by_cases h5 : 512 < n ∨ 512 < m
  · have hg : decide (512 < n ∨ 512 < m) = true := by simp; omega
    have HL0 := Lib.hid (Below.refl w.heap.size w)
    go_enter Tryd.func8, Tryd.ntmps8
    go_wp2_with fail
    refine (awake_any w HT.out).mono ?_
    rintro e w1 ⟨rfl, HB1⟩
    have S1a := Lib.hid (HA.out.below HB1.out)
    have S1b := Lib.hid (HB.out.below HB1.out)
    have T1 := Lib.hid (HT.out.below HB1.out)
    have HL1 := Lib.hid (HL0.out.trans (HB1.out.mono HL0.out.size))
    go_wp2_with fail
    refine (longFn_great.two A B n c m d w1 hnm hmm).mono ?_
    rintro e w2 ⟨rfl, hw⟩
    rw [hg]
    have HB2 := Lib.hid (show Below w1.heap.size w1 w2 by rw [hw]; exact (Below.refl _ _).alloc (Nat.le_refl _) _)
    clear hw
    have S2a := Lib.hid (S1a.out.below HB2.out)
    have S2b := Lib.hid (S1b.out.below HB2.out)
    have T2 := Lib.hid (T1.out.below HB2.out)
    have HL2 := Lib.hid (HL1.out.trans (HB2.out.mono HL1.out.size))
    go_wp2_with fail
    go_ret
    exact ⟨rfl, HL2⟩
  · by_cases h2 : 256 < n ∨ 256 < m
    · have hg : decide (512 < n ∨ 512 < m) = false := by simp; omega
      have hl : decide (256 < n ∨ 256 < m) = true := by simp; omega
      have HL0 := Lib.hid (Below.refl w.heap.size w)
      go_enter Tryd.func8, Tryd.ntmps8
      go_wp2_with fail
      refine (awake_any w HT.out).mono ?_
      rintro e w1 ⟨rfl, HB1⟩
      have S1a := Lib.hid (HA.out.below HB1.out)
      have S1b := Lib.hid (HB.out.below HB1.out)
      have T1 := Lib.hid (HT.out.below HB1.out)
      have HL1 := Lib.hid (HL0.out.trans (HB1.out.mono HL0.out.size))
      go_wp2_with fail
      refine (longFn_great.two A B n c m d w1 hnm hmm).mono ?_
      rintro e w2 ⟨rfl, hw⟩
      rw [hg]
      have HB2 := Lib.hid (show Below w1.heap.size w1 w2 by rw [hw]; exact (Below.refl _ _).alloc (Nat.le_refl _) _)
      clear hw
      have S2a := Lib.hid (S1a.out.below HB2.out)
      have S2b := Lib.hid (S1b.out.below HB2.out)
      have T2 := Lib.hid (T1.out.below HB2.out)
      have HL2 := Lib.hid (HL1.out.trans (HB2.out.mono HL1.out.size))
      go_wp2_with fail
      refine (cmp_any A B n c m d a b w2 S2a.out S2b.out).mono ?_
      rw [HCC.out]
      rintro e w3 ⟨rfl, q, hq⟩
      have HB3 := Lib.hid (show Below w2.heap.size w2 w3 by rw [hq]; exact below_drewN (Below.refl _ _) q)
      clear hq
      have S3a := Lib.hid (S2a.out.below HB3.out)
      have S3b := Lib.hid (S2b.out.below HB3.out)
      have T3 := Lib.hid (T2.out.below HB3.out)
      have HL3 := Lib.hid (HL2.out.trans (HB3.out.mono HL2.out.size))
      go_wp2_with fail
      refine (rCmp A B n c m d a b w3 S3a.out S3b.out (by omega) (by omega)).mono ?_
      rw [HCC.out]
      rintro e w' ⟨rfl, rfl⟩
      go_wp2_with fail
      refine (bits_any A n c a w3 S3a.out (by omega)).mono ?_
      rw [HBL.out]
      rintro e w' ⟨rfl, rfl⟩
      go_wp2_with fail
      refine (rBits A n c a w3 S3a.out (by omega)).mono ?_
      rw [HBL.out]
      rintro e w' ⟨rfl, rfl⟩
      go_wp2_with fail
      refine (nAdd_big A B n c m d a b w3 S3a.out S3b.out h2).mono ?_
      rintro e w4 ⟨rfl, HB4⟩
      have S4a := Lib.hid (S3a.out.below HB4.out)
      have S4b := Lib.hid (S3b.out.below HB4.out)
      have T4 := Lib.hid (T3.out.below HB4.out)
      have HL4 := Lib.hid (HL3.out.trans (HB4.out.mono HL3.out.size))
      go_wp2_with fail
      refine (nSub_big A B n c m d a b w4 S4a.out S4b.out h2).mono ?_
      rintro e w5 ⟨rfl, HB5⟩
      have S5a := Lib.hid (S4a.out.below HB5.out)
      have S5b := Lib.hid (S4b.out.below HB5.out)
      have T5 := Lib.hid (T4.out.below HB5.out)
      have HL5 := Lib.hid (HL4.out.trans (HB5.out.mono HL4.out.size))
      go_wp2_with fail
      refine (longFn_long.two A B n c m d w5 hnm hmm).mono ?_
      rintro e w6 ⟨rfl, hw⟩
      rw [hl]
      have HB6 := Lib.hid (show Below w5.heap.size w5 w6 by rw [hw]; exact (Below.refl _ _).alloc (Nat.le_refl _) _)
      clear hw
      have S6a := Lib.hid (S5a.out.below HB6.out)
      have S6b := Lib.hid (S5b.out.below HB6.out)
      have T6 := Lib.hid (T5.out.below HB6.out)
      have HL6 := Lib.hid (HL5.out.trans (HB6.out.mono HL5.out.size))
      go_wp2_with fail
      refine (none_any 9 w6 (by omega)).mono ?_
      rintro e w' ⟨rfl, rfl⟩
      go_wp2_with fail
      refine (none_any 9 w6 (by omega)).mono ?_
      rintro e w' ⟨rfl, rfl⟩
      go_wp2_with fail
      go_ret
      exact ⟨rfl, HL6⟩
    · by_cases h3 : val a < val b
      · have hg : decide (512 < n ∨ 512 < m) = false := by simp; omega
        have hl : decide (256 < n ∨ 256 < m) = false := by simp; omega
        have hlt : decide (cc < 0) = true := by simpa using hcn.2 h3
        have HL0 := Lib.hid (Below.refl w.heap.size w)
        go_enter Tryd.func8, Tryd.ntmps8
        go_wp2_with fail
        refine (awake_any w HT.out).mono ?_
        rintro e w1 ⟨rfl, HB1⟩
        have S1a := Lib.hid (HA.out.below HB1.out)
        have S1b := Lib.hid (HB.out.below HB1.out)
        have T1 := Lib.hid (HT.out.below HB1.out)
        have HL1 := Lib.hid (HL0.out.trans (HB1.out.mono HL0.out.size))
        go_wp2_with fail
        refine (longFn_great.two A B n c m d w1 hnm hmm).mono ?_
        rintro e w2 ⟨rfl, hw⟩
        rw [hg]
        have HB2 := Lib.hid (show Below w1.heap.size w1 w2 by rw [hw]; exact (Below.refl _ _).alloc (Nat.le_refl _) _)
        clear hw
        have S2a := Lib.hid (S1a.out.below HB2.out)
        have S2b := Lib.hid (S1b.out.below HB2.out)
        have T2 := Lib.hid (T1.out.below HB2.out)
        have HL2 := Lib.hid (HL1.out.trans (HB2.out.mono HL1.out.size))
        go_wp2_with fail
        refine (cmp_any A B n c m d a b w2 S2a.out S2b.out).mono ?_
        rw [HCC.out]
        rintro e w3 ⟨rfl, q, hq⟩
        have HB3 := Lib.hid (show Below w2.heap.size w2 w3 by rw [hq]; exact below_drewN (Below.refl _ _) q)
        clear hq
        have S3a := Lib.hid (S2a.out.below HB3.out)
        have S3b := Lib.hid (S2b.out.below HB3.out)
        have T3 := Lib.hid (T2.out.below HB3.out)
        have HL3 := Lib.hid (HL2.out.trans (HB3.out.mono HL2.out.size))
        go_wp2_with fail
        refine (rCmp A B n c m d a b w3 S3a.out S3b.out (by omega) (by omega)).mono ?_
        rw [HCC.out]
        rintro e w' ⟨rfl, rfl⟩
        go_wp2_with fail
        refine (bits_any A n c a w3 S3a.out (by omega)).mono ?_
        rw [HBL.out]
        rintro e w' ⟨rfl, rfl⟩
        go_wp2_with fail
        refine (rBits A n c a w3 S3a.out (by omega)).mono ?_
        rw [HBL.out]
        rintro e w' ⟨rfl, rfl⟩
        go_wp2_with fail
        refine (nAdd_ok A B n c m d a b w3 S3a.out S3b.out (by omega) (by omega)).mono ?_
        rintro e w4 ⟨S, ns, ls, er, rfl, HS, HRS, HB4⟩
        have S4a := Lib.hid (S3a.out.below HB4.out)
        have S4b := Lib.hid (S3b.out.below HB4.out)
        have T4 := Lib.hid (T3.out.below HB4.out)
        have HL4 := Lib.hid (HL3.out.trans (HB4.out.mono HL3.out.size))
        have S4s := Lib.hid (HS.out.sl)
        go_wp2_with fail
        refine (nSub_less A B n c m d a b w4 S4a.out S4b.out (by omega) (by omega) h3).mono ?_
        rintro e w5 ⟨rfl, HB5⟩
        have S5a := Lib.hid (S4a.out.below HB5.out)
        have S5b := Lib.hid (S4b.out.below HB5.out)
        have S5s := Lib.hid (S4s.out.below HB5.out)
        have T5 := Lib.hid (T4.out.below HB5.out)
        have HL5 := Lib.hid (HL4.out.trans (HB5.out.mono HL4.out.size))
        go_wp2_with fail
        refine (longFn_long.two A B n c m d w5 hnm hmm).mono ?_
        rintro e w6 ⟨rfl, hw⟩
        rw [hl]
        have HB6 := Lib.hid (show Below w5.heap.size w5 w6 by rw [hw]; exact (Below.refl _ _).alloc (Nat.le_refl _) _)
        clear hw
        have S6a := Lib.hid (S5a.out.below HB6.out)
        have S6b := Lib.hid (S5b.out.below HB6.out)
        have S6s := Lib.hid (S5s.out.below HB6.out)
        have T6 := Lib.hid (T5.out.below HB6.out)
        have HL6 := Lib.hid (HL5.out.trans (HB6.out.mono HL5.out.size))
        go_wp2_with fail
        refine (rAdd A B n c m d a b w6 S6a.out S6b.out (by omega) (by omega)).mono ?_
        rintro e w7 ⟨Q, nq, cq, rfl, HQ1, HB7⟩
        have S7a := Lib.hid (S6a.out.below HB7.out)
        have S7b := Lib.hid (S6b.out.below HB7.out)
        have S7s := Lib.hid (S6s.out.below HB7.out)
        have T7 := Lib.hid (T6.out.below HB7.out)
        have HL7 := Lib.hid (HL6.out.trans (HB7.out.mono HL6.out.size))
        have S7q := Lib.hid (HQ1.out.sl)
        go_wp2_with fail
        refine (is_any S Q ns ns nq cq _ ls er w7 S7s.out S7q.out HRS.out).mono ?_
        rintro e w8 ⟨rfl, HQ⟩
        have HB8 := Lib.hid (show Below w7.heap.size w7 w8 by obtain ⟨q, hq⟩ := HQ.out; rw [hq]; exact below_drewN (Below.refl _ _) q)
        clear HQ
        have S8a := Lib.hid (S7a.out.below HB8.out)
        have S8b := Lib.hid (S7b.out.below HB8.out)
        have S8s := Lib.hid (S7s.out.below HB8.out)
        have S8q := Lib.hid (S7q.out.below HB8.out)
        have T8 := Lib.hid (T7.out.below HB8.out)
        have HL8 := Lib.hid (HL7.out.trans (HB8.out.mono HL7.out.size))
        go_wp2_with fail
        refine (rCmp A B n c m d a b w8 S8a.out S8b.out (by omega) (by omega)).mono ?_
        rw [HCC.out]
        rintro e w' ⟨rfl, rfl⟩
        go_wp2_with fail
        refine (none_any 2 w8 (by omega)).mono ?_
        rintro e w' ⟨rfl, rfl⟩
        go_wp2_with fail
        go_ret
        exact ⟨rfl, HL8⟩
      · have hg : decide (512 < n ∨ 512 < m) = false := by simp; omega
        have hl : decide (256 < n ∨ 256 < m) = false := by simp; omega
        have hlt : decide (cc < 0) = false := by simp only [decide_eq_false_iff_not]; intro h; exact h3 (hcn.1 h)
        have HL0 := Lib.hid (Below.refl w.heap.size w)
        go_enter Tryd.func8, Tryd.ntmps8
        go_wp2_with fail
        refine (awake_any w HT.out).mono ?_
        rintro e w1 ⟨rfl, HB1⟩
        have S1a := Lib.hid (HA.out.below HB1.out)
        have S1b := Lib.hid (HB.out.below HB1.out)
        have T1 := Lib.hid (HT.out.below HB1.out)
        have HL1 := Lib.hid (HL0.out.trans (HB1.out.mono HL0.out.size))
        go_wp2_with fail
        refine (longFn_great.two A B n c m d w1 hnm hmm).mono ?_
        rintro e w2 ⟨rfl, hw⟩
        rw [hg]
        have HB2 := Lib.hid (show Below w1.heap.size w1 w2 by rw [hw]; exact (Below.refl _ _).alloc (Nat.le_refl _) _)
        clear hw
        have S2a := Lib.hid (S1a.out.below HB2.out)
        have S2b := Lib.hid (S1b.out.below HB2.out)
        have T2 := Lib.hid (T1.out.below HB2.out)
        have HL2 := Lib.hid (HL1.out.trans (HB2.out.mono HL1.out.size))
        go_wp2_with fail
        refine (cmp_any A B n c m d a b w2 S2a.out S2b.out).mono ?_
        rw [HCC.out]
        rintro e w3 ⟨rfl, q, hq⟩
        have HB3 := Lib.hid (show Below w2.heap.size w2 w3 by rw [hq]; exact below_drewN (Below.refl _ _) q)
        clear hq
        have S3a := Lib.hid (S2a.out.below HB3.out)
        have S3b := Lib.hid (S2b.out.below HB3.out)
        have T3 := Lib.hid (T2.out.below HB3.out)
        have HL3 := Lib.hid (HL2.out.trans (HB3.out.mono HL2.out.size))
        go_wp2_with fail
        refine (rCmp A B n c m d a b w3 S3a.out S3b.out (by omega) (by omega)).mono ?_
        rw [HCC.out]
        rintro e w' ⟨rfl, rfl⟩
        go_wp2_with fail
        refine (bits_any A n c a w3 S3a.out (by omega)).mono ?_
        rw [HBL.out]
        rintro e w' ⟨rfl, rfl⟩
        go_wp2_with fail
        refine (rBits A n c a w3 S3a.out (by omega)).mono ?_
        rw [HBL.out]
        rintro e w' ⟨rfl, rfl⟩
        go_wp2_with fail
        refine (nAdd_ok A B n c m d a b w3 S3a.out S3b.out (by omega) (by omega)).mono ?_
        rintro e w4 ⟨S, ns, ls, er, rfl, HS, HRS, HB4⟩
        have S4a := Lib.hid (S3a.out.below HB4.out)
        have S4b := Lib.hid (S3b.out.below HB4.out)
        have T4 := Lib.hid (T3.out.below HB4.out)
        have HL4 := Lib.hid (HL3.out.trans (HB4.out.mono HL3.out.size))
        have S4s := Lib.hid (HS.out.sl)
        go_wp2_with fail
        refine (nSub_ok A B n c m d a b w4 S4a.out S4b.out (by omega) (by omega) (by omega)).mono ?_
        rintro e w5 ⟨D, nd, ld, fr, rfl, HD, HRD, HB5⟩
        have S5a := Lib.hid (S4a.out.below HB5.out)
        have S5b := Lib.hid (S4b.out.below HB5.out)
        have S5s := Lib.hid (S4s.out.below HB5.out)
        have T5 := Lib.hid (T4.out.below HB5.out)
        have HL5 := Lib.hid (HL4.out.trans (HB5.out.mono HL4.out.size))
        have S5d := Lib.hid (HD.out.sl)
        go_wp2_with fail
        refine (longFn_long.two A B n c m d w5 hnm hmm).mono ?_
        rintro e w6 ⟨rfl, hw⟩
        rw [hl]
        have HB6 := Lib.hid (show Below w5.heap.size w5 w6 by rw [hw]; exact (Below.refl _ _).alloc (Nat.le_refl _) _)
        clear hw
        have S6a := Lib.hid (S5a.out.below HB6.out)
        have S6b := Lib.hid (S5b.out.below HB6.out)
        have S6s := Lib.hid (S5s.out.below HB6.out)
        have S6d := Lib.hid (S5d.out.below HB6.out)
        have T6 := Lib.hid (T5.out.below HB6.out)
        have HL6 := Lib.hid (HL5.out.trans (HB6.out.mono HL5.out.size))
        go_wp2_with fail
        refine (rAdd A B n c m d a b w6 S6a.out S6b.out (by omega) (by omega)).mono ?_
        rintro e w7 ⟨Q, nq, cq, rfl, HQ1, HB7⟩
        have S7a := Lib.hid (S6a.out.below HB7.out)
        have S7b := Lib.hid (S6b.out.below HB7.out)
        have S7s := Lib.hid (S6s.out.below HB7.out)
        have S7d := Lib.hid (S6d.out.below HB7.out)
        have T7 := Lib.hid (T6.out.below HB7.out)
        have HL7 := Lib.hid (HL6.out.trans (HB7.out.mono HL6.out.size))
        have S7q := Lib.hid (HQ1.out.sl)
        go_wp2_with fail
        refine (is_any S Q ns ns nq cq _ ls er w7 S7s.out S7q.out HRS.out).mono ?_
        rintro e w8 ⟨rfl, HQ⟩
        have HB8 := Lib.hid (show Below w7.heap.size w7 w8 by obtain ⟨q, hq⟩ := HQ.out; rw [hq]; exact below_drewN (Below.refl _ _) q)
        clear HQ
        have S8a := Lib.hid (S7a.out.below HB8.out)
        have S8b := Lib.hid (S7b.out.below HB8.out)
        have S8s := Lib.hid (S7s.out.below HB8.out)
        have S8d := Lib.hid (S7d.out.below HB8.out)
        have S8q := Lib.hid (S7q.out.below HB8.out)
        have T8 := Lib.hid (T7.out.below HB8.out)
        have HL8 := Lib.hid (HL7.out.trans (HB8.out.mono HL7.out.size))
        go_wp2_with fail
        refine (rCmp A B n c m d a b w8 S8a.out S8b.out (by omega) (by omega)).mono ?_
        rw [HCC.out]
        rintro e w' ⟨rfl, rfl⟩
        go_wp2_with fail
        refine (rSub A B n c m d a b w8 S8a.out S8b.out (by omega) (by omega) (by omega)).mono ?_
        rintro e w9 ⟨R, nr, cr, rfl, HR1, HB9⟩
        have S9a := Lib.hid (S8a.out.below HB9.out)
        have S9b := Lib.hid (S8b.out.below HB9.out)
        have S9s := Lib.hid (S8s.out.below HB9.out)
        have S9d := Lib.hid (S8d.out.below HB9.out)
        have S9q := Lib.hid (S8q.out.below HB9.out)
        have T9 := Lib.hid (T8.out.below HB9.out)
        have HL9 := Lib.hid (HL8.out.trans (HB9.out.mono HL8.out.size))
        have S9r := Lib.hid (HR1.out.sl)
        go_wp2_with fail
        refine (is_any D R nd nd nr cr _ ld fr w9 S9d.out S9r.out HRD.out).mono ?_
        rintro e w10 ⟨rfl, HQ⟩
        have HB10 := Lib.hid (show Below w9.heap.size w9 w10 by obtain ⟨q, hq⟩ := HQ.out; rw [hq]; exact below_drewN (Below.refl _ _) q)
        clear HQ
        have S10a := Lib.hid (S9a.out.below HB10.out)
        have S10b := Lib.hid (S9b.out.below HB10.out)
        have S10s := Lib.hid (S9s.out.below HB10.out)
        have S10d := Lib.hid (S9d.out.below HB10.out)
        have S10q := Lib.hid (S9q.out.below HB10.out)
        have S10r := Lib.hid (S9r.out.below HB10.out)
        have T10 := Lib.hid (T9.out.below HB10.out)
        have HL10 := Lib.hid (HL9.out.trans (HB10.out.mono HL9.out.size))
        go_wp2_with fail
        go_ret
        exact ⟨rfl, HL10⟩

set_option maxHeartbeats 1600000 in
set_option maxRecDepth 100000 in
theorem naturalShifts_any (A : Option Addr) (n c : Nat) (k : Int) (a : List Nat) (w : World) (ht : TB w) (ha : Sl w A n c a) (hk : (Lit.int .i64 k).wf = true) :
    Calls Tryd.prog 7 #[.slice A n c, .int .i64 k] w (Awk w) := by
  have HT := Lib.hid ht
  have HA := Lib.hid ha
  have hnm := ha.max
  have hkb : -9223372036854775808 ≤ k ∧ k ≤ 9223372036854775807 := by
    simp [Lit.wf, IntKind.min, IntKind.max, IntKind.signed, IntKind.bits] at hk
    omega
  clear ht ha hk
  by_cases h5 : 512 < n
  · have hg : decide (512 < n) = true := by simp; omega
    have HL0 := Lib.hid (Below.refl w.heap.size w)
    go_enter Tryd.func7, Tryd.ntmps7
    go_wp2_with fail
    refine (awake_any w HT.out).mono ?_
    rintro e w1 ⟨rfl, HB1⟩
    have S1a := Lib.hid (HA.out.below HB1.out)
    have T1 := Lib.hid (HT.out.below HB1.out)
    have HL1 := Lib.hid (HL0.out.trans (HB1.out.mono HL0.out.size))
    go_wp2_with fail
    refine (longFn_great.one A n c w1 hnm).mono ?_
    rintro e w2 ⟨rfl, hw⟩
    rw [hg]
    have HB2 := Lib.hid (show Below w1.heap.size w1 w2 by rw [hw]; exact (Below.refl _ _).alloc (Nat.le_refl _) _)
    clear hw
    have S2a := Lib.hid (S1a.out.below HB2.out)
    have T2 := Lib.hid (T1.out.below HB2.out)
    have HL2 := Lib.hid (HL1.out.trans (HB2.out.mono HL1.out.size))
    go_wp2_with fail
    go_ret
    exact ⟨rfl, HL2⟩
  · by_cases h2 : 256 < n
    · have hg : decide (512 < n) = false := by simp; omega
      have hl : decide (256 < n) = true := by simp; omega
      have HL0 := Lib.hid (Below.refl w.heap.size w)
      go_enter Tryd.func7, Tryd.ntmps7
      go_wp2_with fail
      refine (awake_any w HT.out).mono ?_
      rintro e w1 ⟨rfl, HB1⟩
      have S1a := Lib.hid (HA.out.below HB1.out)
      have T1 := Lib.hid (HT.out.below HB1.out)
      have HL1 := Lib.hid (HL0.out.trans (HB1.out.mono HL0.out.size))
      go_wp2_with fail
      refine (longFn_great.one A n c w1 hnm).mono ?_
      rintro e w2 ⟨rfl, hw⟩
      rw [hg]
      have HB2 := Lib.hid (show Below w1.heap.size w1 w2 by rw [hw]; exact (Below.refl _ _).alloc (Nat.le_refl _) _)
      clear hw
      have S2a := Lib.hid (S1a.out.below HB2.out)
      have T2 := Lib.hid (T1.out.below HB2.out)
      have HL2 := Lib.hid (HL1.out.trans (HB2.out.mono HL1.out.size))
      go_wp2_with fail
      refine (nShl_big A n c k a w2 S2a.out h2).mono ?_
      rintro e w3 ⟨rfl, HB3⟩
      have S3a := Lib.hid (S2a.out.below HB3.out)
      have T3 := Lib.hid (T2.out.below HB3.out)
      have HL3 := Lib.hid (HL2.out.trans (HB3.out.mono HL2.out.size))
      go_wp2_with fail
      refine (nShr_big A n c k a w3 S3a.out h2).mono ?_
      rintro e w4 ⟨rfl, HB4⟩
      have S4a := Lib.hid (S3a.out.below HB4.out)
      have T4 := Lib.hid (T3.out.below HB4.out)
      have HL4 := Lib.hid (HL3.out.trans (HB4.out.mono HL3.out.size))
      go_wp2_with fail
      refine (longFn_long.one A n c w4 hnm).mono ?_
      rintro e w5 ⟨rfl, hw⟩
      rw [hl]
      have HB5 := Lib.hid (show Below w4.heap.size w4 w5 by rw [hw]; exact (Below.refl _ _).alloc (Nat.le_refl _) _)
      clear hw
      have S5a := Lib.hid (S4a.out.below HB5.out)
      have T5 := Lib.hid (T4.out.below HB5.out)
      have HL5 := Lib.hid (HL4.out.trans (HB5.out.mono HL4.out.size))
      go_wp2_with fail
      refine (none_any 9 w5 (by omega)).mono ?_
      rintro e w' ⟨rfl, rfl⟩
      go_wp2_with fail
      refine (none_any 9 w5 (by omega)).mono ?_
      rintro e w' ⟨rfl, rfl⟩
      go_wp2_with fail
      go_ret
      exact ⟨rfl, HL5⟩
    · by_cases h3 : k < 0 ∨ 65536 < k
      · by_cases h4 : k < 0
        · have hg : decide (512 < n) = false := by simp; omega
          have hl : decide (256 < n) = false := by simp; omega
          have hk0 : decide (k < 0) = true := by simp; omega
          have HL0 := Lib.hid (Below.refl w.heap.size w)
          go_enter Tryd.func7, Tryd.ntmps7
          go_wp2_with fail
          refine (awake_any w HT.out).mono ?_
          rintro e w1 ⟨rfl, HB1⟩
          have S1a := Lib.hid (HA.out.below HB1.out)
          have T1 := Lib.hid (HT.out.below HB1.out)
          have HL1 := Lib.hid (HL0.out.trans (HB1.out.mono HL0.out.size))
          go_wp2_with fail
          refine (longFn_great.one A n c w1 hnm).mono ?_
          rintro e w2 ⟨rfl, hw⟩
          rw [hg]
          have HB2 := Lib.hid (show Below w1.heap.size w1 w2 by rw [hw]; exact (Below.refl _ _).alloc (Nat.le_refl _) _)
          clear hw
          have S2a := Lib.hid (S1a.out.below HB2.out)
          have T2 := Lib.hid (T1.out.below HB2.out)
          have HL2 := Lib.hid (HL1.out.trans (HB2.out.mono HL1.out.size))
          go_wp2_with fail
          refine (nShl_range A n c k a w2 S2a.out (by omega) h3 hkb.1 hkb.2).mono ?_
          rintro e w3 ⟨rfl, HB3⟩
          have S3a := Lib.hid (S2a.out.below HB3.out)
          have T3 := Lib.hid (T2.out.below HB3.out)
          have HL3 := Lib.hid (HL2.out.trans (HB3.out.mono HL2.out.size))
          go_wp2_with fail
          refine (nShr_range A n c k a w3 S3a.out (by omega) h3 hkb.1 hkb.2).mono ?_
          rintro e w4 ⟨rfl, HB4⟩
          have S4a := Lib.hid (S3a.out.below HB4.out)
          have T4 := Lib.hid (T3.out.below HB4.out)
          have HL4 := Lib.hid (HL3.out.trans (HB4.out.mono HL3.out.size))
          go_wp2_with fail
          refine (longFn_long.one A n c w4 hnm).mono ?_
          rintro e w5 ⟨rfl, hw⟩
          rw [hl]
          have HB5 := Lib.hid (show Below w4.heap.size w4 w5 by rw [hw]; exact (Below.refl _ _).alloc (Nat.le_refl _) _)
          clear hw
          have S5a := Lib.hid (S4a.out.below HB5.out)
          have T5 := Lib.hid (T4.out.below HB5.out)
          have HL5 := Lib.hid (HL4.out.trans (HB5.out.mono HL4.out.size))
          go_wp2_with fail
          refine (none_any 2 w5 (by omega)).mono ?_
          rintro e w' ⟨rfl, rfl⟩
          go_wp2_with fail
          refine (none_any 2 w5 (by omega)).mono ?_
          rintro e w' ⟨rfl, rfl⟩
          go_wp2_with fail
          go_ret
          exact ⟨rfl, HL5⟩
        · have hg : decide (512 < n) = false := by simp; omega
          have hl : decide (256 < n) = false := by simp; omega
          have hk0 : decide (k < 0) = false := by simp; omega
          have hk1 : decide (65536 < k) = true := by simp; omega
          have HL0 := Lib.hid (Below.refl w.heap.size w)
          go_enter Tryd.func7, Tryd.ntmps7
          go_wp2_with fail
          refine (awake_any w HT.out).mono ?_
          rintro e w1 ⟨rfl, HB1⟩
          have S1a := Lib.hid (HA.out.below HB1.out)
          have T1 := Lib.hid (HT.out.below HB1.out)
          have HL1 := Lib.hid (HL0.out.trans (HB1.out.mono HL0.out.size))
          go_wp2_with fail
          refine (longFn_great.one A n c w1 hnm).mono ?_
          rintro e w2 ⟨rfl, hw⟩
          rw [hg]
          have HB2 := Lib.hid (show Below w1.heap.size w1 w2 by rw [hw]; exact (Below.refl _ _).alloc (Nat.le_refl _) _)
          clear hw
          have S2a := Lib.hid (S1a.out.below HB2.out)
          have T2 := Lib.hid (T1.out.below HB2.out)
          have HL2 := Lib.hid (HL1.out.trans (HB2.out.mono HL1.out.size))
          go_wp2_with fail
          refine (nShl_range A n c k a w2 S2a.out (by omega) h3 hkb.1 hkb.2).mono ?_
          rintro e w3 ⟨rfl, HB3⟩
          have S3a := Lib.hid (S2a.out.below HB3.out)
          have T3 := Lib.hid (T2.out.below HB3.out)
          have HL3 := Lib.hid (HL2.out.trans (HB3.out.mono HL2.out.size))
          go_wp2_with fail
          refine (nShr_range A n c k a w3 S3a.out (by omega) h3 hkb.1 hkb.2).mono ?_
          rintro e w4 ⟨rfl, HB4⟩
          have S4a := Lib.hid (S3a.out.below HB4.out)
          have T4 := Lib.hid (T3.out.below HB4.out)
          have HL4 := Lib.hid (HL3.out.trans (HB4.out.mono HL3.out.size))
          go_wp2_with fail
          refine (longFn_long.one A n c w4 hnm).mono ?_
          rintro e w5 ⟨rfl, hw⟩
          rw [hl]
          have HB5 := Lib.hid (show Below w4.heap.size w4 w5 by rw [hw]; exact (Below.refl _ _).alloc (Nat.le_refl _) _)
          clear hw
          have S5a := Lib.hid (S4a.out.below HB5.out)
          have T5 := Lib.hid (T4.out.below HB5.out)
          have HL5 := Lib.hid (HL4.out.trans (HB5.out.mono HL4.out.size))
          go_wp2_with fail
          refine (none_any 2 w5 (by omega)).mono ?_
          rintro e w' ⟨rfl, rfl⟩
          go_wp2_with fail
          refine (none_any 2 w5 (by omega)).mono ?_
          rintro e w' ⟨rfl, rfl⟩
          go_wp2_with fail
          go_ret
          exact ⟨rfl, HL5⟩
      · obtain ⟨p, rfl⟩ : ∃ p : Nat, k = p := ⟨k.toNat, by omega⟩
        have hg : decide (512 < n) = false := by simp; omega
        have hl : decide (256 < n) = false := by simp; omega
        have hk0 : decide ((p : Int) < 0) = false := by simp
        have hk1 : decide (65536 < (p : Int)) = false := by simp; omega
        have HL0 := Lib.hid (Below.refl w.heap.size w)
        go_enter Tryd.func7, Tryd.ntmps7
        go_wp2_with fail
        refine (awake_any w HT.out).mono ?_
        rintro e w1 ⟨rfl, HB1⟩
        have S1a := Lib.hid (HA.out.below HB1.out)
        have T1 := Lib.hid (HT.out.below HB1.out)
        have HL1 := Lib.hid (HL0.out.trans (HB1.out.mono HL0.out.size))
        go_wp2_with fail
        refine (longFn_great.one A n c w1 hnm).mono ?_
        rintro e w2 ⟨rfl, hw⟩
        rw [hg]
        have HB2 := Lib.hid (show Below w1.heap.size w1 w2 by rw [hw]; exact (Below.refl _ _).alloc (Nat.le_refl _) _)
        clear hw
        have S2a := Lib.hid (S1a.out.below HB2.out)
        have T2 := Lib.hid (T1.out.below HB2.out)
        have HL2 := Lib.hid (HL1.out.trans (HB2.out.mono HL1.out.size))
        go_wp2_with fail
        refine (nShl_ok A n c p a w2 S2a.out (by omega) (by omega) (by omega)).mono ?_
        rw [Int.toNat_natCast]
        rintro e w3 ⟨S, ns, ls, er, rfl, HS, HRS, HB3⟩
        have S3a := Lib.hid (S2a.out.below HB3.out)
        have T3 := Lib.hid (T2.out.below HB3.out)
        have HL3 := Lib.hid (HL2.out.trans (HB3.out.mono HL2.out.size))
        have S3s := Lib.hid (HS.out.sl)
        go_wp2_with fail
        refine (nShr_ok A n c p a w3 S3a.out (by omega) (by omega) (by omega)).mono ?_
        rw [Int.toNat_natCast]
        rintro e w4 ⟨D, nd, ld, fr, rfl, HD, HRD, HB4⟩
        have S4a := Lib.hid (S3a.out.below HB4.out)
        have S4s := Lib.hid (S3s.out.below HB4.out)
        have T4 := Lib.hid (T3.out.below HB4.out)
        have HL4 := Lib.hid (HL3.out.trans (HB4.out.mono HL3.out.size))
        have S4d := Lib.hid (HD.out.sl)
        go_wp2_with fail
        refine (longFn_long.one A n c w4 hnm).mono ?_
        rintro e w5 ⟨rfl, hw⟩
        rw [hl]
        have HB5 := Lib.hid (show Below w4.heap.size w4 w5 by rw [hw]; exact (Below.refl _ _).alloc (Nat.le_refl _) _)
        clear hw
        have S5a := Lib.hid (S4a.out.below HB5.out)
        have S5s := Lib.hid (S4s.out.below HB5.out)
        have S5d := Lib.hid (S4d.out.below HB5.out)
        have T5 := Lib.hid (T4.out.below HB5.out)
        have HL5 := Lib.hid (HL4.out.trans (HB5.out.mono HL4.out.size))
        go_wp2_with fail
        refine (rShl A n c p a w5 S5a.out (by omega) (by omega)).mono ?_
        rintro e w6 ⟨Q, nq, cq, rfl, HQ1, HB6⟩
        have S6a := Lib.hid (S5a.out.below HB6.out)
        have S6s := Lib.hid (S5s.out.below HB6.out)
        have S6d := Lib.hid (S5d.out.below HB6.out)
        have T6 := Lib.hid (T5.out.below HB6.out)
        have HL6 := Lib.hid (HL5.out.trans (HB6.out.mono HL5.out.size))
        have S6q := Lib.hid (HQ1.out.sl)
        go_wp2_with fail
        refine (is_any S Q ns ns nq cq _ ls er w6 S6s.out S6q.out HRS.out).mono ?_
        rintro e w7 ⟨rfl, HQ⟩
        have HB7 := Lib.hid (show Below w6.heap.size w6 w7 by obtain ⟨q, hq⟩ := HQ.out; rw [hq]; exact below_drewN (Below.refl _ _) q)
        clear HQ
        have S7a := Lib.hid (S6a.out.below HB7.out)
        have S7s := Lib.hid (S6s.out.below HB7.out)
        have S7d := Lib.hid (S6d.out.below HB7.out)
        have S7q := Lib.hid (S6q.out.below HB7.out)
        have T7 := Lib.hid (T6.out.below HB7.out)
        have HL7 := Lib.hid (HL6.out.trans (HB7.out.mono HL6.out.size))
        go_wp2_with fail
        refine (rShr A n c p a w7 S7a.out (by omega) (by omega)).mono ?_
        rintro e w8 ⟨R, nr, cr, rfl, HR1, HB8⟩
        have S8a := Lib.hid (S7a.out.below HB8.out)
        have S8s := Lib.hid (S7s.out.below HB8.out)
        have S8d := Lib.hid (S7d.out.below HB8.out)
        have S8q := Lib.hid (S7q.out.below HB8.out)
        have T8 := Lib.hid (T7.out.below HB8.out)
        have HL8 := Lib.hid (HL7.out.trans (HB8.out.mono HL7.out.size))
        have S8r := Lib.hid (HR1.out.sl)
        go_wp2_with fail
        refine (is_any D R nd nd nr cr _ ld fr w8 S8d.out S8r.out HRD.out).mono ?_
        rintro e w9 ⟨rfl, HQ⟩
        have HB9 := Lib.hid (show Below w8.heap.size w8 w9 by obtain ⟨q, hq⟩ := HQ.out; rw [hq]; exact below_drewN (Below.refl _ _) q)
        clear HQ
        have S9a := Lib.hid (S8a.out.below HB9.out)
        have S9s := Lib.hid (S8s.out.below HB9.out)
        have S9d := Lib.hid (S8d.out.below HB9.out)
        have S9q := Lib.hid (S8q.out.below HB9.out)
        have S9r := Lib.hid (S8r.out.below HB9.out)
        have T9 := Lib.hid (T8.out.below HB9.out)
        have HL9 := Lib.hid (HL8.out.trans (HB9.out.mono HL8.out.size))
        go_wp2_with fail
        go_ret
        exact ⟨rfl, HL9⟩
end Go.Proofs.YtkpicaangfibcaaDoor
