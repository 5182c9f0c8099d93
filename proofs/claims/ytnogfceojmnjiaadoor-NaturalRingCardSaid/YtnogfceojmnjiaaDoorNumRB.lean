/-
  The walk of the law NaturalRing.
-/
import Derived.Test.YtnogfceojmnjiaaDoorNumRA
import Derived.Deep.RegionHeld3
import Derived.Outline
import Derived.Laws.EntriesVeiled
set_option linter.unusedVariables false
namespace Go.Fl
open Go.RowKit
theorem below_dr (w : World) : Below w.heap.size w w.drew := below_drewN (Below.refl _ _) 1
theorem Blk.belowW {w w' : World} {g : Nat} {t : TypeId} {cs : Array Value} (h : Blk w g t cs) (hb : Below w.heap.size w w') : Blk w' g t cs := h.below hb h.lt
end Go.Fl
namespace Go.Fl.Nm
open Go.RowKit
theorem Sl.belowW {w w' : World} {A : Option Addr} {n c : Nat} {l : List Nat} (h : Sl w A n c l) (hb : Below w.heap.size w w') : Sl w' A n c l := h.below hb
end Go.Fl.Nm
namespace Go.Proofs.YtnogfceojmnjiaaDoor
open Go.RowKit Go.Fl Go.Fl.Nm

theorem OkC.belowW {w w' : World} {g7 g8 : Nat} (h : OkC w g7 g8) (hb : Below w.heap.size w w') : OkC w' g7 g8 := h.below hb
set_option maxHeartbeats 16000000 in
set_option maxRecDepth 100000 in
theorem naturalRing_any (A B C : Option Addr) (n ca m cb q cc : Nat) (a b c : List Nat) (w : World) (ht : TB w) (ha : Sl w A n ca a) (hb : Sl w B m cb b) (hc : Sl w C q cc c) :
    Calls Tryd.prog 3 #[.slice A n ca, .slice B m cb, .slice C q cc] w (Awk w) := by
  have HT := Lib.hid ht
  have HA := Lib.hid ha
  have HB := Lib.hid hb
  have HC := Lib.hid hc
  have hnm := ha.max
  have hmm := hb.max
  have hqm := hc.max
  unfold maxLen at hnm hmm hqm
  obtain ⟨N1, hN1⟩ : ∃ N, N = max n m := ⟨_, rfl⟩
  obtain ⟨N, hN⟩ : ∃ N, N = max N1 q := ⟨_, rfl⟩
  have hmx : (if n < m then (m : Int) else (n : Int)) = (N1 : Int) := by split <;> omega
  have hmx2 : (if N1 < q then (q : Int) else (N1 : Int)) = (N : Int) := by split <;> omega
  have HLA := Lib.hid (Nat.le_trans (limbs_le_len ha.ok) (Nat.le_of_eq ha.len))
  have HLB := Lib.hid (Nat.le_trans (limbs_le_len hb.ok) (Nat.le_of_eq hb.len))
  have HLC := Lib.hid (Nat.le_trans (limbs_le_len hc.ok) (Nat.le_of_eq hc.len))
  clear ht ha hb hc
  by_cases h6 : 60 < N
  · have hd : decide ((60 : Int) < N) = true := decide_eq_true (by omega)
    clear hN hN1
    have HL0 := Lib.hid (Below.refl w.heap.size w)
    go_enter Tryd.func3, Tryd.ntmps3
    go_wp2_with fail
    refine (awake_any w HT.out).mono ?_
    rintro e w1 ⟨rfl, HB1⟩
    have S1a := Lib.hid (HA.out.below HB1.out)
    have S1b := Lib.hid (HB.out.below HB1.out)
    have S1c := Lib.hid (HC.out.below HB1.out)
    have T1 := Lib.hid (HT.out.below HB1.out)
    have HL1 := Lib.hid (HL0.out.trans (HB1.out.mono HL0.out.size))
    go_wp2_with fail
    go_ret
    exact ⟨rfl, HL1⟩

  · have hd : decide ((60 : Int) < N) = false := decide_eq_false (by omega)
    have hn : n ≤ 60 := by omega
    have hm : m ≤ 60 := by omega
    have hq : q ≤ 60 := by omega
    clear hN hN1 h6
    have la : (limbs (val a)).length ≤ 60 := Nat.le_trans HLA.out hn
    have lb : (limbs (val b)).length ≤ 60 := Nat.le_trans HLB.out hm
    have lc : (limbs (val c)).length ≤ 60 := Nat.le_trans HLC.out hq
    have lab := add_len _ _ 60 la lb
    have lba := add_len _ _ 60 lb la
    have lbc := add_len _ _ 60 lb lc
    have labc := add_len _ _ 61 lab (by omega : (limbs (val c)).length ≤ 61)
    have labc2 := add_len _ _ 61 (by omega : (limbs (val a)).length ≤ 61) lbc
    have pab := mul_len2 _ _ 60 60 la lb
    have pba := mul_len2 _ _ 60 60 lb la
    have pbc := mul_len2 _ _ 60 60 lb lc
    have pac := mul_len2 _ _ 60 60 la lc
    have pabc := mul_len2 _ _ 120 60 pab lc
    have pabc2 := mul_len2 _ _ 60 120 la pbc
    have pas := mul_len2 _ _ 60 61 la lbc
    have pss := add_len _ _ 120 pab pac
    have HADD := Lib.hid (Nat.add_comm (val b) (val a))
    have HMUL := Lib.hid (Nat.mul_comm (val b) (val a))
    have HASS := Lib.hid (Nat.add_assoc (val a) (val b) (val c)).symm
    have HMSS := Lib.hid (Nat.mul_assoc (val a) (val b) (val c)).symm
    have HDIS := Lib.hid (Nat.mul_add (val a) (val b) (val c))
    have HL0 := Lib.hid (Below.refl w.heap.size w)
    go_enter Tryd.func3, Tryd.ntmps3
    go_wp2_with fail
    refine (awake_any w HT.out).mono ?_
    rintro e w1 ⟨rfl, HB1⟩
    have S1a := Lib.hid (HA.out.below HB1.out)
    have S1b := Lib.hid (HB.out.below HB1.out)
    have S1c := Lib.hid (HC.out.below HB1.out)
    have T1 := Lib.hid (HT.out.below HB1.out)
    have HL1 := Lib.hid (HL0.out.trans (HB1.out.mono HL0.out.size))
    have e1 : (w1.alloc (.cells #[.bool true] 4)).heap.size = w1.heap.size + 1 := by simp
    go_wp2_with fail
    obtain ⟨w2, hw2⟩ : ∃ x, x = (w1.alloc (.cells #[.bool true] 4)).alloc (.cells #[ofV w1.heap.size] 25) := ⟨_, rfl⟩
    have OK0 := Lib.hid (show OkC w2 w1.heap.size (w1.heap.size + 1) from ⟨by rw [hw2]; exact (Blk.new w1 _ _).alloc _, by rw [hw2, ← e1]; exact Blk.new _ _ _⟩)
    have HB2 := Lib.hid (show Below w1.heap.size w1 w2 by rw [hw2]; exact ((Below.refl _ _).alloc (Nat.le_refl _) _).alloc (by rw [e1]; omega) _)
    rw [← hw2]
    clear hw2 e1
    have S2a := Lib.hid (S1a.out.below HB2.out)
    have S2b := Lib.hid (S1b.out.below HB2.out)
    have S2c := Lib.hid (S1c.out.below HB2.out)
    have T2 := Lib.hid (T1.out.below HB2.out)
    have HL2 := Lib.hid (HL1.out.trans (HB2.out.mono HL1.out.size))
    refine (addC w1.heap.size (w1.heap.size + 1) A B n ca m cb a b w2 OK0.out S2a.out S2b.out (by omega) (by omega) (by omega)).mono ?_
    rintro e w3 ⟨R1, r1, rfl, HR1, HB3⟩
    have S3a := Lib.hid (S2a.out.below HB3.out)
    have S3b := Lib.hid (S2b.out.below HB3.out)
    have S3c := Lib.hid (S2c.out.below HB3.out)
    have S3k := Lib.hid (OK0.out.below HB3.out)
    have T3 := Lib.hid (T2.out.below HB3.out)
    have HL3 := Lib.hid (HL2.out.trans (HB3.out.mono HL2.out.size))
    have S3r1 := Lib.hid (HR1.out.sl)
    have hr1 : r1 ≤ 256 := by rw [← HR1.out.sl.len]; omega
    go_wp2_with fail
    refine (addC w1.heap.size (w1.heap.size + 1) B A m cb n ca b a w3 S3k.out S3b.out S3a.out (by omega) (by omega) (by omega)).mono ?_
    rw [HADD.out]
    rintro e w4 ⟨R2, r2, rfl, HR2, HB4⟩
    have S4a := Lib.hid (S3a.out.below HB4.out)
    have S4b := Lib.hid (S3b.out.below HB4.out)
    have S4c := Lib.hid (S3c.out.below HB4.out)
    have S4k := Lib.hid (S3k.out.below HB4.out)
    have S4r1 := Lib.hid (S3r1.out.below HB4.out)
    have T4 := Lib.hid (T3.out.below HB4.out)
    have HL4 := Lib.hid (HL3.out.trans (HB4.out.mono HL3.out.size))
    have S4r2 := Lib.hid (HR2.out.sl)
    have hr2 : r2 ≤ 256 := by rw [← HR2.out.sl.len]; omega
    go_wp2_with fail
    refine (eq_same R1 R2 r1 r1 r2 r2 _ _ w4 S4r1.out S4r2.out rfl).mono ?_
    rintro e w5 ⟨rfl, HQ⟩
    have HB5 := Lib.hid (show Below w4.heap.size w4 w5 by obtain ⟨q, hq⟩ := HQ.out; rw [hq]; exact below_drewN (Below.refl _ _) q)
    clear HQ
    have S5a := Lib.hid (S4a.out.below HB5.out)
    have S5b := Lib.hid (S4b.out.below HB5.out)
    have S5c := Lib.hid (S4c.out.below HB5.out)
    have S5k := Lib.hid (S4k.out.below HB5.out)
    have S5r1 := Lib.hid (S4r1.out.below HB5.out)
    have S5r2 := Lib.hid (S4r2.out.below HB5.out)
    have T5 := Lib.hid (T4.out.below HB5.out)
    have HL5 := Lib.hid (HL4.out.trans (HB5.out.mono HL4.out.size))
    go_wp2_with fail
    refine (mulC w1.heap.size (w1.heap.size + 1) A B n ca m cb a b w5 S5k.out S5a.out S5b.out (by omega) (by omega) (by omega)).mono ?_
    rintro e w6 ⟨R3, r3, rfl, HR3, HB6⟩
    have S6a := Lib.hid (S5a.out.below HB6.out)
    have S6b := Lib.hid (S5b.out.below HB6.out)
    have S6c := Lib.hid (S5c.out.below HB6.out)
    have S6k := Lib.hid (S5k.out.below HB6.out)
    have S6r1 := Lib.hid (S5r1.out.below HB6.out)
    have S6r2 := Lib.hid (S5r2.out.below HB6.out)
    have T6 := Lib.hid (T5.out.below HB6.out)
    have HL6 := Lib.hid (HL5.out.trans (HB6.out.mono HL5.out.size))
    have S6r3 := Lib.hid (HR3.out.sl)
    have hr3 : r3 ≤ 256 := by rw [← HR3.out.sl.len]; omega
    go_wp2_with fail
    refine (mulC w1.heap.size (w1.heap.size + 1) B A m cb n ca b a w6 S6k.out S6b.out S6a.out (by omega) (by omega) (by omega)).mono ?_
    rw [HMUL.out]
    rintro e w7 ⟨R4, r4, rfl, HR4, HB7⟩
    have S7a := Lib.hid (S6a.out.below HB7.out)
    have S7b := Lib.hid (S6b.out.below HB7.out)
    have S7c := Lib.hid (S6c.out.below HB7.out)
    have S7k := Lib.hid (S6k.out.below HB7.out)
    have S7r1 := Lib.hid (S6r1.out.below HB7.out)
    have S7r2 := Lib.hid (S6r2.out.below HB7.out)
    have S7r3 := Lib.hid (S6r3.out.below HB7.out)
    have T7 := Lib.hid (T6.out.below HB7.out)
    have HL7 := Lib.hid (HL6.out.trans (HB7.out.mono HL6.out.size))
    have S7r4 := Lib.hid (HR4.out.sl)
    have hr4 : r4 ≤ 256 := by rw [← HR4.out.sl.len]; omega
    go_wp2_with fail
    refine (eq_same R3 R4 r3 r3 r4 r4 _ _ w7 S7r3.out S7r4.out rfl).mono ?_
    rintro e w8 ⟨rfl, HQ⟩
    have HB8 := Lib.hid (show Below w7.heap.size w7 w8 by obtain ⟨q, hq⟩ := HQ.out; rw [hq]; exact below_drewN (Below.refl _ _) q)
    clear HQ
    have S8a := Lib.hid (S7a.out.below HB8.out)
    have S8b := Lib.hid (S7b.out.below HB8.out)
    have S8c := Lib.hid (S7c.out.below HB8.out)
    have S8k := Lib.hid (S7k.out.below HB8.out)
    have S8r1 := Lib.hid (S7r1.out.below HB8.out)
    have S8r2 := Lib.hid (S7r2.out.below HB8.out)
    have S8r3 := Lib.hid (S7r3.out.below HB8.out)
    have S8r4 := Lib.hid (S7r4.out.below HB8.out)
    have T8 := Lib.hid (T7.out.below HB8.out)
    have HL8 := Lib.hid (HL7.out.trans (HB8.out.mono HL7.out.size))
    go_wp2_with fail
    refine (addC w1.heap.size (w1.heap.size + 1) A B n ca m cb a b w8 S8k.out S8a.out S8b.out (by omega) (by omega) (by omega)).mono ?_
    rintro e w9 ⟨R5, r5, rfl, HR5, HB9⟩
    have S9a := Lib.hid (S8a.out.below HB9.out)
    have S9b := Lib.hid (S8b.out.below HB9.out)
    have S9c := Lib.hid (S8c.out.below HB9.out)
    have S9k := Lib.hid (S8k.out.below HB9.out)
    have S9r1 := Lib.hid (S8r1.out.below HB9.out)
    have S9r2 := Lib.hid (S8r2.out.below HB9.out)
    have S9r3 := Lib.hid (S8r3.out.below HB9.out)
    have S9r4 := Lib.hid (S8r4.out.below HB9.out)
    have T9 := Lib.hid (T8.out.below HB9.out)
    have HL9 := Lib.hid (HL8.out.trans (HB9.out.mono HL8.out.size))
    have S9r5 := Lib.hid (HR5.out.sl)
    have hr5 : r5 ≤ 256 := by rw [← HR5.out.sl.len]; omega
    go_wp2_with fail
    refine (addC w1.heap.size (w1.heap.size + 1) R5 C r5 r5 q cc _ c w9 S9k.out S9r5.out S9c.out (by omega) (by omega) (by rw [val_limbs]; omega)).mono ?_
    rw [val_limbs]
    rintro e w10 ⟨R6, r6, rfl, HR6, HB10⟩
    have S10a := Lib.hid (S9a.out.below HB10.out)
    have S10b := Lib.hid (S9b.out.below HB10.out)
    have S10c := Lib.hid (S9c.out.below HB10.out)
    have S10k := Lib.hid (S9k.out.below HB10.out)
    have S10r1 := Lib.hid (S9r1.out.below HB10.out)
    have S10r2 := Lib.hid (S9r2.out.below HB10.out)
    have S10r3 := Lib.hid (S9r3.out.below HB10.out)
    have S10r4 := Lib.hid (S9r4.out.below HB10.out)
    have S10r5 := Lib.hid (S9r5.out.below HB10.out)
    have T10 := Lib.hid (T9.out.below HB10.out)
    have HL10 := Lib.hid (HL9.out.trans (HB10.out.mono HL9.out.size))
    have S10r6 := Lib.hid (HR6.out.sl)
    have hr6 : r6 ≤ 256 := by rw [← HR6.out.sl.len]; omega
    go_wp2_with fail
    refine (addC w1.heap.size (w1.heap.size + 1) B C m cb q cc b c w10 S10k.out S10b.out S10c.out (by omega) (by omega) (by omega)).mono ?_
    rintro e w11 ⟨R7, r7, rfl, HR7, HB11⟩
    have S11a := Lib.hid (S10a.out.below HB11.out)
    have S11b := Lib.hid (S10b.out.below HB11.out)
    have S11c := Lib.hid (S10c.out.below HB11.out)
    have S11k := Lib.hid (S10k.out.below HB11.out)
    have S11r1 := Lib.hid (S10r1.out.below HB11.out)
    have S11r2 := Lib.hid (S10r2.out.below HB11.out)
    have S11r3 := Lib.hid (S10r3.out.below HB11.out)
    have S11r4 := Lib.hid (S10r4.out.below HB11.out)
    have S11r5 := Lib.hid (S10r5.out.below HB11.out)
    have S11r6 := Lib.hid (S10r6.out.below HB11.out)
    have T11 := Lib.hid (T10.out.below HB11.out)
    have HL11 := Lib.hid (HL10.out.trans (HB11.out.mono HL10.out.size))
    have S11r7 := Lib.hid (HR7.out.sl)
    have hr7 : r7 ≤ 256 := by rw [← HR7.out.sl.len]; omega
    go_wp2_with fail
    refine (addC w1.heap.size (w1.heap.size + 1) A R7 n ca r7 r7 a _ w11 S11k.out S11a.out S11r7.out (by omega) (by omega) (by rw [val_limbs]; omega)).mono ?_
    rw [val_limbs, HASS.out]
    rintro e w12 ⟨R8, r8, rfl, HR8, HB12⟩
    have S12a := Lib.hid (S11a.out.below HB12.out)
    have S12b := Lib.hid (S11b.out.below HB12.out)
    have S12c := Lib.hid (S11c.out.below HB12.out)
    have S12k := Lib.hid (S11k.out.below HB12.out)
    have S12r1 := Lib.hid (S11r1.out.below HB12.out)
    have S12r2 := Lib.hid (S11r2.out.below HB12.out)
    have S12r3 := Lib.hid (S11r3.out.below HB12.out)
    have S12r4 := Lib.hid (S11r4.out.below HB12.out)
    have S12r5 := Lib.hid (S11r5.out.below HB12.out)
    have S12r6 := Lib.hid (S11r6.out.below HB12.out)
    have S12r7 := Lib.hid (S11r7.out.below HB12.out)
    have T12 := Lib.hid (T11.out.below HB12.out)
    have HL12 := Lib.hid (HL11.out.trans (HB12.out.mono HL11.out.size))
    have S12r8 := Lib.hid (HR8.out.sl)
    have hr8 : r8 ≤ 256 := by rw [← HR8.out.sl.len]; omega
    go_wp2_with fail
    refine (eq_same R6 R8 r6 r6 r8 r8 _ _ w12 S12r6.out S12r8.out rfl).mono ?_
    rintro e w13 ⟨rfl, HQ⟩
    have HB13 := Lib.hid (show Below w12.heap.size w12 w13 by obtain ⟨q, hq⟩ := HQ.out; rw [hq]; exact below_drewN (Below.refl _ _) q)
    clear HQ
    have S13a := Lib.hid (S12a.out.below HB13.out)
    have S13b := Lib.hid (S12b.out.below HB13.out)
    have S13c := Lib.hid (S12c.out.below HB13.out)
    have S13k := Lib.hid (S12k.out.below HB13.out)
    have S13r1 := Lib.hid (S12r1.out.below HB13.out)
    have S13r2 := Lib.hid (S12r2.out.below HB13.out)
    have S13r3 := Lib.hid (S12r3.out.below HB13.out)
    have S13r4 := Lib.hid (S12r4.out.below HB13.out)
    have S13r5 := Lib.hid (S12r5.out.below HB13.out)
    have S13r6 := Lib.hid (S12r6.out.below HB13.out)
    have S13r7 := Lib.hid (S12r7.out.below HB13.out)
    have S13r8 := Lib.hid (S12r8.out.below HB13.out)
    have T13 := Lib.hid (T12.out.below HB13.out)
    have HL13 := Lib.hid (HL12.out.trans (HB13.out.mono HL12.out.size))
    go_wp2_with fail
    refine (mulC w1.heap.size (w1.heap.size + 1) A B n ca m cb a b w13 S13k.out S13a.out S13b.out (by omega) (by omega) (by omega)).mono ?_
    rintro e w14 ⟨R9, r9, rfl, HR9, HB14⟩
    have S14a := Lib.hid (S13a.out.below HB14.out)
    have S14b := Lib.hid (S13b.out.below HB14.out)
    have S14c := Lib.hid (S13c.out.below HB14.out)
    have S14k := Lib.hid (S13k.out.below HB14.out)
    have S14r1 := Lib.hid (S13r1.out.below HB14.out)
    have S14r2 := Lib.hid (S13r2.out.below HB14.out)
    have S14r3 := Lib.hid (S13r3.out.below HB14.out)
    have S14r4 := Lib.hid (S13r4.out.below HB14.out)
    have S14r5 := Lib.hid (S13r5.out.below HB14.out)
    have S14r6 := Lib.hid (S13r6.out.below HB14.out)
    have S14r7 := Lib.hid (S13r7.out.below HB14.out)
    have S14r8 := Lib.hid (S13r8.out.below HB14.out)
    have T14 := Lib.hid (T13.out.below HB14.out)
    have HL14 := Lib.hid (HL13.out.trans (HB14.out.mono HL13.out.size))
    have S14r9 := Lib.hid (HR9.out.sl)
    have hr9 : r9 ≤ 256 := by rw [← HR9.out.sl.len]; omega
    go_wp2_with fail
    refine (mulC w1.heap.size (w1.heap.size + 1) R9 C r9 r9 q cc _ c w14 S14k.out S14r9.out S14c.out (by omega) (by omega) (by rw [val_limbs]; omega)).mono ?_
    rw [val_limbs]
    rintro e w15 ⟨R10, r10, rfl, HR10, HB15⟩
    have S15a := Lib.hid (S14a.out.below HB15.out)
    have S15b := Lib.hid (S14b.out.below HB15.out)
    have S15c := Lib.hid (S14c.out.below HB15.out)
    have S15k := Lib.hid (S14k.out.below HB15.out)
    have S15r1 := Lib.hid (S14r1.out.below HB15.out)
    have S15r2 := Lib.hid (S14r2.out.below HB15.out)
    have S15r3 := Lib.hid (S14r3.out.below HB15.out)
    have S15r4 := Lib.hid (S14r4.out.below HB15.out)
    have S15r5 := Lib.hid (S14r5.out.below HB15.out)
    have S15r6 := Lib.hid (S14r6.out.below HB15.out)
    have S15r7 := Lib.hid (S14r7.out.below HB15.out)
    have S15r8 := Lib.hid (S14r8.out.below HB15.out)
    have S15r9 := Lib.hid (S14r9.out.below HB15.out)
    have T15 := Lib.hid (T14.out.below HB15.out)
    have HL15 := Lib.hid (HL14.out.trans (HB15.out.mono HL14.out.size))
    have S15r10 := Lib.hid (HR10.out.sl)
    have hr10 : r10 ≤ 256 := by rw [← HR10.out.sl.len]; omega
    go_wp2_with fail
    refine (mulC w1.heap.size (w1.heap.size + 1) B C m cb q cc b c w15 S15k.out S15b.out S15c.out (by omega) (by omega) (by omega)).mono ?_
    rintro e w16 ⟨R11, r11, rfl, HR11, HB16⟩
    have S16a := Lib.hid (S15a.out.below HB16.out)
    have S16b := Lib.hid (S15b.out.below HB16.out)
    have S16c := Lib.hid (S15c.out.below HB16.out)
    have S16k := Lib.hid (S15k.out.below HB16.out)
    have S16r1 := Lib.hid (S15r1.out.below HB16.out)
    have S16r2 := Lib.hid (S15r2.out.below HB16.out)
    have S16r3 := Lib.hid (S15r3.out.below HB16.out)
    have S16r4 := Lib.hid (S15r4.out.below HB16.out)
    have S16r5 := Lib.hid (S15r5.out.below HB16.out)
    have S16r6 := Lib.hid (S15r6.out.below HB16.out)
    have S16r7 := Lib.hid (S15r7.out.below HB16.out)
    have S16r8 := Lib.hid (S15r8.out.below HB16.out)
    have S16r9 := Lib.hid (S15r9.out.below HB16.out)
    have S16r10 := Lib.hid (S15r10.out.below HB16.out)
    have T16 := Lib.hid (T15.out.below HB16.out)
    have HL16 := Lib.hid (HL15.out.trans (HB16.out.mono HL15.out.size))
    have S16r11 := Lib.hid (HR11.out.sl)
    have hr11 : r11 ≤ 256 := by rw [← HR11.out.sl.len]; omega
    go_wp2_with fail
    refine (mulC w1.heap.size (w1.heap.size + 1) A R11 n ca r11 r11 a _ w16 S16k.out S16a.out S16r11.out (by omega) (by omega) (by rw [val_limbs]; omega)).mono ?_
    rw [val_limbs, HMSS.out]
    rintro e w17 ⟨R12, r12, rfl, HR12, HB17⟩
    have S17a := Lib.hid (S16a.out.below HB17.out)
    have S17b := Lib.hid (S16b.out.below HB17.out)
    have S17c := Lib.hid (S16c.out.below HB17.out)
    have S17k := Lib.hid (S16k.out.below HB17.out)
    have S17r1 := Lib.hid (S16r1.out.below HB17.out)
    have S17r2 := Lib.hid (S16r2.out.below HB17.out)
    have S17r3 := Lib.hid (S16r3.out.below HB17.out)
    have S17r4 := Lib.hid (S16r4.out.below HB17.out)
    have S17r5 := Lib.hid (S16r5.out.below HB17.out)
    have S17r6 := Lib.hid (S16r6.out.below HB17.out)
    have S17r7 := Lib.hid (S16r7.out.below HB17.out)
    have S17r8 := Lib.hid (S16r8.out.below HB17.out)
    have S17r9 := Lib.hid (S16r9.out.below HB17.out)
    have S17r10 := Lib.hid (S16r10.out.below HB17.out)
    have S17r11 := Lib.hid (S16r11.out.below HB17.out)
    have T17 := Lib.hid (T16.out.below HB17.out)
    have HL17 := Lib.hid (HL16.out.trans (HB17.out.mono HL16.out.size))
    have S17r12 := Lib.hid (HR12.out.sl)
    have hr12 : r12 ≤ 256 := by rw [← HR12.out.sl.len]; omega
    go_wp2_with fail
    refine (eq_same R10 R12 r10 r10 r12 r12 _ _ w17 S17r10.out S17r12.out rfl).mono ?_
    rintro e w18 ⟨rfl, HQ⟩
    have HB18 := Lib.hid (show Below w17.heap.size w17 w18 by obtain ⟨q, hq⟩ := HQ.out; rw [hq]; exact below_drewN (Below.refl _ _) q)
    clear HQ
    have S18a := Lib.hid (S17a.out.below HB18.out)
    have S18b := Lib.hid (S17b.out.below HB18.out)
    have S18c := Lib.hid (S17c.out.below HB18.out)
    have S18k := Lib.hid (S17k.out.below HB18.out)
    have S18r1 := Lib.hid (S17r1.out.below HB18.out)
    have S18r2 := Lib.hid (S17r2.out.below HB18.out)
    have S18r3 := Lib.hid (S17r3.out.below HB18.out)
    have S18r4 := Lib.hid (S17r4.out.below HB18.out)
    have S18r5 := Lib.hid (S17r5.out.below HB18.out)
    have S18r6 := Lib.hid (S17r6.out.below HB18.out)
    have S18r7 := Lib.hid (S17r7.out.below HB18.out)
    have S18r8 := Lib.hid (S17r8.out.below HB18.out)
    have S18r9 := Lib.hid (S17r9.out.below HB18.out)
    have S18r10 := Lib.hid (S17r10.out.below HB18.out)
    have S18r11 := Lib.hid (S17r11.out.below HB18.out)
    have S18r12 := Lib.hid (S17r12.out.below HB18.out)
    have T18 := Lib.hid (T17.out.below HB18.out)
    have HL18 := Lib.hid (HL17.out.trans (HB18.out.mono HL17.out.size))
    go_wp2_with fail
    refine (addC w1.heap.size (w1.heap.size + 1) B C m cb q cc b c w18 S18k.out S18b.out S18c.out (by omega) (by omega) (by omega)).mono ?_
    rintro e w19 ⟨R13, r13, rfl, HR13, HB19⟩
    have S19a := Lib.hid (S18a.out.below HB19.out)
    have S19b := Lib.hid (S18b.out.below HB19.out)
    have S19c := Lib.hid (S18c.out.below HB19.out)
    have S19k := Lib.hid (S18k.out.below HB19.out)
    have S19r1 := Lib.hid (S18r1.out.below HB19.out)
    have S19r2 := Lib.hid (S18r2.out.below HB19.out)
    have S19r3 := Lib.hid (S18r3.out.below HB19.out)
    have S19r4 := Lib.hid (S18r4.out.below HB19.out)
    have S19r5 := Lib.hid (S18r5.out.below HB19.out)
    have S19r6 := Lib.hid (S18r6.out.below HB19.out)
    have S19r7 := Lib.hid (S18r7.out.below HB19.out)
    have S19r8 := Lib.hid (S18r8.out.below HB19.out)
    have S19r9 := Lib.hid (S18r9.out.below HB19.out)
    have S19r10 := Lib.hid (S18r10.out.below HB19.out)
    have S19r11 := Lib.hid (S18r11.out.below HB19.out)
    have S19r12 := Lib.hid (S18r12.out.below HB19.out)
    have T19 := Lib.hid (T18.out.below HB19.out)
    have HL19 := Lib.hid (HL18.out.trans (HB19.out.mono HL18.out.size))
    have S19r13 := Lib.hid (HR13.out.sl)
    have hr13 : r13 ≤ 256 := by rw [← HR13.out.sl.len]; omega
    go_wp2_with fail
    refine (mulC w1.heap.size (w1.heap.size + 1) A R13 n ca r13 r13 a _ w19 S19k.out S19a.out S19r13.out (by omega) (by omega) (by rw [val_limbs]; omega)).mono ?_
    rw [val_limbs, HDIS.out]
    rintro e w20 ⟨R14, r14, rfl, HR14, HB20⟩
    have S20a := Lib.hid (S19a.out.below HB20.out)
    have S20b := Lib.hid (S19b.out.below HB20.out)
    have S20c := Lib.hid (S19c.out.below HB20.out)
    have S20k := Lib.hid (S19k.out.below HB20.out)
    have S20r1 := Lib.hid (S19r1.out.below HB20.out)
    have S20r2 := Lib.hid (S19r2.out.below HB20.out)
    have S20r3 := Lib.hid (S19r3.out.below HB20.out)
    have S20r4 := Lib.hid (S19r4.out.below HB20.out)
    have S20r5 := Lib.hid (S19r5.out.below HB20.out)
    have S20r6 := Lib.hid (S19r6.out.below HB20.out)
    have S20r7 := Lib.hid (S19r7.out.below HB20.out)
    have S20r8 := Lib.hid (S19r8.out.below HB20.out)
    have S20r9 := Lib.hid (S19r9.out.below HB20.out)
    have S20r10 := Lib.hid (S19r10.out.below HB20.out)
    have S20r11 := Lib.hid (S19r11.out.below HB20.out)
    have S20r12 := Lib.hid (S19r12.out.below HB20.out)
    have S20r13 := Lib.hid (S19r13.out.below HB20.out)
    have T20 := Lib.hid (T19.out.below HB20.out)
    have HL20 := Lib.hid (HL19.out.trans (HB20.out.mono HL19.out.size))
    have S20r14 := Lib.hid (HR14.out.sl)
    have hr14 : r14 ≤ 256 := by rw [← HR14.out.sl.len]; omega
    go_wp2_with fail
    refine (mulC w1.heap.size (w1.heap.size + 1) A B n ca m cb a b w20 S20k.out S20a.out S20b.out (by omega) (by omega) (by omega)).mono ?_
    rintro e w21 ⟨R15, r15, rfl, HR15, HB21⟩
    have S21a := Lib.hid (S20a.out.below HB21.out)
    have S21b := Lib.hid (S20b.out.below HB21.out)
    have S21c := Lib.hid (S20c.out.below HB21.out)
    have S21k := Lib.hid (S20k.out.below HB21.out)
    have S21r1 := Lib.hid (S20r1.out.below HB21.out)
    have S21r2 := Lib.hid (S20r2.out.below HB21.out)
    have S21r3 := Lib.hid (S20r3.out.below HB21.out)
    have S21r4 := Lib.hid (S20r4.out.below HB21.out)
    have S21r5 := Lib.hid (S20r5.out.below HB21.out)
    have S21r6 := Lib.hid (S20r6.out.below HB21.out)
    have S21r7 := Lib.hid (S20r7.out.below HB21.out)
    have S21r8 := Lib.hid (S20r8.out.below HB21.out)
    have S21r9 := Lib.hid (S20r9.out.below HB21.out)
    have S21r10 := Lib.hid (S20r10.out.below HB21.out)
    have S21r11 := Lib.hid (S20r11.out.below HB21.out)
    have S21r12 := Lib.hid (S20r12.out.below HB21.out)
    have S21r13 := Lib.hid (S20r13.out.below HB21.out)
    have S21r14 := Lib.hid (S20r14.out.below HB21.out)
    have T21 := Lib.hid (T20.out.below HB21.out)
    have HL21 := Lib.hid (HL20.out.trans (HB21.out.mono HL20.out.size))
    have S21r15 := Lib.hid (HR15.out.sl)
    have hr15 : r15 ≤ 256 := by rw [← HR15.out.sl.len]; omega
    go_wp2_with fail
    refine (mulC w1.heap.size (w1.heap.size + 1) A C n ca q cc a c w21 S21k.out S21a.out S21c.out (by omega) (by omega) (by omega)).mono ?_
    rintro e w22 ⟨R16, r16, rfl, HR16, HB22⟩
    have S22a := Lib.hid (S21a.out.below HB22.out)
    have S22b := Lib.hid (S21b.out.below HB22.out)
    have S22c := Lib.hid (S21c.out.below HB22.out)
    have S22k := Lib.hid (S21k.out.below HB22.out)
    have S22r1 := Lib.hid (S21r1.out.below HB22.out)
    have S22r2 := Lib.hid (S21r2.out.below HB22.out)
    have S22r3 := Lib.hid (S21r3.out.below HB22.out)
    have S22r4 := Lib.hid (S21r4.out.below HB22.out)
    have S22r5 := Lib.hid (S21r5.out.below HB22.out)
    have S22r6 := Lib.hid (S21r6.out.below HB22.out)
    have S22r7 := Lib.hid (S21r7.out.below HB22.out)
    have S22r8 := Lib.hid (S21r8.out.below HB22.out)
    have S22r9 := Lib.hid (S21r9.out.below HB22.out)
    have S22r10 := Lib.hid (S21r10.out.below HB22.out)
    have S22r11 := Lib.hid (S21r11.out.below HB22.out)
    have S22r12 := Lib.hid (S21r12.out.below HB22.out)
    have S22r13 := Lib.hid (S21r13.out.below HB22.out)
    have S22r14 := Lib.hid (S21r14.out.below HB22.out)
    have S22r15 := Lib.hid (S21r15.out.below HB22.out)
    have T22 := Lib.hid (T21.out.below HB22.out)
    have HL22 := Lib.hid (HL21.out.trans (HB22.out.mono HL21.out.size))
    have S22r16 := Lib.hid (HR16.out.sl)
    have hr16 : r16 ≤ 256 := by rw [← HR16.out.sl.len]; omega
    go_wp2_with fail
    refine (addC w1.heap.size (w1.heap.size + 1) R15 R16 r15 r15 r16 r16 _ _ w22 S22k.out S22r15.out S22r16.out (by omega) (by omega) (by rw [val_limbs, val_limbs]; omega)).mono ?_
    rw [val_limbs, val_limbs]
    rintro e w23 ⟨R17, r17, rfl, HR17, HB23⟩
    have S23a := Lib.hid (S22a.out.below HB23.out)
    have S23b := Lib.hid (S22b.out.below HB23.out)
    have S23c := Lib.hid (S22c.out.below HB23.out)
    have S23k := Lib.hid (S22k.out.below HB23.out)
    have S23r1 := Lib.hid (S22r1.out.below HB23.out)
    have S23r2 := Lib.hid (S22r2.out.below HB23.out)
    have S23r3 := Lib.hid (S22r3.out.below HB23.out)
    have S23r4 := Lib.hid (S22r4.out.below HB23.out)
    have S23r5 := Lib.hid (S22r5.out.below HB23.out)
    have S23r6 := Lib.hid (S22r6.out.below HB23.out)
    have S23r7 := Lib.hid (S22r7.out.below HB23.out)
    have S23r8 := Lib.hid (S22r8.out.below HB23.out)
    have S23r9 := Lib.hid (S22r9.out.below HB23.out)
    have S23r10 := Lib.hid (S22r10.out.below HB23.out)
    have S23r11 := Lib.hid (S22r11.out.below HB23.out)
    have S23r12 := Lib.hid (S22r12.out.below HB23.out)
    have S23r13 := Lib.hid (S22r13.out.below HB23.out)
    have S23r14 := Lib.hid (S22r14.out.below HB23.out)
    have S23r15 := Lib.hid (S22r15.out.below HB23.out)
    have S23r16 := Lib.hid (S22r16.out.below HB23.out)
    have T23 := Lib.hid (T22.out.below HB23.out)
    have HL23 := Lib.hid (HL22.out.trans (HB23.out.mono HL22.out.size))
    have S23r17 := Lib.hid (HR17.out.sl)
    have hr17 : r17 ≤ 256 := by rw [← HR17.out.sl.len]; omega
    go_wp2_with fail
    refine (eq_same R14 R17 r14 r14 r17 r17 _ _ w23 S23r14.out S23r17.out rfl).mono ?_
    rintro e w24 ⟨rfl, HQ⟩
    have HB24 := Lib.hid (show Below w23.heap.size w23 w24 by obtain ⟨q, hq⟩ := HQ.out; rw [hq]; exact below_drewN (Below.refl _ _) q)
    clear HQ
    have S24a := Lib.hid (S23a.out.below HB24.out)
    have S24b := Lib.hid (S23b.out.below HB24.out)
    have S24c := Lib.hid (S23c.out.below HB24.out)
    have S24k := Lib.hid (S23k.out.below HB24.out)
    have S24r1 := Lib.hid (S23r1.out.below HB24.out)
    have S24r2 := Lib.hid (S23r2.out.below HB24.out)
    have S24r3 := Lib.hid (S23r3.out.below HB24.out)
    have S24r4 := Lib.hid (S23r4.out.below HB24.out)
    have S24r5 := Lib.hid (S23r5.out.below HB24.out)
    have S24r6 := Lib.hid (S23r6.out.below HB24.out)
    have S24r7 := Lib.hid (S23r7.out.below HB24.out)
    have S24r8 := Lib.hid (S23r8.out.below HB24.out)
    have S24r9 := Lib.hid (S23r9.out.below HB24.out)
    have S24r10 := Lib.hid (S23r10.out.below HB24.out)
    have S24r11 := Lib.hid (S23r11.out.below HB24.out)
    have S24r12 := Lib.hid (S23r12.out.below HB24.out)
    have S24r13 := Lib.hid (S23r13.out.below HB24.out)
    have S24r14 := Lib.hid (S23r14.out.below HB24.out)
    have S24r15 := Lib.hid (S23r15.out.below HB24.out)
    have S24r16 := Lib.hid (S23r16.out.below HB24.out)
    have S24r17 := Lib.hid (S23r17.out.below HB24.out)
    have T24 := Lib.hid (T23.out.below HB24.out)
    have HL24 := Lib.hid (HL23.out.trans (HB24.out.mono HL23.out.size))
    clear lab lba lbc labc labc2 pba pbc pabc pabc2 pas pss HADD HMUL HASS HMSS HDIS HB1 S1a S1b S1c T1 HL1 HB2 S2a S2b S2c T2 HL2 HR1 HB3 S3a S3b S3c S3k T3 HL3 S3r1 hr1 HR2 HB4 S4a S4b S4c S4k S4r1 T4 HL4 S4r2 hr2 HB5 S5a S5b S5c S5k S5r1 S5r2 T5 HL5 HR3 HB6 S6a S6b S6c S6k S6r1 S6r2 T6 HL6 S6r3 hr3 HR4 HB7 S7a S7b S7c S7k S7r1 S7r2 S7r3 T7 HL7 S7r4 hr4 HB8 S8a S8b S8c S8k S8r1 S8r2 S8r3 S8r4 T8 HL8 HR5 HB9 S9a S9b S9c S9k S9r1 S9r2 S9r3 S9r4 T9 HL9 S9r5 hr5 HR6 HB10 S10a S10b S10c S10k S10r1 S10r2 S10r3 S10r4 S10r5 T10 HL10 S10r6 hr6 HR7 HB11 S11a S11b S11c S11k S11r1 S11r2 S11r3 S11r4 S11r5 S11r6 T11 HL11 S11r7 hr7 HR8 HB12 S12a S12b S12c S12k S12r1 S12r2 S12r3 S12r4 S12r5 S12r6 S12r7 T12 HL12 S12r8 hr8 HB13 S13a S13b S13c S13k S13r1 S13r2 S13r3 S13r4 S13r5 S13r6 S13r7 S13r8 T13 HL13 HR9 HB14 S14a S14b S14c S14k S14r1 S14r2 S14r3 S14r4 S14r5 S14r6 S14r7 S14r8 T14 HL14 S14r9 hr9 HR10 HB15 S15a S15b S15c S15k S15r1 S15r2 S15r3 S15r4 S15r5 S15r6 S15r7 S15r8 S15r9 T15 HL15 S15r10 hr10 HR11 HB16 S16a S16b S16c S16k S16r1 S16r2 S16r3 S16r4 S16r5 S16r6 S16r7 S16r8 S16r9 S16r10 T16 HL16 S16r11 hr11 HR12 HB17 S17a S17b S17c S17k S17r1 S17r2 S17r3 S17r4 S17r5 S17r6 S17r7 S17r8 S17r9 S17r10 S17r11 T17 HL17 S17r12 hr12 HB18 S18a S18b S18c S18k S18r1 S18r2 S18r3 S18r4 S18r5 S18r6 S18r7 S18r8 S18r9 S18r10 S18r11 S18r12 T18 HL18 HR13 HB19 S19a S19b S19c S19k S19r1 S19r2 S19r3 S19r4 S19r5 S19r6 S19r7 S19r8 S19r9 S19r10 S19r11 S19r12 T19 HL19 S19r13 hr13 HR14 HB20 S20a S20b S20c S20k S20r1 S20r2 S20r3 S20r4 S20r5 S20r6 S20r7 S20r8 S20r9 S20r10 S20r11 S20r12 S20r13 T20 HL20 S20r14 hr14 HR15 HB21 S21a S21b S21c S21k S21r1 S21r2 S21r3 S21r4 S21r5 S21r6 S21r7 S21r8 S21r9 S21r10 S21r11 S21r12 S21r13 S21r14 T21 HL21 S21r15 hr15 HR16 HB22 S22a S22b S22c S22k S22r1 S22r2 S22r3 S22r4 S22r5 S22r6 S22r7 S22r8 S22r9 S22r10 S22r11 S22r12 S22r13 S22r14 S22r15 T22 HL22 S22r16 hr16 HR17 HB23 S23a S23b S23c S23k S23r1 S23r2 S23r3 S23r4 S23r5 S23r6 S23r7 S23r8 S23r9 S23r10 S23r11 S23r12 S23r13 S23r14 S23r15 S23r16 T23 HL23 S23r17 hr17 HB24 S24r1 S24r2 S24r3 S24r4 S24r5 S24r6 S24r7 S24r8 S24r9 S24r10 S24r11 S24r12 S24r13 S24r14 S24r15 S24r16 S24r17 T24
    go_wp2_with fail
    have hcr := cmpN_range (val b) (val c)
    have hcn := cmpN_neg (val b) (val c)
    obtain ⟨cz, HCZ⟩ : ∃ x, Hid (cmpN (val b) (val c) = x) := ⟨_, Lib.hid rfl⟩
    rw [HCZ.out] at hcr hcn
    refine (cmp_any B C m cb q cc b c w24 S24b.out S24c.out).mono ?_
    rw [HCZ.out]
    rintro e w25 ⟨rfl, qd, hqd⟩
    have HB25 := Lib.hid (show Below w24.heap.size w24 w25 by rw [hqd]; exact below_drewN (Below.refl _ _) qd)
    clear hqd
    have S25a := Lib.hid (S24a.out.below HB25.out)
    have S25b := Lib.hid (S24b.out.below HB25.out)
    have S25c := Lib.hid (S24c.out.below HB25.out)
    have S25k := Lib.hid (S24k.out.below HB25.out)
    have HL25 := Lib.hid (HL24.out.trans (HB25.out.mono HL24.out.size))
    by_cases hlt : val b < val c
    · have hdz : decide (0 ≤ cz) = false := decide_eq_false (by have := hcn.2 hlt; omega)
      have hok : w25.cell? ⟨w1.heap.size, 0, none⟩ = some (.bool true) := S25k.out.1.cell 0
      go_wp2_with fail
      go_ret
      exact ⟨rfl, HL25⟩
    · have hdz : decide (0 ≤ cz) = true := decide_eq_true (by have : ¬ cz < 0 := fun h => hlt (hcn.1 h); omega)
      have HSUM := Lib.hid (show (val b - val c) + val c = val b by omega)
      have HMS := Lib.hid (show val a * val b - val a * val c = val a * (val b - val c) from (Nat.mul_sub _ _ _).symm)
      have HML := Lib.hid (show val a * val c ≤ val a * val b from Nat.mul_le_mul_left _ (by omega))
      have ld : (limbs (val b - val c)).length ≤ 60 := limbs_len_le (Nat.lt_of_le_of_lt (Nat.sub_le _ _) (limbs_lt lb))
      have pad := mul_len2 _ _ 60 60 la ld
      have hle : val c ≤ val b := by omega
      have hcW : w25.drew.cell? ⟨w1.heap.size + 1, 0, none⟩ = some (ofV w1.heap.size) := S25k.out.2.cell 0
      clear hlt
      go_wp2_with fail
      go_region_held3 (fun w' => w'.cell? ⟨w1.heap.size + 1, 0, none⟩ = some (ofV w1.heap.size)) (first | exact hcW | exact hcx0) (first
        | (go_at_call 12
           refine (nSub_ok B C m cb q cc b c _ (S25b.out.drewN 1) (S25c.out.drewN 1) (by omega) (by omega) hle).mono ?_
           rintro e x0 ⟨D, nd, ldd, er, rfl, HD, HR, HX0⟩
           obtain ⟨he, hlp⟩ := HR.out.small (by omega)
           subst he hlp
           have HBx0 := Lib.hid (show Below w25.heap.size w25 x0 from ⟨HX0.out.os, HX0.out.tape, HX0.out.output, HX0.out.size, HX0.out.block⟩)
           have K0 := Lib.hid (S25k.out.below HBx0.out)
           have hcx0 : x0.cell? ⟨w1.heap.size + 1, 0, none⟩ = some (ofV w1.heap.size) := K0.out.2.cell 0)
        | (go_at_call 5
           refine (of_any w1.heap.size (w1.heap.size + 1) D nd nd _ K0.out).mono ?_
           rintro e x0' ⟨rfl, rfl⟩))
      all_goals
        (have A0 := Lib.hid (S25a.out.below HBx0.out)
         have B0 := Lib.hid (S25b.out.below HBx0.out)
         have C0 := Lib.hid (S25c.out.below HBx0.out)
         have D0 := Lib.hid HD.out.sl
         have L0 := Lib.hid (HL25.out.trans (HBx0.out.mono HL25.out.size))
         have Q0 := Lib.hid (show Blk x0 (w1.heap.size + 1) 25 #[ofV w1.heap.size] from K0.out.2)
         have hnd : nd ≤ 60 := by rw [← HD.out.sl.len]; exact ld
         have i1 : nd ≤ 256 := by omega
         have i2 : q ≤ 256 := by omega
         have i3 : m ≤ 256 := by omega
         have i4 : n ≤ 256 := by omega
         have i5 : (0 : Nat) ≤ 256 := by omega
         have j1 : (limbs (val (limbs (val b - val c)) + val c)).length ≤ 256 := by rw [val_limbs, HSUM.out]; omega
         have j2 : (limbs (val b + val [])).length ≤ 256 := by rw [val_nil, Nat.add_zero]; omega
         have j4 : (limbs (val a * val (limbs (val b - val c)))).length ≤ 256 := by rw [val_limbs]; omega
         have j5 : (limbs (val a * val b)).length ≤ 256 := by omega
         have j6 : (limbs (val a * val c)).length ≤ 256 := by omega
         have jle : val (limbs (val a * val c)) ≤ val (limbs (val a * val b)) := by rw [val_limbs, val_limbs]; exact HML.out
         have SN : ∀ x : World, Sl x none 0 0 [] := fun x => Sl.none_ x
         have HSN := Lib.hid SN
         have HJ4 := Lib.hid (show (limbs (val a * (val b - val c))).length ≤ 256 from Nat.le_trans pad (by omega))
         clear SN
         go_wp2_with fail
         have HR21 := Lib.hid (below_dr x0)
         have R21K := Lib.hid (K0.out.belowW HR21.out)
         have R21A := Lib.hid (A0.out.belowW HR21.out)
         have R21B := Lib.hid (B0.out.belowW HR21.out)
         have R21C := Lib.hid (C0.out.belowW HR21.out)
         have R21D := Lib.hid (D0.out.belowW HR21.out)
         have R21Q := Lib.hid (Q0.out.belowW HR21.out)
         have c21Q0 : x0.drew.cell? ⟨w1.heap.size + 1, 0, none⟩ = some (ofV w1.heap.size) := R21Q.out.cell 0
         go_region_held3 (fun w' => w'.cell? ⟨w1.heap.size + 1, 0, none⟩ = some (ofV w1.heap.size)) (with_reducible assumption) (first
           | (go_at_call_of 6 (Value.slice D nd nd)
              (with_reducible refine (addC w1.heap.size (w1.heap.size + 1) D C nd nd q cc (limbs (val b - val c)) c _ R21K.out R21D.out R21C.out i1 i2 j1).mono ?_)
              rw [val_limbs, HSUM.out]
              rintro e w22 ⟨X1, n1, rfl, HN1, HC22⟩
              have R22K := Lib.hid (R21K.out.belowW HC22.out)
              have R22A := Lib.hid (R21A.out.belowW HC22.out)
              have R22B := Lib.hid (R21B.out.belowW HC22.out)
              have R22C := Lib.hid (R21C.out.belowW HC22.out)
              have R22D := Lib.hid (R21D.out.belowW HC22.out)
              have R22Q := Lib.hid (R21Q.out.belowW HC22.out)
              have HR22 := Lib.hid (HR21.out.trans (HC22.out.mono HR21.out.size))
              have R22p1 := Lib.hid (HN1.out.sl)
              have c22Q0 : w22.cell? ⟨w1.heap.size + 1, 0, none⟩ = some (ofV w1.heap.size) := R22Q.out.cell 0)
           | (go_at_call_of 6 (Value.slice B m cb)
              (with_reducible refine (addC w1.heap.size (w1.heap.size + 1) B none m cb 0 0 b [] _ R22K.out R22B.out (HSN.out _) i3 i5 j2).mono ?_)
              rw [val_nil, Nat.add_zero]
              rintro e w23 ⟨X2, n2, rfl, HN2, HC23⟩
              have R23K := Lib.hid (R22K.out.belowW HC23.out)
              have R23A := Lib.hid (R22A.out.belowW HC23.out)
              have R23B := Lib.hid (R22B.out.belowW HC23.out)
              have R23C := Lib.hid (R22C.out.belowW HC23.out)
              have R23D := Lib.hid (R22D.out.belowW HC23.out)
              have R23Q := Lib.hid (R22Q.out.belowW HC23.out)
              have R23p1 := Lib.hid (R22p1.out.belowW HC23.out)
              have HR23 := Lib.hid (HR22.out.trans (HC23.out.mono HR22.out.size))
              have R23p2 := Lib.hid (HN2.out.sl)
              have c23Q0 : w23.cell? ⟨w1.heap.size + 1, 0, none⟩ = some (ofV w1.heap.size) := R23Q.out.cell 0)
           | (go_at_call_of 10 (Value.slice X1 n1 n1)
              (with_reducible refine (eq_same X1 X2 n1 n1 n2 n2 _ _ _ R23p1.out R23p2.out rfl).mono ?_)
              rintro e w24 ⟨rfl, HQ3⟩
              obtain ⟨q3, hq3⟩ := HQ3.out
              have HC24 := Lib.hid (show Below w23.heap.size w23 w24 by rw [hq3]; exact below_drewN (Below.refl _ _) _)
              clear hq3
              have R24K := Lib.hid (R23K.out.belowW HC24.out)
              have R24A := Lib.hid (R23A.out.belowW HC24.out)
              have R24B := Lib.hid (R23B.out.belowW HC24.out)
              have R24C := Lib.hid (R23C.out.belowW HC24.out)
              have R24D := Lib.hid (R23D.out.belowW HC24.out)
              have R24Q := Lib.hid (R23Q.out.belowW HC24.out)
              have R24p1 := Lib.hid (R23p1.out.belowW HC24.out)
              have R24p2 := Lib.hid (R23p2.out.belowW HC24.out)
              have HR24 := Lib.hid (HR23.out.trans (HC24.out.mono HR23.out.size))
              have c24Q0 : w24.cell? ⟨w1.heap.size + 1, 0, none⟩ = some (ofV w1.heap.size) := R24Q.out.cell 0)
           | (go_at_call 8
              (with_reducible refine (mulC w1.heap.size (w1.heap.size + 1) A D n ca nd nd a (limbs (val b - val c)) _ R24K.out R24A.out R24D.out i4 i1 j4).mono ?_)
              rw [val_limbs]
              rintro e w25 ⟨X4, n4, rfl, HN4, HC25⟩
              have R25K := Lib.hid (R24K.out.belowW HC25.out)
              have R25A := Lib.hid (R24A.out.belowW HC25.out)
              have R25B := Lib.hid (R24B.out.belowW HC25.out)
              have R25C := Lib.hid (R24C.out.belowW HC25.out)
              have R25D := Lib.hid (R24D.out.belowW HC25.out)
              have R25Q := Lib.hid (R24Q.out.belowW HC25.out)
              have R25p1 := Lib.hid (R24p1.out.belowW HC25.out)
              have R25p2 := Lib.hid (R24p2.out.belowW HC25.out)
              have HR25 := Lib.hid (HR24.out.trans (HC25.out.mono HR24.out.size))
              have R25p4 := Lib.hid (HN4.out.sl)
              have c25Q0 : w25.cell? ⟨w1.heap.size + 1, 0, none⟩ = some (ofV w1.heap.size) := R25Q.out.cell 0)
           | (go_at_call 8
              (with_reducible refine (mulC w1.heap.size (w1.heap.size + 1) A B n ca m cb a b _ R25K.out R25A.out R25B.out i4 i3 j5).mono ?_)
              rintro e w26 ⟨X5, n5, rfl, HN5, HC26⟩
              have R26K := Lib.hid (R25K.out.belowW HC26.out)
              have R26A := Lib.hid (R25A.out.belowW HC26.out)
              have R26B := Lib.hid (R25B.out.belowW HC26.out)
              have R26C := Lib.hid (R25C.out.belowW HC26.out)
              have R26D := Lib.hid (R25D.out.belowW HC26.out)
              have R26Q := Lib.hid (R25Q.out.belowW HC26.out)
              have R26p1 := Lib.hid (R25p1.out.belowW HC26.out)
              have R26p2 := Lib.hid (R25p2.out.belowW HC26.out)
              have R26p4 := Lib.hid (R25p4.out.belowW HC26.out)
              have HR26 := Lib.hid (HR25.out.trans (HC26.out.mono HR25.out.size))
              have R26p5 := Lib.hid (HN5.out.sl)
              have c26Q0 : w26.cell? ⟨w1.heap.size + 1, 0, none⟩ = some (ofV w1.heap.size) := R26Q.out.cell 0
              have hn5 : n5 ≤ 256 := by rw [← HN5.out.sl.len]; exact j5)
           | (go_at_call 8
              (with_reducible refine (mulC w1.heap.size (w1.heap.size + 1) A C n ca q cc a c _ R26K.out R26A.out R26C.out i4 i2 j6).mono ?_)
              rintro e w27 ⟨X6, n6, rfl, HN6, HC27⟩
              have R27K := Lib.hid (R26K.out.belowW HC27.out)
              have R27A := Lib.hid (R26A.out.belowW HC27.out)
              have R27B := Lib.hid (R26B.out.belowW HC27.out)
              have R27C := Lib.hid (R26C.out.belowW HC27.out)
              have R27D := Lib.hid (R26D.out.belowW HC27.out)
              have R27Q := Lib.hid (R26Q.out.belowW HC27.out)
              have R27p1 := Lib.hid (R26p1.out.belowW HC27.out)
              have R27p2 := Lib.hid (R26p2.out.belowW HC27.out)
              have R27p4 := Lib.hid (R26p4.out.belowW HC27.out)
              have R27p5 := Lib.hid (R26p5.out.belowW HC27.out)
              have HR27 := Lib.hid (HR26.out.trans (HC27.out.mono HR26.out.size))
              have R27p6 := Lib.hid (HN6.out.sl)
              have c27Q0 : w27.cell? ⟨w1.heap.size + 1, 0, none⟩ = some (ofV w1.heap.size) := R27Q.out.cell 0
              have hn6 : n6 ≤ 256 := by rw [← HN6.out.sl.len]; exact j6)
           | (go_at_call 12
              (with_reducible refine (nSub_ok X5 X6 n5 n5 n6 n6 (limbs (val a * val b)) (limbs (val a * val c)) _ R27p5.out R27p6.out hn5 hn6 jle).mono ?_)
              rw [val_limbs, val_limbs, HMS.out]
              rintro e w28 ⟨X7, n7, l7, e7, rfl, HN7, HR7, HC28⟩
              obtain ⟨he7, hl7⟩ := HR7.out.small HJ4.out
              subst he7 hl7
              have R28K := Lib.hid (R27K.out.belowW HC28.out)
              have R28A := Lib.hid (R27A.out.belowW HC28.out)
              have R28B := Lib.hid (R27B.out.belowW HC28.out)
              have R28C := Lib.hid (R27C.out.belowW HC28.out)
              have R28D := Lib.hid (R27D.out.belowW HC28.out)
              have R28Q := Lib.hid (R27Q.out.belowW HC28.out)
              have R28p1 := Lib.hid (R27p1.out.belowW HC28.out)
              have R28p2 := Lib.hid (R27p2.out.belowW HC28.out)
              have R28p4 := Lib.hid (R27p4.out.belowW HC28.out)
              have R28p5 := Lib.hid (R27p5.out.belowW HC28.out)
              have R28p6 := Lib.hid (R27p6.out.belowW HC28.out)
              have HR28 := Lib.hid (HR27.out.trans (HC28.out.mono HR27.out.size))
              have R28p7 := Lib.hid (HN7.out.sl)
              have c28Q0 : w28.cell? ⟨w1.heap.size + 1, 0, none⟩ = some (ofV w1.heap.size) := R28Q.out.cell 0)
           | (go_at_call 5
              (with_reducible refine (of_any w1.heap.size (w1.heap.size + 1) X7 n7 n7 _ R28K.out).mono ?_)
              rintro e w29 ⟨rfl, hr9⟩
              have HC29 := Lib.hid (show Below w28.heap.size w28 w29 by rw [← hr9]; exact Below.refl _ _)
              clear hr9
              have R29K := Lib.hid (R28K.out.belowW HC29.out)
              have R29A := Lib.hid (R28A.out.belowW HC29.out)
              have R29B := Lib.hid (R28B.out.belowW HC29.out)
              have R29C := Lib.hid (R28C.out.belowW HC29.out)
              have R29D := Lib.hid (R28D.out.belowW HC29.out)
              have R29Q := Lib.hid (R28Q.out.belowW HC29.out)
              have R29p1 := Lib.hid (R28p1.out.belowW HC29.out)
              have R29p2 := Lib.hid (R28p2.out.belowW HC29.out)
              have R29p4 := Lib.hid (R28p4.out.belowW HC29.out)
              have R29p5 := Lib.hid (R28p5.out.belowW HC29.out)
              have R29p6 := Lib.hid (R28p6.out.belowW HC29.out)
              have R29p7 := Lib.hid (R28p7.out.belowW HC29.out)
              have HR29 := Lib.hid (HR28.out.trans (HC29.out.mono HR28.out.size))
              have c29Q0 : w29.cell? ⟨w1.heap.size + 1, 0, none⟩ = some (ofV w1.heap.size) := R29Q.out.cell 0)
           | (go_at_call_of 10 (Value.slice X4 n4 n4)
              (with_reducible refine (eq_same X4 X7 n4 n4 n7 n7 _ _ _ R29p4.out R29p7.out rfl).mono ?_)
              rintro e w30 ⟨rfl, HQ8⟩
              obtain ⟨q8, hq8⟩ := HQ8.out
              have HC30 := Lib.hid (show Below w29.heap.size w29 w30 by rw [hq8]; exact below_drewN (Below.refl _ _) _)
              clear hq8
              have R30K := Lib.hid (R29K.out.belowW HC30.out)
              have R30A := Lib.hid (R29A.out.belowW HC30.out)
              have R30B := Lib.hid (R29B.out.belowW HC30.out)
              have R30C := Lib.hid (R29C.out.belowW HC30.out)
              have R30D := Lib.hid (R29D.out.belowW HC30.out)
              have R30Q := Lib.hid (R29Q.out.belowW HC30.out)
              have R30p1 := Lib.hid (R29p1.out.belowW HC30.out)
              have R30p2 := Lib.hid (R29p2.out.belowW HC30.out)
              have R30p4 := Lib.hid (R29p4.out.belowW HC30.out)
              have R30p5 := Lib.hid (R29p5.out.belowW HC30.out)
              have R30p6 := Lib.hid (R29p6.out.belowW HC30.out)
              have R30p7 := Lib.hid (R29p7.out.belowW HC30.out)
              have HR30 := Lib.hid (HR29.out.trans (HC30.out.mono HR29.out.size))
              have c30Q0 : w30.cell? ⟨w1.heap.size + 1, 0, none⟩ = some (ofV w1.heap.size) := R30Q.out.cell 0))
         have HL30 := Lib.hid (L0.out.trans (HR30.out.mono L0.out.size))
         have hok : w30.cell? ⟨w1.heap.size, 0, none⟩ = some (.bool true) := R30K.out.1.cell 0
         go_wp2_with fail
         go_ret
         exact ⟨rfl, HL30⟩)
end Go.Proofs.YtnogfceojmnjiaaDoor
