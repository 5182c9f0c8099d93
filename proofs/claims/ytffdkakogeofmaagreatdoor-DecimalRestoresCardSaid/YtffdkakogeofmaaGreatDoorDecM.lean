/-
  The walk of the law DecimalRestores.
-/
import Derived.Test.YtffdkakogeofmaaGreatDoorDecL
import Derived.Test.YtffdkakogeofmaaGreatDoorDecW
set_option linter.unusedVariables false
namespace Go.Proofs.YtffdkakogeofmaaGreatDoor
open Go.RowKit Go.Fl Go.Fl.Nm Go.Fl.Dy

set_option maxHeartbeats 1000000 in
theorem rest_great (ng : Bool) (A : Option Addr) (n c : Nat) (ex : Int) (l : List Nat) (w : World) (hT : RB w) (hM : MXL w) (h : Sl w A n c l) (hg : 40 < n) : Calls Tryz.prog 6 #[.agg #[.bool ng, .slice A n c, .int .i64 ex]] w (Awk w) := by
  have H1 := Lib.hid h
  have HT := Lib.hid hT
  have HM := Lib.hid hM
  have hn := h.max
  unfold maxLen at hn
  have d1 : decide ((40 : Int) < (n : Int)) = true := decide_eq_true (by omega)
  clear h hT hM
  go_enter Tryz.func6, Tryz.ntmps6
  go_wp2_with fail
  obtain ⟨w1, hw⟩ : ∃ z9 : World, z9 = (w.alloc (.cells #[.bool ng, .slice A n c, .int .i64 ex] 25)) := ⟨_, rfl⟩
  have HB1 := Lib.hid (show Below w.heap.size w w1 by rw [hw]; exact below_a1 _ _)
  have F1a := Lib.hid (H1.out.belowW HB1.out)
  have F1t := Lib.hid (HT.out.belowW HB1.out)
  have F1m := Lib.hid (HM.out.belowW HB1.out)
  have F1d := Lib.hid (show Blk w1 (w.heap.size) 25 #[.bool ng, .slice A n c, .int .i64 ex] by rw [hw]; exact Blk.new _ _ _)
  rw [← hw]
  clear hw
  refine (dAwake_any w1 F1t.out F1m.out).mono ?_
  rintro e w2 ⟨rfl, HB2⟩
  have F2a := Lib.hid (F1a.out.belowW HB2.out)
  have F2t := Lib.hid (F1t.out.belowW HB2.out)
  have F2m := Lib.hid (F1m.out.belowW HB2.out)
  have F2d := Lib.hid (F1d.out.belowW HB2.out)
  have HL2 := Lib.hid (HB1.out.trans (HB2.out.mono HB1.out.size))
  have pd0 : (w2).cell? ⟨w.heap.size, 0, none⟩ = some (.bool ng) := F2d.out.cell 0
  have fd0 : (w2).frozen? ⟨w.heap.size, 0, none⟩ = false := F2d.out.frozen 0
  have pd1 : (w2).cell? ⟨w.heap.size, 1, none⟩ = some (.slice A n c) := F2d.out.cell 1
  have fd1 : (w2).frozen? ⟨w.heap.size, 1, none⟩ = false := F2d.out.frozen 1
  have pd2 : (w2).cell? ⟨w.heap.size, 2, none⟩ = some (.int .i64 ex) := F2d.out.cell 2
  have fd2 : (w2).frozen? ⟨w.heap.size, 2, none⟩ = false := F2d.out.frozen 2
  go_wp2_with fail
  go_ret
  exact ⟨rfl, HL2⟩

set_option maxHeartbeats 1000000 in
theorem rest_inv (ng : Bool) (A : Option Addr) (n c : Nat) (ex : Int) (l : List Nat) (w : World) (hT : RB w) (hM : MXL w) (h : Sl w A n c l) (hg : n ≤ 40) (hv : vldL ng l ex = false) : Calls Tryz.prog 6 #[.agg #[.bool ng, .slice A n c, .int .i64 ex]] w (Awk w) := by
  have H1 := Lib.hid h
  have HT := Lib.hid hT
  have HM := Lib.hid hM
  have hn := h.max
  unfold maxLen at hn
  have d1 : decide ((40 : Int) < (n : Int)) = false := decide_eq_false (by omega)
  have HV := Lib.hid hv
  clear h hT hM hv
  go_enter Tryz.func6, Tryz.ntmps6
  go_wp2_with fail
  obtain ⟨w1, hw⟩ : ∃ z9 : World, z9 = (w.alloc (.cells #[.bool ng, .slice A n c, .int .i64 ex] 25)) := ⟨_, rfl⟩
  have HB1 := Lib.hid (show Below w.heap.size w w1 by rw [hw]; exact below_a1 _ _)
  have F1a := Lib.hid (H1.out.belowW HB1.out)
  have F1t := Lib.hid (HT.out.belowW HB1.out)
  have F1m := Lib.hid (HM.out.belowW HB1.out)
  have F1d := Lib.hid (show Blk w1 (w.heap.size) 25 #[.bool ng, .slice A n c, .int .i64 ex] by rw [hw]; exact Blk.new _ _ _)
  rw [← hw]
  clear hw
  refine (dAwake_any w1 F1t.out F1m.out).mono ?_
  rintro e w2 ⟨rfl, HB2⟩
  have F2a := Lib.hid (F1a.out.belowW HB2.out)
  have F2t := Lib.hid (F1t.out.belowW HB2.out)
  have F2m := Lib.hid (F1m.out.belowW HB2.out)
  have F2d := Lib.hid (F1d.out.belowW HB2.out)
  have HL2 := Lib.hid (HB1.out.trans (HB2.out.mono HB1.out.size))
  have pd0 : (w2).cell? ⟨w.heap.size, 0, none⟩ = some (.bool ng) := F2d.out.cell 0
  have fd0 : (w2).frozen? ⟨w.heap.size, 0, none⟩ = false := F2d.out.frozen 0
  have pd1 : (w2).cell? ⟨w.heap.size, 1, none⟩ = some (.slice A n c) := F2d.out.cell 1
  have fd1 : (w2).frozen? ⟨w.heap.size, 1, none⟩ = false := F2d.out.frozen 1
  have pd2 : (w2).cell? ⟨w.heap.size, 2, none⟩ = some (.int .i64 ex) := F2d.out.cell 2
  have fd2 : (w2).frozen? ⟨w.heap.size, 2, none⟩ = false := F2d.out.frozen 2
  go_wp2_with fail
  refine (exact_no ng A n c ex l w2 F2a.out HV.out).mono ?_
  rintro e w3 ⟨rfl, HB3⟩
  have F3a := Lib.hid (F2a.out.belowW HB3.out)
  have F3t := Lib.hid (F2t.out.belowW HB3.out)
  have F3m := Lib.hid (F2m.out.belowW HB3.out)
  have F3d := Lib.hid (F2d.out.belowW HB3.out)
  have HL3 := Lib.hid (HL2.out.trans (HB3.out.mono HL2.out.size))
  go_wp2_with fail
  go_ret
  exact ⟨rfl, HL3⟩

set_option maxHeartbeats 1000000 in
theorem rest_high (d : D) (A : Option Addr) (n c : Nat) (w : World) (hT : RB w) (hM : MXL w) (h : Sl w A n c (limbs d.k)) (hg : n ≤ 40) (hv : vld d) (hb : 150 < topB d ∨ d.e < -200) : Calls Tryz.prog 6 #[.agg #[.bool d.neg, .slice A n c, .int .i64 d.e]] w (Awk w) := by
  have H1 := Lib.hid h
  have HT := Lib.hid hT
  have HM := Lib.hid hM
  have hn := h.max
  unfold maxLen at hn
  have d1 : decide ((40 : Int) < (n : Int)) = false := decide_eq_false (by omega)
  have HV := Lib.hid hv
  have HE := Lib.hid (show exE d = ([], 9) by unfold exE; rw [if_pos hb])
  clear h hT hM hv hb
  go_enter Tryz.func6, Tryz.ntmps6
  go_wp2_with fail
  obtain ⟨w1, hw⟩ : ∃ z9 : World, z9 = (w.alloc (.cells #[.bool d.neg, .slice A n c, .int .i64 d.e] 25)) := ⟨_, rfl⟩
  have HB1 := Lib.hid (show Below w.heap.size w w1 by rw [hw]; exact below_a1 _ _)
  have F1a := Lib.hid (H1.out.belowW HB1.out)
  have F1t := Lib.hid (HT.out.belowW HB1.out)
  have F1m := Lib.hid (HM.out.belowW HB1.out)
  have F1d := Lib.hid (show Blk w1 (w.heap.size) 25 #[.bool d.neg, .slice A n c, .int .i64 d.e] by rw [hw]; exact Blk.new _ _ _)
  rw [← hw]
  clear hw
  refine (dAwake_any w1 F1t.out F1m.out).mono ?_
  rintro e w2 ⟨rfl, HB2⟩
  have F2a := Lib.hid (F1a.out.belowW HB2.out)
  have F2t := Lib.hid (F1t.out.belowW HB2.out)
  have F2m := Lib.hid (F1m.out.belowW HB2.out)
  have F2d := Lib.hid (F1d.out.belowW HB2.out)
  have HL2 := Lib.hid (HB1.out.trans (HB2.out.mono HB1.out.size))
  have pd0 : (w2).cell? ⟨w.heap.size, 0, none⟩ = some (.bool d.neg) := F2d.out.cell 0
  have fd0 : (w2).frozen? ⟨w.heap.size, 0, none⟩ = false := F2d.out.frozen 0
  have pd1 : (w2).cell? ⟨w.heap.size, 1, none⟩ = some (.slice A n c) := F2d.out.cell 1
  have fd1 : (w2).frozen? ⟨w.heap.size, 1, none⟩ = false := F2d.out.frozen 1
  have pd2 : (w2).cell? ⟨w.heap.size, 2, none⟩ = some (.int .i64 d.e) := F2d.out.cell 2
  have fd2 : (w2).frozen? ⟨w.heap.size, 2, none⟩ = false := F2d.out.frozen 2
  go_wp2_with fail
  refine (exact_yes d A n c w2 F2a.out HV.out F2t.out).mono ?_
  rw [HE.out]
  rintro e w3 ⟨rfl, HB3⟩
  have F3a := Lib.hid (F2a.out.belowW HB3.out)
  have F3t := Lib.hid (F2t.out.belowW HB3.out)
  have F3m := Lib.hid (F2m.out.belowW HB3.out)
  have F3d := Lib.hid (F2d.out.belowW HB3.out)
  have HL3 := Lib.hid (HL2.out.trans (HB3.out.mono HL2.out.size))
  go_wp2_with fail
  go_ret
  exact ⟨rfl, HL3⟩

set_option maxHeartbeats 4000000 in
theorem rest_main (d : D) (A : Option Addr) (n c : Nat) (w : World) (hT : RB w) (hM : MXL w) (h : Sl w A n c (limbs d.k)) (hg : n ≤ 40) (hv : vld d) (hb : ¬ (150 < topB d ∨ d.e < -200)) (he1 : -9223372036854775808 ≤ d.e) (he2 : d.e ≤ 9223372036854775807) : Calls Tryz.prog 6 #[.agg #[.bool d.neg, .slice A n c, .int .i64 d.e]] w (Awk w) := by
  have H1 := Lib.hid h
  have HT := Lib.hid hT
  have HM := Lib.hid hM
  have hn := h.max
  unfold maxLen at hn
  have d1 : decide ((40 : Int) < (n : Int)) = false := decide_eq_false (by omega)
  have hn5 : n ≤ 100000 := by omega
  obtain ⟨S, e1, hS, hk, e2, e3⟩ := rest_law hv hb
  have HV := Lib.hid hv
  have HE := Lib.hid e1
  have hbd := vld_ebd hv
  obtain ⟨J, hJ⟩ : ∃ J, (-d.e).toNat = J := ⟨_, rfl⟩
  rw [hJ] at e3
  obtain ⟨b, hbl⟩ : ∃ b, blen d.k = b := ⟨_, rfl⟩
  rw [hbl] at e2 hk
  have HBL := Lib.hid hbl
  obtain ⟨P, hP⟩ : ∃ P, max b 8 = P := ⟨_, rfl⟩
  rw [hP] at e2
  have HP := Lib.hid e2
  have HTX := Lib.hid e3
  have mx1 : (if (b : Int) < 8 then (8 : Int) else (b : Int)) = (P : Int) := by split <;> omega
  have mx2 : (if (8 : Int) < (b : Int) then (b : Int) else 8) = (P : Int) := by split <;> omega
  have mx3 : max (b : Int) 8 = (P : Int) := by omega
  have hw : IntKind.i64.wrap (-d.e) = -d.e := IntWalk.i64_in _ (by omega)
  have my1 : (if (0 : Int) < -d.e then -d.e else 0) = (J : Int) := by split <;> omega
  have my2 : (if -d.e < 0 then (0 : Int) else -d.e) = (J : Int) := by split <;> omega
  have my3 : max (0 : Int) (-d.e) = (J : Int) := by omega
  have HC := Lib.hid ((cmp_le hv hv).2 (Int.le_refl _))
  have hS3 : S.length ≤ 3000 := by omega
  have hs1 : ¬ 9223372036854775807 < 1 + S.length := by omega
  have hs2 : ¬ 9223372036854775807 < 1 + S.length + 2 := by omega
  have hs3 : ¬ 9223372036854775807 < 1 + S.length + 2 + S.length := by omega
  have hs4 : ¬ 9223372036854775807 < 1 + S.length + 2 + S.length + 1 := by omega
  have HO := Lib.hid (show oneB false false true true = true from rfl)
  have HS1 := Lib.hid (show sameB d.neg d.neg (limbs d.k) (limbs d.k) d.e d.e = true by unfold sameB; simp)
  clear h hT hM hv hb hbl hP e1 e2 e3
  go_enter Tryz.func6, Tryz.ntmps6
  go_wp2_with fail
  obtain ⟨w1, hw⟩ : ∃ z9 : World, z9 = (w.alloc (.cells #[.bool d.neg, .slice A n c, .int .i64 d.e] 25)) := ⟨_, rfl⟩
  have HB1 := Lib.hid (show Below w.heap.size w w1 by rw [hw]; exact below_a1 _ _)
  have F1a := Lib.hid (H1.out.belowW HB1.out)
  have F1t := Lib.hid (HT.out.belowW HB1.out)
  have F1m := Lib.hid (HM.out.belowW HB1.out)
  have F1d := Lib.hid (show Blk w1 (w.heap.size) 25 #[.bool d.neg, .slice A n c, .int .i64 d.e] by rw [hw]; exact Blk.new _ _ _)
  rw [← hw]
  clear hw
  refine (dAwake_any w1 F1t.out F1m.out).mono ?_
  rintro e w2 ⟨rfl, HB2⟩
  have F2a := Lib.hid (F1a.out.belowW HB2.out)
  have F2t := Lib.hid (F1t.out.belowW HB2.out)
  have F2m := Lib.hid (F1m.out.belowW HB2.out)
  have F2d := Lib.hid (F1d.out.belowW HB2.out)
  have HL2 := Lib.hid (HB1.out.trans (HB2.out.mono HB1.out.size))
  have pd0 : (w2).cell? ⟨w.heap.size, 0, none⟩ = some (.bool d.neg) := F2d.out.cell 0
  have fd0 : (w2).frozen? ⟨w.heap.size, 0, none⟩ = false := F2d.out.frozen 0
  have pd1 : (w2).cell? ⟨w.heap.size, 1, none⟩ = some (.slice A n c) := F2d.out.cell 1
  have fd1 : (w2).frozen? ⟨w.heap.size, 1, none⟩ = false := F2d.out.frozen 1
  have pd2 : (w2).cell? ⟨w.heap.size, 2, none⟩ = some (.int .i64 d.e) := F2d.out.cell 2
  have fd2 : (w2).frozen? ⟨w.heap.size, 2, none⟩ = false := F2d.out.frozen 2
  go_wp2_with fail
  refine (exact_yes d A n c w2 F2a.out HV.out F2t.out).mono ?_
  rw [HE.out]
  rintro e w3 ⟨rfl, HB3⟩
  have F3a := Lib.hid (F2a.out.belowW HB3.out)
  have F3t := Lib.hid (F2t.out.belowW HB3.out)
  have F3m := Lib.hid (F2m.out.belowW HB3.out)
  have F3d := Lib.hid (F2d.out.belowW HB3.out)
  have HL3 := Lib.hid (HL2.out.trans (HB3.out.mono HL2.out.size))
  clear pd0 fd0 pd1 fd1 pd2 fd2
  have pd0 : (w3).cell? ⟨w.heap.size, 0, none⟩ = some (.bool d.neg) := F3d.out.cell 0
  have fd0 : (w3).frozen? ⟨w.heap.size, 0, none⟩ = false := F3d.out.frozen 0
  have pd1 : (w3).cell? ⟨w.heap.size, 1, none⟩ = some (.slice A n c) := F3d.out.cell 1
  have fd1 : (w3).frozen? ⟨w.heap.size, 1, none⟩ = false := F3d.out.frozen 1
  have pd2 : (w3).cell? ⟨w.heap.size, 2, none⟩ = some (.int .i64 d.e) := F3d.out.cell 2
  have fd2 : (w3).frozen? ⟨w.heap.size, 2, none⟩ = false := F3d.out.frozen 2
  go_wp2_with fail
  refine (dbits_any d A n c w3 F3a.out HV.out).mono ?_
  rw [HBL.out]
  rintro e w4 ⟨rfl, HB4⟩
  have F4a := Lib.hid (F3a.out.belowW HB4.out)
  have F4t := Lib.hid (F3t.out.belowW HB4.out)
  have F4m := Lib.hid (F3m.out.belowW HB4.out)
  have F4d := Lib.hid (F3d.out.belowW HB4.out)
  have HL4 := Lib.hid (HL3.out.trans (HB4.out.mono HL3.out.size))
  clear pd0 fd0 pd1 fd1 pd2 fd2
  have pd0 : (w4).cell? ⟨w.heap.size, 0, none⟩ = some (.bool d.neg) := F4d.out.cell 0
  have fd0 : (w4).frozen? ⟨w.heap.size, 0, none⟩ = false := F4d.out.frozen 0
  have pd1 : (w4).cell? ⟨w.heap.size, 1, none⟩ = some (.slice A n c) := F4d.out.cell 1
  have fd1 : (w4).frozen? ⟨w.heap.size, 1, none⟩ = false := F4d.out.frozen 1
  have pd2 : (w4).cell? ⟨w.heap.size, 2, none⟩ = some (.int .i64 d.e) := F4d.out.cell 2
  have fd2 : (w4).frozen? ⟨w.heap.size, 2, none⟩ = false := F4d.out.frozen 2
  go_wp2_with fail
  refine (parse_list S (P : Int) _ w4 HP.out hS3 F4t.out F4m.out).mono ?_
  rintro e w5 ⟨U, V, u, uc, v, vc, rfl, HU, HW, HB5⟩
  have F5a := Lib.hid (F4a.out.belowW HB5.out)
  have F5t := Lib.hid (F4t.out.belowW HB5.out)
  have F5m := Lib.hid (F4m.out.belowW HB5.out)
  have F5d := Lib.hid (F4d.out.belowW HB5.out)
  have HL5 := Lib.hid (HL4.out.trans (HB5.out.mono HL4.out.size))
  have F5u := Lib.hid (HU.out)
  have F5v := Lib.hid (HW.out)
  clear pd0 fd0 pd1 fd1 pd2 fd2
  go_upto_region 9 with (fail)
  obtain ⟨w6, hw⟩ : ∃ z9 : World, z9 = w5.alloc (.cells #[.bool d.neg, .slice U u uc, .int .i64 d.e, .bool d.neg, .slice V v vc, .int .i64 d.e, .bool false] 27) := ⟨_, rfl⟩
  have HB6 := Lib.hid (show Below w5.heap.size w5 w6 by rw [hw]; exact below_a1 _ _)
  have F6x := Lib.hid (show Blk w6 w5.heap.size 27 #[.bool d.neg, .slice U u uc, .int .i64 d.e, .bool d.neg, .slice V v vc, .int .i64 d.e, .bool false] by rw [hw]; exact Blk.new _ _ _)
  rw [← hw]
  clear hw
  have F6a := Lib.hid (F5a.out.belowW HB6.out)
  have F6t := Lib.hid (F5t.out.belowW HB6.out)
  have F6m := Lib.hid (F5m.out.belowW HB6.out)
  have F6d := Lib.hid (F5d.out.belowW HB6.out)
  have F6u := Lib.hid (F5u.out.belowW HB6.out)
  have F6v := Lib.hid (F5v.out.belowW HB6.out)
  have HL6 := Lib.hid (HL5.out.trans (HB6.out.mono HL5.out.size))
  go_wp2_with fail
  have HR7 := Lib.hid (below_dr w6)
  have R7a := Lib.hid (F6a.out.belowW HR7.out)
  have R7t := Lib.hid (F6t.out.belowW HR7.out)
  have R7m := Lib.hid (F6m.out.belowW HR7.out)
  have R7d := Lib.hid (F6d.out.belowW HR7.out)
  have R7u := Lib.hid (F6u.out.belowW HR7.out)
  have R7v := Lib.hid (F6v.out.belowW HR7.out)
  have R7x := Lib.hid (F6x.out.belowW HR7.out)
  have c7d0 : w6.drew.cell? ⟨w.heap.size, 0, none⟩ = some (.bool d.neg) := R7d.out.cell 0
  have c7d1 : w6.drew.cell? ⟨w.heap.size, 1, none⟩ = some (.slice A n c) := R7d.out.cell 1
  have c7d2 : w6.drew.cell? ⟨w.heap.size, 2, none⟩ = some (.int .i64 d.e) := R7d.out.cell 2
  have c7x0 : w6.drew.cell? ⟨w5.heap.size, 0, none⟩ = some (.bool d.neg) := R7x.out.cell 0
  have c7x1 : w6.drew.cell? ⟨w5.heap.size, 1, none⟩ = some (.slice U u uc) := R7x.out.cell 1
  have c7x2 : w6.drew.cell? ⟨w5.heap.size, 2, none⟩ = some (.int .i64 d.e) := R7x.out.cell 2
  have c7x3 : w6.drew.cell? ⟨w5.heap.size, 3, none⟩ = some (.bool d.neg) := R7x.out.cell 3
  have c7x4 : w6.drew.cell? ⟨w5.heap.size, 4, none⟩ = some (.slice V v vc) := R7x.out.cell 4
  have c7x5 : w6.drew.cell? ⟨w5.heap.size, 5, none⟩ = some (.int .i64 d.e) := R7x.out.cell 5
  have c7x6 : w6.drew.cell? ⟨w5.heap.size, 6, none⟩ = some (.bool false) := R7x.out.cell 6
  go_region_held3 (fun w' => w'.cell? ⟨w.heap.size, 0, none⟩ = some (.bool d.neg) ∧ w'.cell? ⟨w.heap.size, 1, none⟩ = some (.slice A n c) ∧ w'.cell? ⟨w.heap.size, 2, none⟩ = some (.int .i64 d.e) ∧ w'.cell? ⟨w5.heap.size, 0, none⟩ = some (.bool d.neg) ∧ w'.cell? ⟨w5.heap.size, 1, none⟩ = some (.slice U u uc) ∧ w'.cell? ⟨w5.heap.size, 2, none⟩ = some (.int .i64 d.e) ∧ w'.cell? ⟨w5.heap.size, 3, none⟩ = some (.bool d.neg) ∧ w'.cell? ⟨w5.heap.size, 4, none⟩ = some (.slice V v vc) ∧ w'.cell? ⟨w5.heap.size, 5, none⟩ = some (.int .i64 d.e) ∧ w'.cell? ⟨w5.heap.size, 6, none⟩ = some (.bool false)) ((with_reducible refine ⟨?_, ?_, ?_, ?_, ?_, ?_, ?_, ?_, ?_, ?_⟩) <;> (with_reducible assumption)) (first
    | (go_at_call 22
       (with_reducible refine (point_any d A n c _ R7a.out HV.out).mono ?_)
       rintro e w8 ⟨rfl, HC8⟩
       have R8a := Lib.hid (R7a.out.belowW HC8.out)
       have R8t := Lib.hid (R7t.out.belowW HC8.out)
       have R8m := Lib.hid (R7m.out.belowW HC8.out)
       have R8d := Lib.hid (R7d.out.belowW HC8.out)
       have R8u := Lib.hid (R7u.out.belowW HC8.out)
       have R8v := Lib.hid (R7v.out.belowW HC8.out)
       have R8x := Lib.hid (R7x.out.belowW HC8.out)
       have HR8 := Lib.hid (HR7.out.trans (HC8.out.mono HR7.out.size))
       have c8d0 : w8.cell? ⟨w.heap.size, 0, none⟩ = some (.bool d.neg) := R8d.out.cell 0
       have c8d1 : w8.cell? ⟨w.heap.size, 1, none⟩ = some (.slice A n c) := R8d.out.cell 1
       have c8d2 : w8.cell? ⟨w.heap.size, 2, none⟩ = some (.int .i64 d.e) := R8d.out.cell 2
       have c8x0 : w8.cell? ⟨w5.heap.size, 0, none⟩ = some (.bool d.neg) := R8x.out.cell 0
       have c8x1 : w8.cell? ⟨w5.heap.size, 1, none⟩ = some (.slice U u uc) := R8x.out.cell 1
       have c8x2 : w8.cell? ⟨w5.heap.size, 2, none⟩ = some (.int .i64 d.e) := R8x.out.cell 2
       have c8x3 : w8.cell? ⟨w5.heap.size, 3, none⟩ = some (.bool d.neg) := R8x.out.cell 3
       have c8x4 : w8.cell? ⟨w5.heap.size, 4, none⟩ = some (.slice V v vc) := R8x.out.cell 4
       have c8x5 : w8.cell? ⟨w5.heap.size, 5, none⟩ = some (.int .i64 d.e) := R8x.out.cell 5
       have c8x6 : w8.cell? ⟨w5.heap.size, 6, none⟩ = some (.bool false) := R8x.out.cell 6)
    | (go_at_call 12
       (with_reducible refine (one_any d.neg d.neg d.neg d.neg false false U A V A u uc n c v vc n c (limbs d.k) (limbs d.k) (limbs d.k) (limbs d.k) d.e d.e d.e d.e _ R8u.out R8a.out R8v.out R8a.out).mono ?_)
       rw [HS1.out, HO.out]
       rintro e w9 ⟨rfl, HC9⟩
       have R9a := Lib.hid (R8a.out.belowW HC9.out)
       have R9t := Lib.hid (R8t.out.belowW HC9.out)
       have R9m := Lib.hid (R8m.out.belowW HC9.out)
       have R9d := Lib.hid (R8d.out.belowW HC9.out)
       have R9u := Lib.hid (R8u.out.belowW HC9.out)
       have R9v := Lib.hid (R8v.out.belowW HC9.out)
       have R9x := Lib.hid (R8x.out.belowW HC9.out)
       have HR9 := Lib.hid (HR8.out.trans (HC9.out.mono HR8.out.size))
       have c9d0 : w9.cell? ⟨w.heap.size, 0, none⟩ = some (.bool d.neg) := R9d.out.cell 0
       have c9d1 : w9.cell? ⟨w.heap.size, 1, none⟩ = some (.slice A n c) := R9d.out.cell 1
       have c9d2 : w9.cell? ⟨w.heap.size, 2, none⟩ = some (.int .i64 d.e) := R9d.out.cell 2
       have c9x0 : w9.cell? ⟨w5.heap.size, 0, none⟩ = some (.bool d.neg) := R9x.out.cell 0
       have c9x1 : w9.cell? ⟨w5.heap.size, 1, none⟩ = some (.slice U u uc) := R9x.out.cell 1
       have c9x2 : w9.cell? ⟨w5.heap.size, 2, none⟩ = some (.int .i64 d.e) := R9x.out.cell 2
       have c9x3 : w9.cell? ⟨w5.heap.size, 3, none⟩ = some (.bool d.neg) := R9x.out.cell 3
       have c9x4 : w9.cell? ⟨w5.heap.size, 4, none⟩ = some (.slice V v vc) := R9x.out.cell 4
       have c9x5 : w9.cell? ⟨w5.heap.size, 5, none⟩ = some (.int .i64 d.e) := R9x.out.cell 5
       have c9x6 : w9.cell? ⟨w5.heap.size, 6, none⟩ = some (.bool false) := R9x.out.cell 6))
  have HL9 := Lib.hid (HL6.out.trans (HR9.out.mono HL6.out.size))
  have pd0 : (w9).cell? ⟨w.heap.size, 0, none⟩ = some (.bool d.neg) := R9d.out.cell 0
  have fd0 : (w9).frozen? ⟨w.heap.size, 0, none⟩ = false := R9d.out.frozen 0
  have pd1 : (w9).cell? ⟨w.heap.size, 1, none⟩ = some (.slice A n c) := R9d.out.cell 1
  have fd1 : (w9).frozen? ⟨w.heap.size, 1, none⟩ = false := R9d.out.frozen 1
  have pd2 : (w9).cell? ⟨w.heap.size, 2, none⟩ = some (.int .i64 d.e) := R9d.out.cell 2
  have fd2 : (w9).frozen? ⟨w.heap.size, 2, none⟩ = false := R9d.out.frozen 2
  have px0 : (w9).cell? ⟨w5.heap.size, 0, none⟩ = some (.bool d.neg) := R9x.out.cell 0
  have fx0 : (w9).frozen? ⟨w5.heap.size, 0, none⟩ = false := R9x.out.frozen 0
  have px1 : (w9).cell? ⟨w5.heap.size, 1, none⟩ = some (.slice U u uc) := R9x.out.cell 1
  have fx1 : (w9).frozen? ⟨w5.heap.size, 1, none⟩ = false := R9x.out.frozen 1
  have px2 : (w9).cell? ⟨w5.heap.size, 2, none⟩ = some (.int .i64 d.e) := R9x.out.cell 2
  have fx2 : (w9).frozen? ⟨w5.heap.size, 2, none⟩ = false := R9x.out.frozen 2
  have px3 : (w9).cell? ⟨w5.heap.size, 3, none⟩ = some (.bool d.neg) := R9x.out.cell 3
  have fx3 : (w9).frozen? ⟨w5.heap.size, 3, none⟩ = false := R9x.out.frozen 3
  have px4 : (w9).cell? ⟨w5.heap.size, 4, none⟩ = some (.slice V v vc) := R9x.out.cell 4
  have fx4 : (w9).frozen? ⟨w5.heap.size, 4, none⟩ = false := R9x.out.frozen 4
  have px5 : (w9).cell? ⟨w5.heap.size, 5, none⟩ = some (.int .i64 d.e) := R9x.out.cell 5
  have fx5 : (w9).frozen? ⟨w5.heap.size, 5, none⟩ = false := R9x.out.frozen 5
  have px6 : (w9).cell? ⟨w5.heap.size, 6, none⟩ = some (.bool false) := R9x.out.cell 6
  have fx6 : (w9).frozen? ⟨w5.heap.size, 6, none⟩ = false := R9x.out.frozen 6
  by_cases h50 : 50 < J
  case pos =>
    have d5 : decide ((50 : Int) < (J : Int)) = true := decide_eq_true (by omega)
    have d5' : decide (50 < J) = true := decide_eq_true h50
    go_wp2_with fail
    go_ret
    exact ⟨rfl, HL9⟩
  have d5 : decide ((50 : Int) < (J : Int)) = false := decide_eq_false (by omega)
  have d5' : decide (50 < J) = false := decide_eq_false h50
  have hJ50 : J ≤ 50 := by omega
  go_wp2_with fail
  refine (dText_any d d U u uc V v vc J w9 R9u.out R9v.out HV.out HV.out HC.out hJ50 R9t.out).mono ?_
  rw [HTX.out]
  rintro e w10 ⟨rfl, HB10⟩
  have F10a := Lib.hid (R9a.out.belowW HB10.out)
  have F10t := Lib.hid (R9t.out.belowW HB10.out)
  have F10m := Lib.hid (R9m.out.belowW HB10.out)
  have F10d := Lib.hid (R9d.out.belowW HB10.out)
  have F10u := Lib.hid (R9u.out.belowW HB10.out)
  have F10v := Lib.hid (R9v.out.belowW HB10.out)
  have F10x := Lib.hid (R9x.out.belowW HB10.out)
  have HL10 := Lib.hid (HL9.out.trans (HB10.out.mono HL9.out.size))
  go_wp2_with fail
  go_ret
  exact ⟨ret_bool (by rw [beq_iff_eq, bl_data]; simp [ByteArray.data_append]), HL10⟩
theorem decimalRestores_any (ng : Bool) (A : Option Addr) (n c : Nat) (ex : Int) (l : List Nat) (w : World) (hT : RB w) (hM : MXL w) (h : Sl w A n c l) (i1 : -9223372036854775808 ≤ ex) (i2 : ex ≤ 9223372036854775807) : Calls Tryz.prog 6 #[.agg #[.bool ng, .slice A n c, .int .i64 ex]] w (Awk w) := by
  by_cases hg : 40 < n
  · exact rest_great ng A n c ex l w hT hM h hg
  · cases hv : vldL ng l ex with
    | false => exact rest_inv ng A n c ex l w hT hM h (by omega) hv
    | true =>
      obtain ⟨e1, v1⟩ := vldL_iff.1 hv
      obtain ⟨x, hx⟩ : ∃ x : D, x = ⟨ng, val l, ex⟩ := ⟨_, rfl⟩
      rw [← hx] at v1
      obtain rfl : ng = x.neg := by rw [hx]
      obtain rfl : ex = x.e := by rw [hx]
      rw [e1, show val l = x.k by rw [hx]] at h
      by_cases hb : 150 < topB x ∨ x.e < -200
      · exact rest_high x A n c w hT hM h (by omega) v1 hb
      · exact rest_main x A n c w hT hM h (by omega) v1 hb i1 i2
end Go.Proofs.YtffdkakogeofmaaGreatDoor
