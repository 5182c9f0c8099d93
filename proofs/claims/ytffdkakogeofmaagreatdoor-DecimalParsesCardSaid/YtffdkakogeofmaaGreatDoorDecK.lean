/-
  The walk of the law's awake.
-/
import Derived.Test.YtffdkakogeofmaaGreatDoorDecJ
import Derived.Test.YtffdkakogeofmaaGreatDoorDecU
set_option linter.unusedVariables false
namespace Go.Proofs.YtffdkakogeofmaaGreatDoor
open Go.RowKit Go.Fl Go.Fl.Nm Go.Fl.Dy
open Go.Lib (decDigits)
theorem vld_85 : vld ⟨false, 85, -8⟩ := .inr ⟨by decide, by decide, by decide, by decide, by decide⟩
theorem vld_171 : vld ⟨false, 171, -9⟩ := .inr ⟨by decide, by decide, by decide, by decide, by decide⟩
theorem vld_13 : vld ⟨true, 13, -4⟩ := .inr ⟨by decide, by decide, by decide, by decide, by decide⟩
theorem cmp_85 : cmpD ⟨false, 85, -8⟩ ⟨false, 171, -9⟩ ≤ 0 := by decide
theorem txt_example : txtI ⟨false, 85, -8⟩ ⟨false, 171, -9⟩ 3 = [91, 48, 46, 51, 51, 50, 44, 32, 48, 46, 51, 51, 52, 93] := by decide +kernel
theorem dig_example : digR ⟨false, 85, -8⟩ ⟨false, 171, -9⟩ = 2 := by decide +kernel
theorem exact_example : exE ⟨true, 13, -4⟩ = ([45, 48, 46, 56, 49, 50, 53], 0) := by decide +kernel
theorem enc_33 (up : Bool) : encE 3333333333333333333333 ((10 ^ 22 : Nat) : Int) 8 up = if up then ⟨false, 171, -9⟩ else ⟨false, 85, -8⟩ := by
  have hE : Enc 3333333333333333333333 (10 ^ 22) 8 170 (-9) := ⟨⟨0, 9, rfl, by decide, by decide⟩, by decide, by decide⟩
  have h1 := Enc.unique (by decide) (by decide) hE (enc_spec (n := 3333333333333333333333) (d := 10 ^ 22) (p := 8) (by decide) (by decide) (by decide))
  have hx : encX 3333333333333333333333 (10 ^ 22) 8 = false := by
    rw [Bool.eq_false_iff]
    intro h
    have := (encX_iff (n := 3333333333333333333333) (d := 10 ^ 22) (p := 8) (by decide)).1 h
    rw [← h1.1, ← h1.2] at this
    have := Ex.all this (x := 0) (y := 9) rfl
    exact absurd this (by decide)
  unfold encE
  rw [if_neg (by decide)]
  rw [show ((3333333333333333333333 : Int).natAbs) = 3333333333333333333333 from rfl, Int.natAbs_natCast, ← h1.1, ← h1.2, hx]
  have e1 : v2 170 = 1 ∧ od 170 = 85 := v2_unique (by decide) (by decide)
  cases up with
  | false =>
    rw [show endQ 170 false (false != decide ((3333333333333333333333 : Int) < 0)) = 170 by decide, canon_pos (k := 170) (by decide), e1.1, e1.2]
    rfl
  | true =>
    rw [show endQ 170 false (true != decide ((3333333333333333333333 : Int) < 0)) = 171 by decide, canon_odd (k := 171) (by decide)]
    rfl
theorem parse_33 : parR [48, 46, 51, 51, 51, 51, 51, 51, 51, 51, 51, 51, 51, 51, 51, 51, 51, 51, 51, 51, 51, 51, 51, 51] 8 = ((⟨false, 85, -8⟩, ⟨false, 171, -9⟩, false), 0) := by
  have hr : rdN [48, 46, 51, 51, 51, 51, 51, 51, 51, 51, 51, 51, 51, 51, 51, 51, 51, 51, 51, 51, 51, 51, 51, 51] = (⟨false, 3333333333333333333333, 22, 23⟩, true) := by kernel_rfl
  have hb : brkD [48, 46, 51, 51, 51, 51, 51, 51, 51, 51, 51, 51, 51, 51, 51, 51, 51, 51, 51, 51, 51, 51, 51, 51] = some ([48, 46, 51, 51, 51, 51, 51, 51, 51, 51, 51, 51, 51, 51, 51, 51, 51, 51, 51, 51, 51, 51, 51, 51], [48, 46, 51, 51, 51, 51, 51, 51, 51, 51, 51, 51, 51, 51, 51, 51, 51, 51, 51, 51, 51, 51, 51, 51]) := by rfl
  unfold parR
  rw [if_neg (by decide), hb]
  simp only
  rw [hr]
  have e1 := round_enc (neg := false) (v := 3333333333333333333333) (b := 22) (p := 8) false (by decide) (Nat.le_trans (blen_le (k := 100) (by decide)) (by omega)) (Nat.le_trans (blen_le (k := 100) (by decide)) (by omega)) (by omega) (by omega)
  have e2 := round_enc (neg := false) (v := 3333333333333333333333) (b := 22) (p := 8) true (by decide) (Nat.le_trans (blen_le (k := 100) (by decide)) (by omega)) (Nat.le_trans (blen_le (k := 100) (by decide)) (by omega)) (by omega) (by omega)
  rw [show sI false 3333333333333333333333 = 3333333333333333333333 from rfl, enc_33] at e1 e2
  unfold parT
  rw [if_neg (by decide), if_neg (by decide), if_neg (by decide)]
  rw [show ((8 : Nat) : Int) = 8 from rfl] at e1 e2
  simp only
  rw [e1, e2]
  rfl
set_option maxHeartbeats 4000000 in
theorem dAwake_any (w : World) (hT : RB w) (hM : MXL w) : Calls Tryz.prog 9 #[] w (Awk w) := by
  have HT := Lib.hid hT
  have HM := Lib.hid hM
  clear hT hM
  have V1 := Lib.hid vld_85
  have V2 := Lib.hid vld_171
  have V3 := Lib.hid vld_13
  have VC := Lib.hid cmp_85
  have K1 := Lib.hid txt_example
  have K2 := Lib.hid dig_example
  have K3 := Lib.hid exact_example
  have K4 := Lib.hid parse_33
  have S1 := Lib.hid (show sameB false false (limbs 85) (limbs 85) (-8) (-8) = true by unfold sameB; simp)
  have S2 := Lib.hid (show sameB false false (limbs 171) (limbs 171) (-9) (-9) = true by unfold sameB; simp)
  have b85 : 0 < 85 ∧ 85 < BB := ⟨by omega, by unfold BB; omega⟩
  have b171 : 0 < 171 ∧ 171 < BB := ⟨by omega, by unfold BB; omega⟩
  have b13 : 0 < 13 ∧ 13 < BB := ⟨by omega, by unfold BB; omega⟩
  go_enter Tryz.func9, Tryz.ntmps9
  go_wp2_with fail
  refine (num_any false 85 (-8) w b85.1 b85.2).mono ?_
  rintro e w1 ⟨A, n, c, rfl, HA, HB1⟩
  have F1t := Lib.hid (HT.out.belowW HB1.out)
  have F1m := Lib.hid (HM.out.belowW HB1.out)
  have F1a := Lib.hid (HA.out)
  go_wp2_with fail
  refine (num_any false 171 (-9) w1 b171.1 b171.2).mono ?_
  rintro e w2 ⟨B, m, d, rfl, HYb, HB2⟩
  have F2t := Lib.hid (F1t.out.belowW HB2.out)
  have F2m := Lib.hid (F1m.out.belowW HB2.out)
  have F2a := Lib.hid (F1a.out.belowW HB2.out)
  have HL2 := Lib.hid (HB1.out.trans (HB2.out.mono HB1.out.size))
  have F2b := Lib.hid (HYb.out)
  go_upto_region 2 with (fail)
  obtain ⟨w3, hw⟩ : ∃ z9 : World, z9 = w2.alloc (.cells #[.bool false, .slice A n c, .int .i64 (-8), .bool false, .slice B m d, .int .i64 (-9), .bool false] 27) := ⟨_, rfl⟩
  have HB3 := Lib.hid (show Below w2.heap.size w2 w3 by rw [hw]; exact below_a1 _ _)
  have F3x := Lib.hid (show Blk w3 w2.heap.size 27 #[.bool false, .slice A n c, .int .i64 (-8), .bool false, .slice B m d, .int .i64 (-9), .bool false] by rw [hw]; exact Blk.new _ _ _)
  rw [← hw]
  clear hw
  have F3t := Lib.hid (F2t.out.belowW HB3.out)
  have F3m := Lib.hid (F2m.out.belowW HB3.out)
  have F3a := Lib.hid (F2a.out.belowW HB3.out)
  have F3b := Lib.hid (F2b.out.belowW HB3.out)
  have HL3 := Lib.hid (HL2.out.trans (HB3.out.mono HL2.out.size))
  go_wp2_with fail
  refine (num_any true 13 (-4) w3 b13.1 b13.2).mono ?_
  rintro e w4 ⟨C, k, kc, rfl, HC, HB4⟩
  have F4t := Lib.hid (F3t.out.belowW HB4.out)
  have F4m := Lib.hid (F3m.out.belowW HB4.out)
  have F4a := Lib.hid (F3a.out.belowW HB4.out)
  have F4b := Lib.hid (F3b.out.belowW HB4.out)
  have F4x := Lib.hid (F3x.out.belowW HB4.out)
  have HL4 := Lib.hid (HL3.out.trans (HB4.out.mono HL3.out.size))
  have F4c := Lib.hid (HC.out)
  go_wp2_with fail
  refine (exact_yes ⟨true, 13, -4⟩ C k kc w4 F4c.out V3.out F4t.out).mono ?_
  rw [K3.out]
  rintro e w5 ⟨rfl, HB5⟩
  have F5t := Lib.hid (F4t.out.belowW HB5.out)
  have F5m := Lib.hid (F4m.out.belowW HB5.out)
  have F5a := Lib.hid (F4a.out.belowW HB5.out)
  have F5b := Lib.hid (F4b.out.belowW HB5.out)
  have F5x := Lib.hid (F4x.out.belowW HB5.out)
  have F5c := Lib.hid (F4c.out.belowW HB5.out)
  have HL5 := Lib.hid (HL4.out.trans (HB5.out.mono HL4.out.size))
  go_wp2_with fail
  refine (parse_at ⟨#[48, 46, 51, 51, 51, 51, 51, 51, 51, 51, 51, 51, 51, 51, 51, 51, 51, 51, 51, 51, 51, 51, 51, 51]⟩ 8 w5 (by decide) F5t.out F5m.out).mono ?_
  rw [show parR (⟨#[48, 46, 51, 51, 51, 51, 51, 51, 51, 51, 51, 51, 51, 51, 51, 51, 51, 51, 51, 51, 51, 51, 51, 51]⟩ : ByteArray).data.toList 8 = _ from K4.out]
  rintro e w6 ⟨A', B', n', c', m', d', rfl, HA', HYb', HB6⟩
  have F6t := Lib.hid (F5t.out.belowW HB6.out)
  have F6m := Lib.hid (F5m.out.belowW HB6.out)
  have F6a := Lib.hid (F5a.out.belowW HB6.out)
  have F6b := Lib.hid (F5b.out.belowW HB6.out)
  have F6x := Lib.hid (F5x.out.belowW HB6.out)
  have F6c := Lib.hid (F5c.out.belowW HB6.out)
  have HL6 := Lib.hid (HL5.out.trans (HB6.out.mono HL5.out.size))
  have F6a2 := Lib.hid (HA'.out)
  have F6b2 := Lib.hid (HYb'.out)
  go_upto_region 4 with (fail)
  obtain ⟨w7, hw⟩ : ∃ z9 : World, z9 = w6.alloc (.cells #[.bool false, .slice A' n' c', .int .i64 (-8), .bool false, .slice B' m' d', .int .i64 (-9), .bool false] 27) := ⟨_, rfl⟩
  have HB7 := Lib.hid (show Below w6.heap.size w6 w7 by rw [hw]; exact below_a1 _ _)
  have F7y := Lib.hid (show Blk w7 w6.heap.size 27 #[.bool false, .slice A' n' c', .int .i64 (-8), .bool false, .slice B' m' d', .int .i64 (-9), .bool false] by rw [hw]; exact Blk.new _ _ _)
  rw [← hw]
  clear hw
  have F7t := Lib.hid (F6t.out.belowW HB7.out)
  have F7m := Lib.hid (F6m.out.belowW HB7.out)
  have F7a := Lib.hid (F6a.out.belowW HB7.out)
  have F7b := Lib.hid (F6b.out.belowW HB7.out)
  have F7x := Lib.hid (F6x.out.belowW HB7.out)
  have F7c := Lib.hid (F6c.out.belowW HB7.out)
  have F7a2 := Lib.hid (F6a2.out.belowW HB7.out)
  have F7b2 := Lib.hid (F6b2.out.belowW HB7.out)
  have HL7 := Lib.hid (HL6.out.trans (HB7.out.mono HL6.out.size))
  obtain ⟨px0, fx0, px1, fx1, px2, fx2, px3, fx3, px4, fx4, px5, fx5, px6, fx6⟩ := F7x.out.all7
  go_wp2_with fail
  refine (dText_any ⟨false, 85, -8⟩ ⟨false, 171, -9⟩ A n c B m d 3 w7 F7a.out F7b.out V1.out V2.out VC.out (by omega) F7t.out).mono ?_
  rw [K1.out]
  rintro e w8 ⟨rfl, HB8⟩
  have F8t := Lib.hid (F7t.out.belowW HB8.out)
  have F8m := Lib.hid (F7m.out.belowW HB8.out)
  have F8a := Lib.hid (F7a.out.belowW HB8.out)
  have F8b := Lib.hid (F7b.out.belowW HB8.out)
  have F8x := Lib.hid (F7x.out.belowW HB8.out)
  have F8c := Lib.hid (F7c.out.belowW HB8.out)
  have F8a2 := Lib.hid (F7a2.out.belowW HB8.out)
  have F8b2 := Lib.hid (F7b2.out.belowW HB8.out)
  have F8y := Lib.hid (F7y.out.belowW HB8.out)
  have HL8 := Lib.hid (HL7.out.trans (HB8.out.mono HL7.out.size))
  clear px0 fx0 px1 fx1 px2 fx2 px3 fx3 px4 fx4 px5 fx5 px6 fx6
  obtain ⟨px0, fx0, px1, fx1, px2, fx2, px3, fx3, px4, fx4, px5, fx5, px6, fx6⟩ := F8x.out.all7
  go_wp2_with fail
  refine (digits_yes ⟨false, 85, -8⟩ ⟨false, 171, -9⟩ A n c B m d w8 F8a.out F8b.out V1.out V2.out VC.out F8t.out).mono ?_
  rw [K2.out]
  rintro e w9 ⟨rfl, HB9⟩
  have F9t := Lib.hid (F8t.out.belowW HB9.out)
  have F9m := Lib.hid (F8m.out.belowW HB9.out)
  have F9a := Lib.hid (F8a.out.belowW HB9.out)
  have F9b := Lib.hid (F8b.out.belowW HB9.out)
  have F9x := Lib.hid (F8x.out.belowW HB9.out)
  have F9c := Lib.hid (F8c.out.belowW HB9.out)
  have F9a2 := Lib.hid (F8a2.out.belowW HB9.out)
  have F9b2 := Lib.hid (F8b2.out.belowW HB9.out)
  have F9y := Lib.hid (F8y.out.belowW HB9.out)
  have HL9 := Lib.hid (HL8.out.trans (HB9.out.mono HL8.out.size))
  clear px0 fx0 px1 fx1 px2 fx2 px3 fx3 px4 fx4 px5 fx5 px6 fx6
  obtain ⟨px0, fx0, px1, fx1, px2, fx2, px3, fx3, px4, fx4, px5, fx5, px6, fx6⟩ := F9x.out.all7
  obtain ⟨py0, fy0, py1, fy1, py2, fy2, py3, fy3, py4, fy4, py5, fy5, py6, fy6⟩ := F9y.out.all7
  go_wp2_with fail
  refine (one_any false false false false false false A A' B B' n c n' c' m d m' d' (limbs 85) (limbs 85) (limbs 171) (limbs 171) (-8) (-8) (-9) (-9) w9 F9a.out F9a2.out F9b.out F9b2.out).mono ?_
  rw [S1.out, S2.out]
  rintro e w10 ⟨rfl, HB10⟩
  have F10t := Lib.hid (F9t.out.belowW HB10.out)
  have F10m := Lib.hid (F9m.out.belowW HB10.out)
  have F10a := Lib.hid (F9a.out.belowW HB10.out)
  have F10b := Lib.hid (F9b.out.belowW HB10.out)
  have F10x := Lib.hid (F9x.out.belowW HB10.out)
  have F10c := Lib.hid (F9c.out.belowW HB10.out)
  have F10a2 := Lib.hid (F9a2.out.belowW HB10.out)
  have F10b2 := Lib.hid (F9b2.out.belowW HB10.out)
  have F10y := Lib.hid (F9y.out.belowW HB10.out)
  have HL10 := Lib.hid (HL9.out.trans (HB10.out.mono HL9.out.size))
  go_wp2_with fail
  go_ret
  exact ⟨rfl, HL10⟩
end Go.Proofs.YtffdkakogeofmaaGreatDoor
