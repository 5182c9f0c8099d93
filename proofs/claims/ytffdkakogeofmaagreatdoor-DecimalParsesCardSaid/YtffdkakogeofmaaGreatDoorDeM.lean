/-
  The walk of the law DecimalParses.
-/
import Derived.Test.YtffdkakogeofmaaGreatDoorDecK
import Derived.Test.YtffdkakogeofmaaGreatDoorPkL
set_option linter.unusedVariables false
namespace Go.Proofs.YtffdkakogeofmaaGreatDoor
open Go.RowKit Go.Fl Go.Fl.Nm Go.Fl.Dy
set_option maxHeartbeats 4000000 in
theorem parses_great (s : ByteArray) (p : Int) (w : World) (hT : RB w) (hM : MXL w) (hs : 2000 < s.size) : Calls Tryz.prog 3 #[.string s, .int .i64 p] w (Awk w) := by
  have HT := Lib.hid hT
  have HM := Lib.hid hM
  have d0 : decide ((2000 : Int) < (s.size : Int)) = true := decide_eq_true (by omega)
  have d0' : decide (2000 < s.size) = true := decide_eq_true hs
  clear hT hM hs
  go_enter Tryz.func3, Tryz.ntmps3
  go_wp2_with fail
  refine (dAwake_any w HT.out HM.out).mono ?_
  rintro e w1 ⟨rfl, HB1⟩
  have F1t := Lib.hid (HT.out.belowW HB1.out)
  have F1m := Lib.hid (HM.out.belowW HB1.out)
  go_wp2_with fail
  go_ret
  exact ⟨rfl, HB1⟩
set_option maxHeartbeats 4000000 in
theorem parses_main (s : ByteArray) (p : Int) (w : World) (hT : RB w) (hM : MXL w) (hs : s.size ≤ 2000) : Calls Tryz.prog 3 #[.string s, .int .i64 p] w (Awk w) := by
  have HT := Lib.hid hT
  have HM := Lib.hid hM
  have d0 : decide ((2000 : Int) < (s.size : Int)) = false := decide_eq_false (by omega)
  have d0' : decide (2000 < s.size) = false := decide_eq_false (by omega)
  have hs3 : s.size ≤ 3000 := by omega
  obtain ⟨l, hl⟩ : ∃ l, s.data.toList = l := ⟨_, rfl⟩
  have HLS := Lib.hid hl
  obtain ⟨⟨⟨x, y, al⟩, er⟩, hr⟩ : ∃ r, parR s.data.toList p = r := ⟨_, rfl⟩
  have HR := Lib.hid hr
  have HF := Lib.hid (show parF l p = ((x, y, al), er) by rw [parF_eq, ← hl]; exact hr)
  have HX := Lib.hid (show sameB x.neg x.neg (limbs x.k) (limbs x.k) x.e x.e = true by unfold sameB; simp)
  have HY := Lib.hid (show sameB y.neg y.neg (limbs y.k) (limbs y.k) y.e y.e = true by unfold sameB; simp)
  have HO := Lib.hid (show oneB al al true true = true by unfold oneB; simp)
  clear hT hM hs hl hr
  go_enter Tryz.func3, Tryz.ntmps3
  go_wp2_with fail
  refine (dAwake_any w HT.out HM.out).mono ?_
  rintro e w1 ⟨rfl, HB1⟩
  have F1t := Lib.hid (HT.out.belowW HB1.out)
  have F1m := Lib.hid (HM.out.belowW HB1.out)
  go_wp2_with fail
  refine (parse_at s p w1 hs3 F1t.out F1m.out).mono ?_
  rw [HR.out]
  rintro e w2 ⟨A, B, n, c, m, d, rfl, HA, HYY, HB2⟩
  have F2t := Lib.hid (F1t.out.belowW HB2.out)
  have F2m := Lib.hid (F1m.out.belowW HB2.out)
  have HL2 := Lib.hid (HB1.out.trans (HB2.out.mono HB1.out.size))
  have F2a := Lib.hid (HA.out)
  have F2b := Lib.hid (HYY.out)
  go_upto_region 6 with (fail)
  obtain ⟨w3, hw⟩ : ∃ z9 : World, z9 = w2.alloc (.cells #[.bool x.neg, .slice A n c, .int .i64 x.e, .bool y.neg, .slice B m d, .int .i64 y.e, .bool al] 27) := ⟨_, rfl⟩
  have HB3 := Lib.hid (show Below w2.heap.size w2 w3 by rw [hw]; exact below_a1 _ _)
  have F3x := Lib.hid (show Blk w3 w2.heap.size 27 #[.bool x.neg, .slice A n c, .int .i64 x.e, .bool y.neg, .slice B m d, .int .i64 y.e, .bool al] by rw [hw]; exact Blk.new _ _ _)
  rw [← hw]
  clear hw
  have F3t := Lib.hid (F2t.out.belowW HB3.out)
  have F3m := Lib.hid (F2m.out.belowW HB3.out)
  have F3a := Lib.hid (F2a.out.belowW HB3.out)
  have F3b := Lib.hid (F2b.out.belowW HB3.out)
  have HL3 := Lib.hid (HL2.out.trans (HB3.out.mono HL2.out.size))
  go_wp2_with fail
  refine (par11_any s l p w3 HLS.out hs3).mono ?_
  rw [HF.out]
  rintro e w4 ⟨A', B', n', c', m', d', rfl, HA', HYY', HB4⟩
  have F4t := Lib.hid (F3t.out.belowW HB4.out)
  have F4m := Lib.hid (F3m.out.belowW HB4.out)
  have F4a := Lib.hid (F3a.out.belowW HB4.out)
  have F4b := Lib.hid (F3b.out.belowW HB4.out)
  have F4x := Lib.hid (F3x.out.belowW HB4.out)
  have HL4 := Lib.hid (HL3.out.trans (HB4.out.mono HL3.out.size))
  have F4u := Lib.hid (HA'.out)
  have F4v := Lib.hid (HYY'.out)
  go_upto_region 7 with (fail)
  obtain ⟨w5, hw⟩ : ∃ z9 : World, z9 = w4.alloc (.cells #[.bool x.neg, .slice A' n' c', .int .i64 x.e, .bool y.neg, .slice B' m' d', .int .i64 y.e, .bool al] 27) := ⟨_, rfl⟩
  have HB5 := Lib.hid (show Below w4.heap.size w4 w5 by rw [hw]; exact below_a1 _ _)
  have F5y := Lib.hid (show Blk w5 w4.heap.size 27 #[.bool x.neg, .slice A' n' c', .int .i64 x.e, .bool y.neg, .slice B' m' d', .int .i64 y.e, .bool al] by rw [hw]; exact Blk.new _ _ _)
  rw [← hw]
  clear hw
  have F5t := Lib.hid (F4t.out.belowW HB5.out)
  have F5m := Lib.hid (F4m.out.belowW HB5.out)
  have F5a := Lib.hid (F4a.out.belowW HB5.out)
  have F5b := Lib.hid (F4b.out.belowW HB5.out)
  have F5x := Lib.hid (F4x.out.belowW HB5.out)
  have F5u := Lib.hid (F4u.out.belowW HB5.out)
  have F5v := Lib.hid (F4v.out.belowW HB5.out)
  have HL5 := Lib.hid (HL4.out.trans (HB5.out.mono HL4.out.size))
  obtain ⟨px0, fx0, px1, fx1, px2, fx2, px3, fx3, px4, fx4, px5, fx5, px6, fx6⟩ := F5x.out.all7
  obtain ⟨py0, fy0, py1, fy1, py2, fy2, py3, fy3, py4, fy4, py5, fy5, py6, fy6⟩ := F5y.out.all7
  go_wp2_with fail
  refine (one_any x.neg x.neg y.neg y.neg al al A A' B B' n c n' c' m d m' d' (limbs x.k) (limbs x.k) (limbs y.k) (limbs y.k) x.e x.e y.e y.e w5 F5a.out F5u.out F5b.out F5v.out).mono ?_
  rw [HX.out, HY.out, HO.out]
  rintro e w6 ⟨rfl, HB6⟩
  have F6t := Lib.hid (F5t.out.belowW HB6.out)
  have F6m := Lib.hid (F5m.out.belowW HB6.out)
  have F6a := Lib.hid (F5a.out.belowW HB6.out)
  have F6b := Lib.hid (F5b.out.belowW HB6.out)
  have F6x := Lib.hid (F5x.out.belowW HB6.out)
  have F6u := Lib.hid (F5u.out.belowW HB6.out)
  have F6v := Lib.hid (F5v.out.belowW HB6.out)
  have F6y := Lib.hid (F5y.out.belowW HB6.out)
  have HL6 := Lib.hid (HL5.out.trans (HB6.out.mono HL5.out.size))
  go_wp2_with fail
  go_ret
  exact ⟨rfl, HL6⟩
theorem decimalParses_any (s : ByteArray) (p : Int) (w : World) (hT : RB w) (hM : MXL w) (hs : s.size ≤ maxLen) (i1 : -9223372036854775808 ≤ p) (i2 : p ≤ 9223372036854775807) : Calls Tryz.prog 3 #[.string s, .int .i64 p] w (Awk w) := by
  by_cases hg : 2000 < s.size
  · exact parses_great s p w hT hM hg
  · exact parses_main s p w hT hM (by omega)
end Go.Proofs.YtffdkakogeofmaaGreatDoor
