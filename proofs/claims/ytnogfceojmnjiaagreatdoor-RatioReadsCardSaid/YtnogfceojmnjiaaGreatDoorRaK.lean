/-
  The walk of the law RatioReads.
-/
import Derived.Test.YtnogfceojmnjiaaGreatDoorRaF
import Derived.Test.YtnogfceojmnjiaaGreatDoorRaJ
set_option linter.unusedVariables false
namespace Go.Proofs.YtnogfceojmnjiaaGreatDoor
open Go.RowKit Go.Fl Go.Fl.Nm Go.Fl.Dy Go.Fl.Rt
set_option maxHeartbeats 2000000 in
theorem ratioReads_any (s : ByteArray) (w : World) (hT : RX w) (hs : s.size ≤ 9223372036854775807) :
    Calls Tryz.prog 4 #[.string s] w (Awk w) := by
  have HT := Lib.hid hT
  clear hT
  by_cases h : 100 < s.size
  · have d1 : decide ((100 : Int) < (s.size : Int)) = true := decide_eq_true (by omega)
    clear h
    go_enter Tryz.func4, Tryz.ntmps4
    go_wp2_with fail
    refine (awake_any w HT.out).mono ?_
    rintro e w1 ⟨rfl, HB1⟩
    have F1t := Lib.hid (HT.out.belowW HB1.out)
    go_wp2_with fail
    go_ret
    exact ⟨rfl, HB1⟩
  · have d1 : decide ((100 : Int) < (s.size : Int)) = false := decide_eq_false (by omega)
    obtain ⟨xn, xd, xe, hx⟩ : ∃ x y z, read1 s.data.toList = (x, y, z) := ⟨_, _, _, rfl⟩
    have HX := Lib.hid hx
    have HX2 := Lib.hid ((read_eq s.data.toList).symm.trans hx)
    clear hx
    go_enter Tryz.func4, Tryz.ntmps4
    go_wp2_with fail
    refine (awake_any w HT.out).mono ?_
    rintro e w1 ⟨rfl, HB1⟩
    have F1t := Lib.hid (HT.out.belowW HB1.out)
    go_wp2_with fail
    refine (parse_any' s w1 F1t.out (by omega)).mono ?_
    rw [HX.out]
    rintro e w2 ⟨rfl, HB2⟩
    have F2t := Lib.hid (F1t.out.belowW HB2.out)
    have HL2 := Lib.hid (HB1.out.trans (HB2.out.mono HB1.out.size))
    go_upto_region 6 with (fail)
    obtain ⟨w3, hw⟩ : ∃ z9 : World, z9 = w2.alloc (.cells #[.int .i64 xn, .int .i64 xd] 23) := ⟨_, rfl⟩
    have HB3 := Lib.hid (show Below w2.heap.size w2 w3 by rw [hw]; exact below_a1 _ _)
    have F3a := Lib.hid (show Blk w3 w2.heap.size 23 #[.int .i64 xn, .int .i64 xd] by rw [hw]; exact Blk.new _ _ _)
    rw [← hw]
    clear hw
    have F3t := Lib.hid (F2t.out.belowW HB3.out)
    have HL3 := Lib.hid (HL2.out.trans (HB3.out.mono HL2.out.size))
    go_wp2_with fail
    refine (parse_r s w3 (by omega)).mono ?_
    rw [HX2.out]
    rintro e w4 ⟨rfl, HB4⟩
    have F4t := Lib.hid (F3t.out.belowW HB4.out)
    have F4a := Lib.hid (F3a.out.belowW HB4.out)
    have HL4 := Lib.hid (HL3.out.trans (HB4.out.mono HL3.out.size))
    go_upto_region 7 with (fail)
    obtain ⟨w5, hw⟩ : ∃ z9 : World, z9 = w4.alloc (.cells #[.int .i64 xn, .int .i64 xd] 23) := ⟨_, rfl⟩
    have HB5 := Lib.hid (show Below w4.heap.size w4 w5 by rw [hw]; exact below_a1 _ _)
    have F5b := Lib.hid (show Blk w5 w4.heap.size 23 #[.int .i64 xn, .int .i64 xd] by rw [hw]; exact Blk.new _ _ _)
    rw [← hw]
    clear hw
    have F5t := Lib.hid (F4t.out.belowW HB5.out)
    have F5a := Lib.hid (F4a.out.belowW HB5.out)
    have HL5 := Lib.hid (HL4.out.trans (HB5.out.mono HL4.out.size))
    have pa0 : (w5).cell? ⟨w2.heap.size, 0, none⟩ = some (.int .i64 xn) := F5a.out.cell 0
    have fa0 : (w5).frozen? ⟨w2.heap.size, 0, none⟩ = false := F5a.out.frozen 0
    have pa1 : (w5).cell? ⟨w2.heap.size, 1, none⟩ = some (.int .i64 xd) := F5a.out.cell 1
    have fa1 : (w5).frozen? ⟨w2.heap.size, 1, none⟩ = false := F5a.out.frozen 1
    have pb0 : (w5).cell? ⟨w4.heap.size, 0, none⟩ = some (.int .i64 xn) := F5b.out.cell 0
    have fb0 : (w5).frozen? ⟨w4.heap.size, 0, none⟩ = false := F5b.out.frozen 0
    have pb1 : (w5).cell? ⟨w4.heap.size, 1, none⟩ = some (.int .i64 xd) := F5b.out.cell 1
    have fb1 : (w5).frozen? ⟨w4.heap.size, 1, none⟩ = false := F5b.out.frozen 1
    go_wp2_with fail
    go_ret
    exact ⟨rfl, HL5⟩
end Go.Proofs.YtnogfceojmnjiaaGreatDoor
