/-
  The walk of the law RatioMakes.
-/
import Derived.Test.YtnogfceojmnjiaaGreatDoorRaF
import Derived.Test.YtnogfceojmnjiaaGreatDoorRaI
import Derived.Test.YtnogfceojmnjiaaGreatDoorRaN
import Derived.Test.YtnogfceojmnjiaaGreatDoorRaH
set_option linter.unusedVariables false
namespace Go.Proofs.YtnogfceojmnjiaaGreatDoor
open Go.RowKit Go.Fl Go.Fl.Nm Go.Fl.Dy Go.Fl.Rt
theorem ba_eq {A B : ByteArray} {l : List UInt8} (h : A.data.toList = l) (h' : B.data.toList = l) : A = B := by
  have e : A.data = B.data := Array.toList_inj.1 (h.trans h'.symm)
  cases A; cases B; cases e; rfl
theorem make_bdx {x y n d e : Int} (h : make x y = (n, d, e)) : -9223372036854775808 ≤ n ∧ n ≤ 9223372036854775807 ∧ -9223372036854775808 ≤ d ∧ d ≤ 9223372036854775807 := by
  have := make_bd h
  omega
set_option maxHeartbeats 8000000 in
set_option maxRecDepth 100000 in
theorem ratioMakes_any (n d : Int) (w : World) (hT : RX w) (h1 : -9223372036854775808 ≤ n) (h2 : n ≤ 9223372036854775807) (h3 : -9223372036854775808 ≤ d) (h4 : d ≤ 9223372036854775807) :
    Calls Tryz.prog 6 #[.int .i64 n, .int .i64 d] w (Awk w) := by
  have HT := Lib.hid hT
  clear hT
  obtain ⟨mn, md, me, hm⟩ : ∃ x y z, make n d = (x, y, z) := ⟨_, _, _, rfl⟩
  have HM := Lib.hid hm
  clear hm
  go_enter Tryz.func6, Tryz.ntmps6
  go_wp2_with fail
  refine (awake_any w HT.out).mono ?_
  rintro e w1 ⟨rfl, HB1⟩
  have F1t := Lib.hid (HT.out.belowW HB1.out)
  go_wp2_with fail
  refine (make_q n d w1 h1 h2 h3 h4).mono ?_
  rw [HM.out]
  rintro e w2 ⟨rfl, HB2⟩
  have F2t := Lib.hid (F1t.out.belowW HB2.out)
  have HL2 := Lib.hid (HB1.out.trans (HB2.out.mono HB1.out.size))
  go_upto_region 4 with (fail)
  obtain ⟨w3, hw⟩ : ∃ z9 : World, z9 = w2.alloc (.cells #[.int .i64 mn, .int .i64 md] 23) := ⟨_, rfl⟩
  have HB3 := Lib.hid (show Below w2.heap.size w2 w3 by rw [hw]; exact below_a1 _ _)
  have F3r := Lib.hid (show Blk w3 w2.heap.size 23 #[.int .i64 mn, .int .i64 md] by rw [hw]; exact Blk.new _ _ _)
  rw [← hw]
  clear hw
  have F3t := Lib.hid (F2t.out.belowW HB3.out)
  have HL3 := Lib.hid (HL2.out.trans (HB3.out.mono HL2.out.size))
  go_wp2_with fail
  refine (make_r n d w3 h1 h2 h3 h4).mono ?_
  rw [HM.out]
  rintro e w4 ⟨rfl, HB4⟩
  have F4t := Lib.hid (F3t.out.belowW HB4.out)
  have F4r := Lib.hid (F3r.out.belowW HB4.out)
  have HL4 := Lib.hid (HL3.out.trans (HB4.out.mono HL3.out.size))
  go_upto_region 5 with (fail)
  obtain ⟨w5, hw⟩ : ∃ z9 : World, z9 = w4.alloc (.cells #[.int .i64 mn, .int .i64 md] 23) := ⟨_, rfl⟩
  have HB5 := Lib.hid (show Below w4.heap.size w4 w5 by rw [hw]; exact below_a1 _ _)
  have F5v := Lib.hid (show Blk w5 w4.heap.size 23 #[.int .i64 mn, .int .i64 md] by rw [hw]; exact Blk.new _ _ _)
  rw [← hw]
  clear hw
  have F5t := Lib.hid (F4t.out.belowW HB5.out)
  have F5r := Lib.hid (F4r.out.belowW HB5.out)
  have HL5 := Lib.hid (HL4.out.trans (HB5.out.mono HL4.out.size))
  go_wp2_with fail
  obtain ⟨w6, hw⟩ : ∃ z9 : World, z9 = w5.alloc (.cells #[.int .i64 n, .int .i64 d] 23) := ⟨_, rfl⟩
  have HB6 := Lib.hid (show Below w5.heap.size w5 w6 by rw [hw]; exact below_a1 _ _)
  have F6x := Lib.hid (show Blk w6 w5.heap.size 23 #[.int .i64 n, .int .i64 d] by rw [hw]; exact Blk.new _ _ _)
  rw [← hw]
  clear hw
  have F6t := Lib.hid (F5t.out.belowW HB6.out)
  have F6r := Lib.hid (F5r.out.belowW HB6.out)
  have F6v := Lib.hid (F5v.out.belowW HB6.out)
  have HL6 := Lib.hid (HL5.out.trans (HB6.out.mono HL5.out.size))
  have yr0 : w6.cell? ⟨w2.heap.size, 0, none⟩ = some (.int .i64 mn) := F6r.out.cell 0
  have yr1 : w6.cell? ⟨w2.heap.size, 1, none⟩ = some (.int .i64 md) := F6r.out.cell 1
  have yv0 : w6.cell? ⟨w4.heap.size, 0, none⟩ = some (.int .i64 mn) := F6v.out.cell 0
  have yv1 : w6.cell? ⟨w4.heap.size, 1, none⟩ = some (.int .i64 md) := F6v.out.cell 1
  have yx0 : w6.cell? ⟨w5.heap.size, 0, none⟩ = some (.int .i64 n) := F6x.out.cell 0
  have yx1 : w6.cell? ⟨w5.heap.size, 1, none⟩ = some (.int .i64 d) := F6x.out.cell 1
  have zr0 : w6.drew.cell? ⟨w2.heap.size, 0, none⟩ = some (.int .i64 mn) := F6r.out.cell 0
  have zr1 : w6.drew.cell? ⟨w2.heap.size, 1, none⟩ = some (.int .i64 md) := F6r.out.cell 1
  have zv0 : w6.drew.cell? ⟨w4.heap.size, 0, none⟩ = some (.int .i64 mn) := F6v.out.cell 0
  have zv1 : w6.drew.cell? ⟨w4.heap.size, 1, none⟩ = some (.int .i64 md) := F6v.out.cell 1
  have zx0 : w6.drew.cell? ⟨w5.heap.size, 0, none⟩ = some (.int .i64 n) := F6x.out.cell 0
  have zx1 : w6.drew.cell? ⟨w5.heap.size, 1, none⟩ = some (.int .i64 d) := F6x.out.cell 1
  have HI := Lib.hid (make_bdx HM.out)
  have C1 := Lib.hid (fun w => valid_q n d w h1 h2 h3 h4)
  have C2 := Lib.hid (fun w => valid_r n d w h1 h2 h3 h4)
  have C3 := Lib.hid (fun w hT => text_q n d w hT h1 h2 h3 h4)
  have C4 := Lib.hid (fun w hT => text_r n d w hT h1 h2 h3 h4)
  have C5 := Lib.hid (fun w hT => text_q mn md w hT HI.out.1 HI.out.2.1 HI.out.2.2.1 HI.out.2.2.2)
  have C6 := Lib.hid (fun w hT => text_r mn md w hT HI.out.1 HI.out.2.1 HI.out.2.2.1 HI.out.2.2.2)
  obtain ⟨q, hq⟩ : ∃ q, q = vB n d := ⟨_, rfl⟩
  rw [← hq] at C1 C2
  clear hq h1 h2 h3 h4
  go_region_held3 (fun w' => w'.cell? ⟨w2.heap.size, 0, none⟩ = some (.int .i64 mn) ∧ w'.cell? ⟨w2.heap.size, 1, none⟩ = some (.int .i64 md) ∧ w'.cell? ⟨w4.heap.size, 0, none⟩ = some (.int .i64 mn) ∧ w'.cell? ⟨w4.heap.size, 1, none⟩ = some (.int .i64 md) ∧ w'.cell? ⟨w5.heap.size, 0, none⟩ = some (.int .i64 n) ∧ w'.cell? ⟨w5.heap.size, 1, none⟩ = some (.int .i64 d)) (exact ⟨by with_reducible assumption, by with_reducible assumption, by with_reducible assumption, by with_reducible assumption, by with_reducible assumption, by with_reducible assumption⟩) (first
    | (go_at_call_of 22 (Value.agg #[.int .i64 n, .int .i64 d])
       (with_reducible refine (C1.out _).mono ?_)
       rintro e x1 ⟨rfl, HX1⟩
       have H1 := Lib.hid (show Below w6.heap.size w6 x1 from ⟨HX1.out.os, HX1.out.tape, HX1.out.output, HX1.out.size, HX1.out.block⟩)
       have K1r := Lib.hid (F6r.out.belowW H1.out)
       have K1v := Lib.hid (F6v.out.belowW H1.out)
       have K1x := Lib.hid (F6x.out.belowW H1.out)
       have T1 := (F6t.out.belowW H1.out).toRB
       have c1r0 : x1.cell? ⟨w2.heap.size, 0, none⟩ = some (.int .i64 mn) := K1r.out.cell 0
       have c1r1 : x1.cell? ⟨w2.heap.size, 1, none⟩ = some (.int .i64 md) := K1r.out.cell 1
       have c1v0 : x1.cell? ⟨w4.heap.size, 0, none⟩ = some (.int .i64 mn) := K1v.out.cell 0
       have c1v1 : x1.cell? ⟨w4.heap.size, 1, none⟩ = some (.int .i64 md) := K1v.out.cell 1
       have c1x0 : x1.cell? ⟨w5.heap.size, 0, none⟩ = some (.int .i64 n) := K1x.out.cell 0
       have c1x1 : x1.cell? ⟨w5.heap.size, 1, none⟩ = some (.int .i64 d) := K1x.out.cell 1)
    | (go_at_call_of 23 (Value.agg #[.int .i64 n, .int .i64 d])
       (with_reducible refine (C2.out _).mono ?_)
       rintro e x2 ⟨rfl, HX2⟩
       have H2 := Lib.hid (H1.out.trans (HX2.out.mono H1.out.size))
       have K2r := Lib.hid (F6r.out.belowW H2.out)
       have K2v := Lib.hid (F6v.out.belowW H2.out)
       have K2x := Lib.hid (F6x.out.belowW H2.out)
       have T2 := (F6t.out.belowW H2.out).toRB
       have c2r0 : x2.cell? ⟨w2.heap.size, 0, none⟩ = some (.int .i64 mn) := K2r.out.cell 0
       have c2r1 : x2.cell? ⟨w2.heap.size, 1, none⟩ = some (.int .i64 md) := K2r.out.cell 1
       have c2v0 : x2.cell? ⟨w4.heap.size, 0, none⟩ = some (.int .i64 mn) := K2v.out.cell 0
       have c2v1 : x2.cell? ⟨w4.heap.size, 1, none⟩ = some (.int .i64 md) := K2v.out.cell 1
       have c2x0 : x2.cell? ⟨w5.heap.size, 0, none⟩ = some (.int .i64 n) := K2x.out.cell 0
       have c2x1 : x2.cell? ⟨w5.heap.size, 1, none⟩ = some (.int .i64 d) := K2x.out.cell 1)
    | (go_at_call_of 24 (Value.agg #[.int .i64 n, .int .i64 d])
       (with_reducible refine (C3.out _ T2).mono ?_)
       rintro e x3 ⟨A1, rfl, HA1, HX3⟩
       have H3 := Lib.hid (H2.out.trans (HX3.out.mono H2.out.size))
       have K3r := Lib.hid (F6r.out.belowW H3.out)
       have K3v := Lib.hid (F6v.out.belowW H3.out)
       have K3x := Lib.hid (F6x.out.belowW H3.out)
       have T3 := (F6t.out.belowW H3.out).toRB
       have c3r0 : x3.cell? ⟨w2.heap.size, 0, none⟩ = some (.int .i64 mn) := K3r.out.cell 0
       have c3r1 : x3.cell? ⟨w2.heap.size, 1, none⟩ = some (.int .i64 md) := K3r.out.cell 1
       have c3v0 : x3.cell? ⟨w4.heap.size, 0, none⟩ = some (.int .i64 mn) := K3v.out.cell 0
       have c3v1 : x3.cell? ⟨w4.heap.size, 1, none⟩ = some (.int .i64 md) := K3v.out.cell 1
       have c3x0 : x3.cell? ⟨w5.heap.size, 0, none⟩ = some (.int .i64 n) := K3x.out.cell 0
       have c3x1 : x3.cell? ⟨w5.heap.size, 1, none⟩ = some (.int .i64 d) := K3x.out.cell 1)
    | (go_at_call_of 25 (Value.agg #[.int .i64 n, .int .i64 d])
       (with_reducible refine (C4.out _ T3).mono ?_)
       rintro e x4 ⟨A2, rfl, HA2, HX4⟩
       obtain rfl := ba_eq HA2.out HA1.out
       have H4 := Lib.hid (H3.out.trans (HX4.out.mono H3.out.size))
       have K4r := Lib.hid (F6r.out.belowW H4.out)
       have K4v := Lib.hid (F6v.out.belowW H4.out)
       have K4x := Lib.hid (F6x.out.belowW H4.out)
       have T4 := (F6t.out.belowW H4.out).toRB
       have c4r0 : x4.cell? ⟨w2.heap.size, 0, none⟩ = some (.int .i64 mn) := K4r.out.cell 0
       have c4r1 : x4.cell? ⟨w2.heap.size, 1, none⟩ = some (.int .i64 md) := K4r.out.cell 1
       have c4v0 : x4.cell? ⟨w4.heap.size, 0, none⟩ = some (.int .i64 mn) := K4v.out.cell 0
       have c4v1 : x4.cell? ⟨w4.heap.size, 1, none⟩ = some (.int .i64 md) := K4v.out.cell 1
       have c4x0 : x4.cell? ⟨w5.heap.size, 0, none⟩ = some (.int .i64 n) := K4x.out.cell 0
       have c4x1 : x4.cell? ⟨w5.heap.size, 1, none⟩ = some (.int .i64 d) := K4x.out.cell 1)
    | (go_at_call_of 24 (Value.agg #[.int .i64 mn, .int .i64 md])
       (with_reducible refine (C5.out _ T4).mono ?_)
       rintro e x5 ⟨A3, rfl, HA3, HX5⟩
       have H5 := Lib.hid (H4.out.trans (HX5.out.mono H4.out.size))
       have K5r := Lib.hid (F6r.out.belowW H5.out)
       have K5v := Lib.hid (F6v.out.belowW H5.out)
       have K5x := Lib.hid (F6x.out.belowW H5.out)
       have T5 := (F6t.out.belowW H5.out).toRB
       have c5r0 : x5.cell? ⟨w2.heap.size, 0, none⟩ = some (.int .i64 mn) := K5r.out.cell 0
       have c5r1 : x5.cell? ⟨w2.heap.size, 1, none⟩ = some (.int .i64 md) := K5r.out.cell 1
       have c5v0 : x5.cell? ⟨w4.heap.size, 0, none⟩ = some (.int .i64 mn) := K5v.out.cell 0
       have c5v1 : x5.cell? ⟨w4.heap.size, 1, none⟩ = some (.int .i64 md) := K5v.out.cell 1
       have c5x0 : x5.cell? ⟨w5.heap.size, 0, none⟩ = some (.int .i64 n) := K5x.out.cell 0
       have c5x1 : x5.cell? ⟨w5.heap.size, 1, none⟩ = some (.int .i64 d) := K5x.out.cell 1)
    | (go_at_call_of 25 (Value.agg #[.int .i64 mn, .int .i64 md])
       (with_reducible refine (C6.out _ T5).mono ?_)
       rintro e x6 ⟨A4, rfl, HA4, HX6⟩
       obtain rfl := ba_eq HA4.out HA3.out
       have H6 := Lib.hid (H5.out.trans (HX6.out.mono H5.out.size))
       have K6r := Lib.hid (F6r.out.belowW H6.out)
       have K6v := Lib.hid (F6v.out.belowW H6.out)
       have K6x := Lib.hid (F6x.out.belowW H6.out)
       have T6 := (F6t.out.belowW H6.out).toRB
       have c6r0 : x6.cell? ⟨w2.heap.size, 0, none⟩ = some (.int .i64 mn) := K6r.out.cell 0
       have c6r1 : x6.cell? ⟨w2.heap.size, 1, none⟩ = some (.int .i64 md) := K6r.out.cell 1
       have c6v0 : x6.cell? ⟨w4.heap.size, 0, none⟩ = some (.int .i64 mn) := K6v.out.cell 0
       have c6v1 : x6.cell? ⟨w4.heap.size, 1, none⟩ = some (.int .i64 md) := K6v.out.cell 1
       have c6x0 : x6.cell? ⟨w5.heap.size, 0, none⟩ = some (.int .i64 n) := K6x.out.cell 0
       have c6x1 : x6.cell? ⟨w5.heap.size, 1, none⟩ = some (.int .i64 d) := K6x.out.cell 1))
  go_wp2_with fail
  go_ret
  exact ⟨rfl, Lib.hid (HL6.out.trans (H6.out.mono HL6.out.size))⟩
end Go.Proofs.YtnogfceojmnjiaaGreatDoor
