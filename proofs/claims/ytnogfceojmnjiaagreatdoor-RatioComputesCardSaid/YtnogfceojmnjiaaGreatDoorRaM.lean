/-
  The walk of the law RatioComputes.
-/
import Derived.Test.YtnogfceojmnjiaaGreatDoorRaF
import Derived.Test.YtnogfceojmnjiaaGreatDoorRaL
set_option linter.unusedVariables false
namespace Go.Proofs.YtnogfceojmnjiaaGreatDoor
open Go.RowKit Go.Fl Go.Fl.Nm Go.Fl.Dy Go.Fl.Rt
set_option maxHeartbeats 8000000 in
set_option maxRecDepth 100000 in
theorem ratioComputes_any (an ad bn bd : Int) (w : World) (hT : RX w) (a1 : -9223372036854775808 ≤ an) (a2 : an ≤ 9223372036854775807) (a3 : -9223372036854775808 ≤ ad) (a4 : ad ≤ 9223372036854775807) (b1 : -9223372036854775808 ≤ bn) (b2 : bn ≤ 9223372036854775807) (b3 : -9223372036854775808 ≤ bd) (b4 : bd ≤ 9223372036854775807) :
    Calls Tryz.prog 7 #[.agg #[.int .i64 an, .int .i64 ad], .agg #[.int .i64 bn, .int .i64 bd]] w (Awk w) := by
  have HT := Lib.hid hT
  clear hT
  obtain ⟨sn, sd, se, hs⟩ : ∃ x y z, opE an ad bn bd (addR an ad bn bd) = (x, y, z) := ⟨_, _, _, rfl⟩
  have HAdd := Lib.hid hs
  clear hs
  obtain ⟨dn, dd, de, hd⟩ : ∃ x y z, opE an ad bn bd (subR an ad bn bd) = (x, y, z) := ⟨_, _, _, rfl⟩
  have HSub := Lib.hid hd
  clear hd
  obtain ⟨mn, md, me, hm⟩ : ∃ x y z, opE an ad bn bd (mulR an ad bn bd) = (x, y, z) := ⟨_, _, _, rfl⟩
  have HMul := Lib.hid hm
  clear hm
  obtain ⟨qn, qd, qe, hq⟩ : ∃ x y z, opE an ad bn bd (Rt.divR an ad bn bd) = (x, y, z) := ⟨_, _, _, rfl⟩
  have HDiv := Lib.hid hq
  clear hq
  go_enter Tryz.func7, Tryz.ntmps7
  go_wp2_with fail
  obtain ⟨w1, hw⟩ : ∃ z9 : World, z9 = ((w.alloc (.cells #[.int .i64 an, .int .i64 ad] 23)).alloc (.cells #[.int .i64 bn, .int .i64 bd] 23)) := ⟨_, rfl⟩
  have HB1 := Lib.hid (show Below w.heap.size w w1 by rw [hw]; exact below_a2 _ _ _)
  have F1t := Lib.hid (HT.out.belowW HB1.out)
  have F1ka := Lib.hid (show Blk w1 (w.heap.size) 23 #[.int .i64 an, .int .i64 ad] by rw [hw]; exact (Blk.new _ _ _).alloc _)
  have F1kb := Lib.hid (show Blk w1 (w.heap.size + 1) 23 #[.int .i64 bn, .int .i64 bd] by rw [hw]; exact Blk.new1 _ _ _ _)
  rw [← hw]
  clear hw
  refine (awake_any w1 F1t.out).mono ?_
  rintro e w2 ⟨rfl, HB2⟩
  have F2t := Lib.hid (F1t.out.belowW HB2.out)
  have F2ka := Lib.hid (F1ka.out.belowW HB2.out)
  have F2kb := Lib.hid (F1kb.out.belowW HB2.out)
  have HL2 := Lib.hid (HB1.out.trans (HB2.out.mono HB1.out.size))
  clear F1t F1ka F1kb HB1 HB2
  have pka0 : (w2).cell? ⟨w.heap.size, 0, none⟩ = some (.int .i64 an) := F2ka.out.cell 0
  have fka0 : (w2).frozen? ⟨w.heap.size, 0, none⟩ = false := F2ka.out.frozen 0
  have pka1 : (w2).cell? ⟨w.heap.size, 1, none⟩ = some (.int .i64 ad) := F2ka.out.cell 1
  have fka1 : (w2).frozen? ⟨w.heap.size, 1, none⟩ = false := F2ka.out.frozen 1
  have pkb0 : (w2).cell? ⟨w.heap.size + 1, 0, none⟩ = some (.int .i64 bn) := F2kb.out.cell 0
  have fkb0 : (w2).frozen? ⟨w.heap.size + 1, 0, none⟩ = false := F2kb.out.frozen 0
  have pkb1 : (w2).cell? ⟨w.heap.size + 1, 1, none⟩ = some (.int .i64 bd) := F2kb.out.cell 1
  have fkb1 : (w2).frozen? ⟨w.heap.size + 1, 1, none⟩ = false := F2kb.out.frozen 1
  go_wp2_with fail
  refine (qAdd an ad bn bd w2 a1 a2 a3 a4 b1 b2 b3 b4).mono ?_
  rw [HAdd.out]
  rintro e w3 ⟨rfl, HB3⟩
  have F3t := Lib.hid (F2t.out.belowW HB3.out)
  have F3ka := Lib.hid (F2ka.out.belowW HB3.out)
  have F3kb := Lib.hid (F2kb.out.belowW HB3.out)
  have HL3 := Lib.hid (HL2.out.trans (HB3.out.mono HL2.out.size))
  clear F2t F2ka F2kb HL2 HB3
  go_upto_region 4 with (fail)
  obtain ⟨w4, hw⟩ : ∃ z9 : World, z9 = w3.alloc (.cells #[.int .i64 sn, .int .i64 sd] 23) := ⟨_, rfl⟩
  have HB4 := Lib.hid (show Below w3.heap.size w3 w4 by rw [hw]; exact below_a1 _ _)
  have F4qAdd := Lib.hid (show Blk w4 w3.heap.size 23 #[.int .i64 sn, .int .i64 sd] by rw [hw]; exact Blk.new _ _ _)
  rw [← hw]
  clear hw
  have F4t := Lib.hid (F3t.out.belowW HB4.out)
  have F4ka := Lib.hid (F3ka.out.belowW HB4.out)
  have F4kb := Lib.hid (F3kb.out.belowW HB4.out)
  have HL4 := Lib.hid (HL3.out.trans (HB4.out.mono HL3.out.size))
  clear F3t F3ka F3kb HL3 HB4
  clear pka0 pka1 fka0 fka1 pkb0 pkb1 fkb0 fkb1
  have pka0 : (w4).cell? ⟨w.heap.size, 0, none⟩ = some (.int .i64 an) := F4ka.out.cell 0
  have fka0 : (w4).frozen? ⟨w.heap.size, 0, none⟩ = false := F4ka.out.frozen 0
  have pka1 : (w4).cell? ⟨w.heap.size, 1, none⟩ = some (.int .i64 ad) := F4ka.out.cell 1
  have fka1 : (w4).frozen? ⟨w.heap.size, 1, none⟩ = false := F4ka.out.frozen 1
  have pkb0 : (w4).cell? ⟨w.heap.size + 1, 0, none⟩ = some (.int .i64 bn) := F4kb.out.cell 0
  have fkb0 : (w4).frozen? ⟨w.heap.size + 1, 0, none⟩ = false := F4kb.out.frozen 0
  have pkb1 : (w4).cell? ⟨w.heap.size + 1, 1, none⟩ = some (.int .i64 bd) := F4kb.out.cell 1
  have fkb1 : (w4).frozen? ⟨w.heap.size + 1, 1, none⟩ = false := F4kb.out.frozen 1
  go_wp2_with fail
  refine (qSub an ad bn bd w4 a1 a2 a3 a4 b1 b2 b3 b4).mono ?_
  rw [HSub.out]
  rintro e w5 ⟨rfl, HB5⟩
  have F5t := Lib.hid (F4t.out.belowW HB5.out)
  have F5ka := Lib.hid (F4ka.out.belowW HB5.out)
  have F5kb := Lib.hid (F4kb.out.belowW HB5.out)
  have F5qAdd := Lib.hid (F4qAdd.out.belowW HB5.out)
  have HL5 := Lib.hid (HL4.out.trans (HB5.out.mono HL4.out.size))
  clear F4t F4ka F4kb F4qAdd HL4 HB5
  go_upto_region 5 with (fail)
  obtain ⟨w6, hw⟩ : ∃ z9 : World, z9 = w5.alloc (.cells #[.int .i64 dn, .int .i64 dd] 23) := ⟨_, rfl⟩
  have HB6 := Lib.hid (show Below w5.heap.size w5 w6 by rw [hw]; exact below_a1 _ _)
  have F6qSub := Lib.hid (show Blk w6 w5.heap.size 23 #[.int .i64 dn, .int .i64 dd] by rw [hw]; exact Blk.new _ _ _)
  rw [← hw]
  clear hw
  have F6t := Lib.hid (F5t.out.belowW HB6.out)
  have F6ka := Lib.hid (F5ka.out.belowW HB6.out)
  have F6kb := Lib.hid (F5kb.out.belowW HB6.out)
  have F6qAdd := Lib.hid (F5qAdd.out.belowW HB6.out)
  have HL6 := Lib.hid (HL5.out.trans (HB6.out.mono HL5.out.size))
  clear F5t F5ka F5kb F5qAdd HL5 HB6
  clear pka0 pka1 fka0 fka1 pkb0 pkb1 fkb0 fkb1
  have pka0 : (w6).cell? ⟨w.heap.size, 0, none⟩ = some (.int .i64 an) := F6ka.out.cell 0
  have fka0 : (w6).frozen? ⟨w.heap.size, 0, none⟩ = false := F6ka.out.frozen 0
  have pka1 : (w6).cell? ⟨w.heap.size, 1, none⟩ = some (.int .i64 ad) := F6ka.out.cell 1
  have fka1 : (w6).frozen? ⟨w.heap.size, 1, none⟩ = false := F6ka.out.frozen 1
  have pkb0 : (w6).cell? ⟨w.heap.size + 1, 0, none⟩ = some (.int .i64 bn) := F6kb.out.cell 0
  have fkb0 : (w6).frozen? ⟨w.heap.size + 1, 0, none⟩ = false := F6kb.out.frozen 0
  have pkb1 : (w6).cell? ⟨w.heap.size + 1, 1, none⟩ = some (.int .i64 bd) := F6kb.out.cell 1
  have fkb1 : (w6).frozen? ⟨w.heap.size + 1, 1, none⟩ = false := F6kb.out.frozen 1
  go_wp2_with fail
  refine (qMul an ad bn bd w6 a1 a2 a3 a4 b1 b2 b3 b4).mono ?_
  rw [HMul.out]
  rintro e w7 ⟨rfl, HB7⟩
  have F7t := Lib.hid (F6t.out.belowW HB7.out)
  have F7ka := Lib.hid (F6ka.out.belowW HB7.out)
  have F7kb := Lib.hid (F6kb.out.belowW HB7.out)
  have F7qAdd := Lib.hid (F6qAdd.out.belowW HB7.out)
  have F7qSub := Lib.hid (F6qSub.out.belowW HB7.out)
  have HL7 := Lib.hid (HL6.out.trans (HB7.out.mono HL6.out.size))
  clear F6t F6ka F6kb F6qAdd F6qSub HL6 HB7
  go_upto_region 6 with (fail)
  obtain ⟨w8, hw⟩ : ∃ z9 : World, z9 = w7.alloc (.cells #[.int .i64 mn, .int .i64 md] 23) := ⟨_, rfl⟩
  have HB8 := Lib.hid (show Below w7.heap.size w7 w8 by rw [hw]; exact below_a1 _ _)
  have F8qMul := Lib.hid (show Blk w8 w7.heap.size 23 #[.int .i64 mn, .int .i64 md] by rw [hw]; exact Blk.new _ _ _)
  rw [← hw]
  clear hw
  have F8t := Lib.hid (F7t.out.belowW HB8.out)
  have F8ka := Lib.hid (F7ka.out.belowW HB8.out)
  have F8kb := Lib.hid (F7kb.out.belowW HB8.out)
  have F8qAdd := Lib.hid (F7qAdd.out.belowW HB8.out)
  have F8qSub := Lib.hid (F7qSub.out.belowW HB8.out)
  have HL8 := Lib.hid (HL7.out.trans (HB8.out.mono HL7.out.size))
  clear F7t F7ka F7kb F7qAdd F7qSub HL7 HB8
  clear pka0 pka1 fka0 fka1 pkb0 pkb1 fkb0 fkb1
  have pka0 : (w8).cell? ⟨w.heap.size, 0, none⟩ = some (.int .i64 an) := F8ka.out.cell 0
  have fka0 : (w8).frozen? ⟨w.heap.size, 0, none⟩ = false := F8ka.out.frozen 0
  have pka1 : (w8).cell? ⟨w.heap.size, 1, none⟩ = some (.int .i64 ad) := F8ka.out.cell 1
  have fka1 : (w8).frozen? ⟨w.heap.size, 1, none⟩ = false := F8ka.out.frozen 1
  have pkb0 : (w8).cell? ⟨w.heap.size + 1, 0, none⟩ = some (.int .i64 bn) := F8kb.out.cell 0
  have fkb0 : (w8).frozen? ⟨w.heap.size + 1, 0, none⟩ = false := F8kb.out.frozen 0
  have pkb1 : (w8).cell? ⟨w.heap.size + 1, 1, none⟩ = some (.int .i64 bd) := F8kb.out.cell 1
  have fkb1 : (w8).frozen? ⟨w.heap.size + 1, 1, none⟩ = false := F8kb.out.frozen 1
  go_wp2_with fail
  refine (qDiv an ad bn bd w8 a1 a2 a3 a4 b1 b2 b3 b4).mono ?_
  rw [HDiv.out]
  rintro e w9 ⟨rfl, HB9⟩
  have F9t := Lib.hid (F8t.out.belowW HB9.out)
  have F9ka := Lib.hid (F8ka.out.belowW HB9.out)
  have F9kb := Lib.hid (F8kb.out.belowW HB9.out)
  have F9qAdd := Lib.hid (F8qAdd.out.belowW HB9.out)
  have F9qSub := Lib.hid (F8qSub.out.belowW HB9.out)
  have F9qMul := Lib.hid (F8qMul.out.belowW HB9.out)
  have HL9 := Lib.hid (HL8.out.trans (HB9.out.mono HL8.out.size))
  clear F8t F8ka F8kb F8qAdd F8qSub F8qMul HL8 HB9
  go_upto_region 7 with (fail)
  obtain ⟨w10, hw⟩ : ∃ z9 : World, z9 = w9.alloc (.cells #[.int .i64 qn, .int .i64 qd] 23) := ⟨_, rfl⟩
  have HB10 := Lib.hid (show Below w9.heap.size w9 w10 by rw [hw]; exact below_a1 _ _)
  have F10qDiv := Lib.hid (show Blk w10 w9.heap.size 23 #[.int .i64 qn, .int .i64 qd] by rw [hw]; exact Blk.new _ _ _)
  rw [← hw]
  clear hw
  have F10t := Lib.hid (F9t.out.belowW HB10.out)
  have F10ka := Lib.hid (F9ka.out.belowW HB10.out)
  have F10kb := Lib.hid (F9kb.out.belowW HB10.out)
  have F10qAdd := Lib.hid (F9qAdd.out.belowW HB10.out)
  have F10qSub := Lib.hid (F9qSub.out.belowW HB10.out)
  have F10qMul := Lib.hid (F9qMul.out.belowW HB10.out)
  have HL10 := Lib.hid (HL9.out.trans (HB10.out.mono HL9.out.size))
  clear F9t F9ka F9kb F9qAdd F9qSub F9qMul HL9 HB10
  clear pka0 pka1 fka0 fka1 pkb0 pkb1 fkb0 fkb1
  have pka0 : (w10).cell? ⟨w.heap.size, 0, none⟩ = some (.int .i64 an) := F10ka.out.cell 0
  have fka0 : (w10).frozen? ⟨w.heap.size, 0, none⟩ = false := F10ka.out.frozen 0
  have pka1 : (w10).cell? ⟨w.heap.size, 1, none⟩ = some (.int .i64 ad) := F10ka.out.cell 1
  have fka1 : (w10).frozen? ⟨w.heap.size, 1, none⟩ = false := F10ka.out.frozen 1
  have pkb0 : (w10).cell? ⟨w.heap.size + 1, 0, none⟩ = some (.int .i64 bn) := F10kb.out.cell 0
  have fkb0 : (w10).frozen? ⟨w.heap.size + 1, 0, none⟩ = false := F10kb.out.frozen 0
  have pkb1 : (w10).cell? ⟨w.heap.size + 1, 1, none⟩ = some (.int .i64 bd) := F10kb.out.cell 1
  have fkb1 : (w10).frozen? ⟨w.heap.size + 1, 1, none⟩ = false := F10kb.out.frozen 1
  go_wp2_with fail
  refine (rAdd an ad bn bd w10 a1 a2 a3 a4 b1 b2 b3 b4).mono ?_
  rw [HAdd.out]
  rintro e w11 ⟨rfl, HB11⟩
  have F11t := Lib.hid (F10t.out.belowW HB11.out)
  have F11ka := Lib.hid (F10ka.out.belowW HB11.out)
  have F11kb := Lib.hid (F10kb.out.belowW HB11.out)
  have F11qAdd := Lib.hid (F10qAdd.out.belowW HB11.out)
  have F11qSub := Lib.hid (F10qSub.out.belowW HB11.out)
  have F11qMul := Lib.hid (F10qMul.out.belowW HB11.out)
  have F11qDiv := Lib.hid (F10qDiv.out.belowW HB11.out)
  have HL11 := Lib.hid (HL10.out.trans (HB11.out.mono HL10.out.size))
  clear F10t F10ka F10kb F10qAdd F10qSub F10qMul F10qDiv HL10 HB11
  go_upto_region 8 with (fail)
  obtain ⟨w12, hw⟩ : ∃ z9 : World, z9 = w11.alloc (.cells #[.int .i64 sn, .int .i64 sd] 23) := ⟨_, rfl⟩
  have HB12 := Lib.hid (show Below w11.heap.size w11 w12 by rw [hw]; exact below_a1 _ _)
  have F12rAdd := Lib.hid (show Blk w12 w11.heap.size 23 #[.int .i64 sn, .int .i64 sd] by rw [hw]; exact Blk.new _ _ _)
  rw [← hw]
  clear hw
  have F12t := Lib.hid (F11t.out.belowW HB12.out)
  have F12ka := Lib.hid (F11ka.out.belowW HB12.out)
  have F12kb := Lib.hid (F11kb.out.belowW HB12.out)
  have F12qAdd := Lib.hid (F11qAdd.out.belowW HB12.out)
  have F12qSub := Lib.hid (F11qSub.out.belowW HB12.out)
  have F12qMul := Lib.hid (F11qMul.out.belowW HB12.out)
  have F12qDiv := Lib.hid (F11qDiv.out.belowW HB12.out)
  have HL12 := Lib.hid (HL11.out.trans (HB12.out.mono HL11.out.size))
  clear F11t F11ka F11kb F11qAdd F11qSub F11qMul F11qDiv HL11 HB12
  clear pka0 pka1 fka0 fka1 pkb0 pkb1 fkb0 fkb1
  have pka0 : (w12).cell? ⟨w.heap.size, 0, none⟩ = some (.int .i64 an) := F12ka.out.cell 0
  have fka0 : (w12).frozen? ⟨w.heap.size, 0, none⟩ = false := F12ka.out.frozen 0
  have pka1 : (w12).cell? ⟨w.heap.size, 1, none⟩ = some (.int .i64 ad) := F12ka.out.cell 1
  have fka1 : (w12).frozen? ⟨w.heap.size, 1, none⟩ = false := F12ka.out.frozen 1
  have pkb0 : (w12).cell? ⟨w.heap.size + 1, 0, none⟩ = some (.int .i64 bn) := F12kb.out.cell 0
  have fkb0 : (w12).frozen? ⟨w.heap.size + 1, 0, none⟩ = false := F12kb.out.frozen 0
  have pkb1 : (w12).cell? ⟨w.heap.size + 1, 1, none⟩ = some (.int .i64 bd) := F12kb.out.cell 1
  have fkb1 : (w12).frozen? ⟨w.heap.size + 1, 1, none⟩ = false := F12kb.out.frozen 1
  go_wp2_with fail
  refine (rSub an ad bn bd w12 a1 a2 a3 a4 b1 b2 b3 b4).mono ?_
  rw [HSub.out]
  rintro e w13 ⟨rfl, HB13⟩
  have F13t := Lib.hid (F12t.out.belowW HB13.out)
  have F13ka := Lib.hid (F12ka.out.belowW HB13.out)
  have F13kb := Lib.hid (F12kb.out.belowW HB13.out)
  have F13qAdd := Lib.hid (F12qAdd.out.belowW HB13.out)
  have F13qSub := Lib.hid (F12qSub.out.belowW HB13.out)
  have F13qMul := Lib.hid (F12qMul.out.belowW HB13.out)
  have F13qDiv := Lib.hid (F12qDiv.out.belowW HB13.out)
  have F13rAdd := Lib.hid (F12rAdd.out.belowW HB13.out)
  have HL13 := Lib.hid (HL12.out.trans (HB13.out.mono HL12.out.size))
  clear F12t F12ka F12kb F12qAdd F12qSub F12qMul F12qDiv F12rAdd HL12 HB13
  go_upto_region 9 with (fail)
  obtain ⟨w14, hw⟩ : ∃ z9 : World, z9 = w13.alloc (.cells #[.int .i64 dn, .int .i64 dd] 23) := ⟨_, rfl⟩
  have HB14 := Lib.hid (show Below w13.heap.size w13 w14 by rw [hw]; exact below_a1 _ _)
  have F14rSub := Lib.hid (show Blk w14 w13.heap.size 23 #[.int .i64 dn, .int .i64 dd] by rw [hw]; exact Blk.new _ _ _)
  rw [← hw]
  clear hw
  have F14t := Lib.hid (F13t.out.belowW HB14.out)
  have F14ka := Lib.hid (F13ka.out.belowW HB14.out)
  have F14kb := Lib.hid (F13kb.out.belowW HB14.out)
  have F14qAdd := Lib.hid (F13qAdd.out.belowW HB14.out)
  have F14qSub := Lib.hid (F13qSub.out.belowW HB14.out)
  have F14qMul := Lib.hid (F13qMul.out.belowW HB14.out)
  have F14qDiv := Lib.hid (F13qDiv.out.belowW HB14.out)
  have F14rAdd := Lib.hid (F13rAdd.out.belowW HB14.out)
  have HL14 := Lib.hid (HL13.out.trans (HB14.out.mono HL13.out.size))
  clear F13t F13ka F13kb F13qAdd F13qSub F13qMul F13qDiv F13rAdd HL13 HB14
  clear pka0 pka1 fka0 fka1 pkb0 pkb1 fkb0 fkb1
  have pka0 : (w14).cell? ⟨w.heap.size, 0, none⟩ = some (.int .i64 an) := F14ka.out.cell 0
  have fka0 : (w14).frozen? ⟨w.heap.size, 0, none⟩ = false := F14ka.out.frozen 0
  have pka1 : (w14).cell? ⟨w.heap.size, 1, none⟩ = some (.int .i64 ad) := F14ka.out.cell 1
  have fka1 : (w14).frozen? ⟨w.heap.size, 1, none⟩ = false := F14ka.out.frozen 1
  have pkb0 : (w14).cell? ⟨w.heap.size + 1, 0, none⟩ = some (.int .i64 bn) := F14kb.out.cell 0
  have fkb0 : (w14).frozen? ⟨w.heap.size + 1, 0, none⟩ = false := F14kb.out.frozen 0
  have pkb1 : (w14).cell? ⟨w.heap.size + 1, 1, none⟩ = some (.int .i64 bd) := F14kb.out.cell 1
  have fkb1 : (w14).frozen? ⟨w.heap.size + 1, 1, none⟩ = false := F14kb.out.frozen 1
  go_wp2_with fail
  refine (rMul an ad bn bd w14 a1 a2 a3 a4 b1 b2 b3 b4).mono ?_
  rw [HMul.out]
  rintro e w15 ⟨rfl, HB15⟩
  have F15t := Lib.hid (F14t.out.belowW HB15.out)
  have F15ka := Lib.hid (F14ka.out.belowW HB15.out)
  have F15kb := Lib.hid (F14kb.out.belowW HB15.out)
  have F15qAdd := Lib.hid (F14qAdd.out.belowW HB15.out)
  have F15qSub := Lib.hid (F14qSub.out.belowW HB15.out)
  have F15qMul := Lib.hid (F14qMul.out.belowW HB15.out)
  have F15qDiv := Lib.hid (F14qDiv.out.belowW HB15.out)
  have F15rAdd := Lib.hid (F14rAdd.out.belowW HB15.out)
  have F15rSub := Lib.hid (F14rSub.out.belowW HB15.out)
  have HL15 := Lib.hid (HL14.out.trans (HB15.out.mono HL14.out.size))
  clear F14t F14ka F14kb F14qAdd F14qSub F14qMul F14qDiv F14rAdd F14rSub HL14 HB15
  go_upto_region 10 with (fail)
  obtain ⟨w16, hw⟩ : ∃ z9 : World, z9 = w15.alloc (.cells #[.int .i64 mn, .int .i64 md] 23) := ⟨_, rfl⟩
  have HB16 := Lib.hid (show Below w15.heap.size w15 w16 by rw [hw]; exact below_a1 _ _)
  have F16rMul := Lib.hid (show Blk w16 w15.heap.size 23 #[.int .i64 mn, .int .i64 md] by rw [hw]; exact Blk.new _ _ _)
  rw [← hw]
  clear hw
  have F16t := Lib.hid (F15t.out.belowW HB16.out)
  have F16ka := Lib.hid (F15ka.out.belowW HB16.out)
  have F16kb := Lib.hid (F15kb.out.belowW HB16.out)
  have F16qAdd := Lib.hid (F15qAdd.out.belowW HB16.out)
  have F16qSub := Lib.hid (F15qSub.out.belowW HB16.out)
  have F16qMul := Lib.hid (F15qMul.out.belowW HB16.out)
  have F16qDiv := Lib.hid (F15qDiv.out.belowW HB16.out)
  have F16rAdd := Lib.hid (F15rAdd.out.belowW HB16.out)
  have F16rSub := Lib.hid (F15rSub.out.belowW HB16.out)
  have HL16 := Lib.hid (HL15.out.trans (HB16.out.mono HL15.out.size))
  clear F15t F15ka F15kb F15qAdd F15qSub F15qMul F15qDiv F15rAdd F15rSub HL15 HB16
  clear pka0 pka1 fka0 fka1 pkb0 pkb1 fkb0 fkb1
  have pka0 : (w16).cell? ⟨w.heap.size, 0, none⟩ = some (.int .i64 an) := F16ka.out.cell 0
  have fka0 : (w16).frozen? ⟨w.heap.size, 0, none⟩ = false := F16ka.out.frozen 0
  have pka1 : (w16).cell? ⟨w.heap.size, 1, none⟩ = some (.int .i64 ad) := F16ka.out.cell 1
  have fka1 : (w16).frozen? ⟨w.heap.size, 1, none⟩ = false := F16ka.out.frozen 1
  have pkb0 : (w16).cell? ⟨w.heap.size + 1, 0, none⟩ = some (.int .i64 bn) := F16kb.out.cell 0
  have fkb0 : (w16).frozen? ⟨w.heap.size + 1, 0, none⟩ = false := F16kb.out.frozen 0
  have pkb1 : (w16).cell? ⟨w.heap.size + 1, 1, none⟩ = some (.int .i64 bd) := F16kb.out.cell 1
  have fkb1 : (w16).frozen? ⟨w.heap.size + 1, 1, none⟩ = false := F16kb.out.frozen 1
  go_wp2_with fail
  refine (rDiv an ad bn bd w16 a1 a2 a3 a4 b1 b2 b3 b4).mono ?_
  rw [HDiv.out]
  rintro e w17 ⟨rfl, HB17⟩
  have F17t := Lib.hid (F16t.out.belowW HB17.out)
  have F17ka := Lib.hid (F16ka.out.belowW HB17.out)
  have F17kb := Lib.hid (F16kb.out.belowW HB17.out)
  have F17qAdd := Lib.hid (F16qAdd.out.belowW HB17.out)
  have F17qSub := Lib.hid (F16qSub.out.belowW HB17.out)
  have F17qMul := Lib.hid (F16qMul.out.belowW HB17.out)
  have F17qDiv := Lib.hid (F16qDiv.out.belowW HB17.out)
  have F17rAdd := Lib.hid (F16rAdd.out.belowW HB17.out)
  have F17rSub := Lib.hid (F16rSub.out.belowW HB17.out)
  have F17rMul := Lib.hid (F16rMul.out.belowW HB17.out)
  have HL17 := Lib.hid (HL16.out.trans (HB17.out.mono HL16.out.size))
  clear F16t F16ka F16kb F16qAdd F16qSub F16qMul F16qDiv F16rAdd F16rSub F16rMul HL16 HB17
  go_upto_region 11 with (fail)
  obtain ⟨w18, hw⟩ : ∃ z9 : World, z9 = w17.alloc (.cells #[.int .i64 qn, .int .i64 qd] 23) := ⟨_, rfl⟩
  have HB18 := Lib.hid (show Below w17.heap.size w17 w18 by rw [hw]; exact below_a1 _ _)
  have F18rDiv := Lib.hid (show Blk w18 w17.heap.size 23 #[.int .i64 qn, .int .i64 qd] by rw [hw]; exact Blk.new _ _ _)
  rw [← hw]
  clear hw
  have F18t := Lib.hid (F17t.out.belowW HB18.out)
  have F18ka := Lib.hid (F17ka.out.belowW HB18.out)
  have F18kb := Lib.hid (F17kb.out.belowW HB18.out)
  have F18qAdd := Lib.hid (F17qAdd.out.belowW HB18.out)
  have F18qSub := Lib.hid (F17qSub.out.belowW HB18.out)
  have F18qMul := Lib.hid (F17qMul.out.belowW HB18.out)
  have F18qDiv := Lib.hid (F17qDiv.out.belowW HB18.out)
  have F18rAdd := Lib.hid (F17rAdd.out.belowW HB18.out)
  have F18rSub := Lib.hid (F17rSub.out.belowW HB18.out)
  have F18rMul := Lib.hid (F17rMul.out.belowW HB18.out)
  have HL18 := Lib.hid (HL17.out.trans (HB18.out.mono HL17.out.size))
  clear F17t F17ka F17kb F17qAdd F17qSub F17qMul F17qDiv F17rAdd F17rSub F17rMul HL17 HB18
  clear pka0 pka1 fka0 fka1 pkb0 pkb1 fkb0 fkb1
  have pqAdd0 : (w18).cell? ⟨w3.heap.size, 0, none⟩ = some (.int .i64 sn) := F18qAdd.out.cell 0
  have fqAdd0 : (w18).frozen? ⟨w3.heap.size, 0, none⟩ = false := F18qAdd.out.frozen 0
  have pqAdd1 : (w18).cell? ⟨w3.heap.size, 1, none⟩ = some (.int .i64 sd) := F18qAdd.out.cell 1
  have fqAdd1 : (w18).frozen? ⟨w3.heap.size, 1, none⟩ = false := F18qAdd.out.frozen 1
  have pqSub0 : (w18).cell? ⟨w5.heap.size, 0, none⟩ = some (.int .i64 dn) := F18qSub.out.cell 0
  have fqSub0 : (w18).frozen? ⟨w5.heap.size, 0, none⟩ = false := F18qSub.out.frozen 0
  have pqSub1 : (w18).cell? ⟨w5.heap.size, 1, none⟩ = some (.int .i64 dd) := F18qSub.out.cell 1
  have fqSub1 : (w18).frozen? ⟨w5.heap.size, 1, none⟩ = false := F18qSub.out.frozen 1
  have pqMul0 : (w18).cell? ⟨w7.heap.size, 0, none⟩ = some (.int .i64 mn) := F18qMul.out.cell 0
  have fqMul0 : (w18).frozen? ⟨w7.heap.size, 0, none⟩ = false := F18qMul.out.frozen 0
  have pqMul1 : (w18).cell? ⟨w7.heap.size, 1, none⟩ = some (.int .i64 md) := F18qMul.out.cell 1
  have fqMul1 : (w18).frozen? ⟨w7.heap.size, 1, none⟩ = false := F18qMul.out.frozen 1
  have pqDiv0 : (w18).cell? ⟨w9.heap.size, 0, none⟩ = some (.int .i64 qn) := F18qDiv.out.cell 0
  have fqDiv0 : (w18).frozen? ⟨w9.heap.size, 0, none⟩ = false := F18qDiv.out.frozen 0
  have pqDiv1 : (w18).cell? ⟨w9.heap.size, 1, none⟩ = some (.int .i64 qd) := F18qDiv.out.cell 1
  have fqDiv1 : (w18).frozen? ⟨w9.heap.size, 1, none⟩ = false := F18qDiv.out.frozen 1
  have prAdd0 : (w18).cell? ⟨w11.heap.size, 0, none⟩ = some (.int .i64 sn) := F18rAdd.out.cell 0
  have frAdd0 : (w18).frozen? ⟨w11.heap.size, 0, none⟩ = false := F18rAdd.out.frozen 0
  have prAdd1 : (w18).cell? ⟨w11.heap.size, 1, none⟩ = some (.int .i64 sd) := F18rAdd.out.cell 1
  have frAdd1 : (w18).frozen? ⟨w11.heap.size, 1, none⟩ = false := F18rAdd.out.frozen 1
  have prSub0 : (w18).cell? ⟨w13.heap.size, 0, none⟩ = some (.int .i64 dn) := F18rSub.out.cell 0
  have frSub0 : (w18).frozen? ⟨w13.heap.size, 0, none⟩ = false := F18rSub.out.frozen 0
  have prSub1 : (w18).cell? ⟨w13.heap.size, 1, none⟩ = some (.int .i64 dd) := F18rSub.out.cell 1
  have frSub1 : (w18).frozen? ⟨w13.heap.size, 1, none⟩ = false := F18rSub.out.frozen 1
  have prMul0 : (w18).cell? ⟨w15.heap.size, 0, none⟩ = some (.int .i64 mn) := F18rMul.out.cell 0
  have frMul0 : (w18).frozen? ⟨w15.heap.size, 0, none⟩ = false := F18rMul.out.frozen 0
  have prMul1 : (w18).cell? ⟨w15.heap.size, 1, none⟩ = some (.int .i64 md) := F18rMul.out.cell 1
  have frMul1 : (w18).frozen? ⟨w15.heap.size, 1, none⟩ = false := F18rMul.out.frozen 1
  have prDiv0 : (w18).cell? ⟨w17.heap.size, 0, none⟩ = some (.int .i64 qn) := F18rDiv.out.cell 0
  have frDiv0 : (w18).frozen? ⟨w17.heap.size, 0, none⟩ = false := F18rDiv.out.frozen 0
  have prDiv1 : (w18).cell? ⟨w17.heap.size, 1, none⟩ = some (.int .i64 qd) := F18rDiv.out.cell 1
  have frDiv1 : (w18).frozen? ⟨w17.heap.size, 1, none⟩ = false := F18rDiv.out.frozen 1
  go_wp2_with fail
  go_ret
  exact ⟨rfl, HL18⟩
end Go.Proofs.YtnogfceojmnjiaaGreatDoor
