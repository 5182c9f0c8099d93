/-
  The walks of the law's helpers: same, short, awake.
-/
import Derived.Test.YtnogfceojmnjiaaGreatDoorRaE
import Derived.Test.YtnogfceojmnjiaaGreatDoorNumEq
import Derived.Test.YtnogfceojmnjiaaGreatDoorRatPlain6
set_option linter.unusedVariables false
namespace Go.Proofs.YtnogfceojmnjiaaGreatDoor
open Go.RowKit Go.Fl Go.Fl.Nm Go.Fl.Dy Go.Fl.Rt
/-- Whether two numbers are the same, by their parts. -/
def sameB (na nb : Bool) (a b : List Nat) (ea eb : Int) : Bool := decide (na = nb ∧ ea = eb ∧ a = b)

set_option maxHeartbeats 1000000 in
theorem same_any (na nb : Bool) (A B : Option Addr) (n c m d : Nat) (a b : List Nat) (ea eb : Int) (w : World) (ha : Sl w A n c a) (hb : Sl w B m d b) :
    Calls Tryz.prog 44 #[.agg #[.bool na, .slice A n c, .int .i64 ea], .agg #[.bool nb, .slice B m d, .int .i64 eb]] w (Ret (.bool (sameB na nb a b ea eb)) w) := by
  have HA := Lib.hid ha
  have HB := Lib.hid hb
  clear ha hb
  by_cases h1 : na = nb
  case neg =>
    have d1 : (na == nb) = false := by rw [beq_eq_false_iff_ne]; exact h1
    have HR := Lib.hid (show sameB na nb a b ea eb = false by unfold sameB; rw [decide_eq_false_iff_not]; exact fun h => h1 h.1)
    clear h1
    go_enter Tryz.func44, Tryz.ntmps44
    go_wp2_with fail
    obtain ⟨w1, hw⟩ : ∃ z9 : World, z9 = ((w.alloc (.cells #[.bool na, .slice A n c, .int .i64 ea] 28)).alloc (.cells #[.bool nb, .slice B m d, .int .i64 eb] 28)) := ⟨_, rfl⟩
    have HB1 := Lib.hid (show Below w.heap.size w w1 by rw [hw]; exact below_a2 _ _ _)
    have F1a := Lib.hid (HA.out.belowW HB1.out)
    have F1b := Lib.hid (HB.out.belowW HB1.out)
    have F1ka := Lib.hid (show Blk w1 (w.heap.size) 28 #[.bool na, .slice A n c, .int .i64 ea] by rw [hw]; exact (Blk.new _ _ _).alloc _)
    have F1kb := Lib.hid (show Blk w1 (w.heap.size + 1) 28 #[.bool nb, .slice B m d, .int .i64 eb] by rw [hw]; exact Blk.new1 _ _ _ _)
    rw [← hw]
    clear hw
    have pka0 : (w1).cell? ⟨w.heap.size, 0, none⟩ = some (.bool na) := F1ka.out.cell 0
    have fka0 : (w1).frozen? ⟨w.heap.size, 0, none⟩ = false := F1ka.out.frozen 0
    have pka1 : (w1).cell? ⟨w.heap.size, 1, none⟩ = some (.slice A n c) := F1ka.out.cell 1
    have fka1 : (w1).frozen? ⟨w.heap.size, 1, none⟩ = false := F1ka.out.frozen 1
    have pka2 : (w1).cell? ⟨w.heap.size, 2, none⟩ = some (.int .i64 ea) := F1ka.out.cell 2
    have fka2 : (w1).frozen? ⟨w.heap.size, 2, none⟩ = false := F1ka.out.frozen 2
    have pkb0 : (w1).cell? ⟨w.heap.size + 1, 0, none⟩ = some (.bool nb) := F1kb.out.cell 0
    have fkb0 : (w1).frozen? ⟨w.heap.size + 1, 0, none⟩ = false := F1kb.out.frozen 0
    have pkb1 : (w1).cell? ⟨w.heap.size + 1, 1, none⟩ = some (.slice B m d) := F1kb.out.cell 1
    have fkb1 : (w1).frozen? ⟨w.heap.size + 1, 1, none⟩ = false := F1kb.out.frozen 1
    have pkb2 : (w1).cell? ⟨w.heap.size + 1, 2, none⟩ = some (.int .i64 eb) := F1kb.out.cell 2
    have fkb2 : (w1).frozen? ⟨w.heap.size + 1, 2, none⟩ = false := F1kb.out.frozen 2
    go_wp2_with fail
    go_ret
    exact ⟨ret_bool (by rw [HR.out]), HB1⟩
  have d1 : (na == nb) = true := by simp [h1]
  by_cases h2 : ea = eb
  case neg =>
    have d2 : (ea == eb) = false := by rw [beq_eq_false_iff_ne]; exact h2
    have HR := Lib.hid (show sameB na nb a b ea eb = false by unfold sameB; rw [decide_eq_false_iff_not]; exact fun h => h2 h.2.1)
    clear h1 h2
    go_enter Tryz.func44, Tryz.ntmps44
    go_wp2_with fail
    obtain ⟨w1, hw⟩ : ∃ z9 : World, z9 = ((w.alloc (.cells #[.bool na, .slice A n c, .int .i64 ea] 28)).alloc (.cells #[.bool nb, .slice B m d, .int .i64 eb] 28)) := ⟨_, rfl⟩
    have HB1 := Lib.hid (show Below w.heap.size w w1 by rw [hw]; exact below_a2 _ _ _)
    have F1a := Lib.hid (HA.out.belowW HB1.out)
    have F1b := Lib.hid (HB.out.belowW HB1.out)
    have F1ka := Lib.hid (show Blk w1 (w.heap.size) 28 #[.bool na, .slice A n c, .int .i64 ea] by rw [hw]; exact (Blk.new _ _ _).alloc _)
    have F1kb := Lib.hid (show Blk w1 (w.heap.size + 1) 28 #[.bool nb, .slice B m d, .int .i64 eb] by rw [hw]; exact Blk.new1 _ _ _ _)
    rw [← hw]
    clear hw
    have pka0 : (w1).cell? ⟨w.heap.size, 0, none⟩ = some (.bool na) := F1ka.out.cell 0
    have fka0 : (w1).frozen? ⟨w.heap.size, 0, none⟩ = false := F1ka.out.frozen 0
    have pka1 : (w1).cell? ⟨w.heap.size, 1, none⟩ = some (.slice A n c) := F1ka.out.cell 1
    have fka1 : (w1).frozen? ⟨w.heap.size, 1, none⟩ = false := F1ka.out.frozen 1
    have pka2 : (w1).cell? ⟨w.heap.size, 2, none⟩ = some (.int .i64 ea) := F1ka.out.cell 2
    have fka2 : (w1).frozen? ⟨w.heap.size, 2, none⟩ = false := F1ka.out.frozen 2
    have pkb0 : (w1).cell? ⟨w.heap.size + 1, 0, none⟩ = some (.bool nb) := F1kb.out.cell 0
    have fkb0 : (w1).frozen? ⟨w.heap.size + 1, 0, none⟩ = false := F1kb.out.frozen 0
    have pkb1 : (w1).cell? ⟨w.heap.size + 1, 1, none⟩ = some (.slice B m d) := F1kb.out.cell 1
    have fkb1 : (w1).frozen? ⟨w.heap.size + 1, 1, none⟩ = false := F1kb.out.frozen 1
    have pkb2 : (w1).cell? ⟨w.heap.size + 1, 2, none⟩ = some (.int .i64 eb) := F1kb.out.cell 2
    have fkb2 : (w1).frozen? ⟨w.heap.size + 1, 2, none⟩ = false := F1kb.out.frozen 2
    go_wp2_with fail
    go_ret
    exact ⟨ret_bool (by rw [HR.out]), HB1⟩
  have d2 : (ea == eb) = true := by simp [h2]
  have HR := Lib.hid (show sameB na nb a b ea eb = decide (a = b) by unfold sameB; simp [h1, h2])
  clear h1 h2
  go_enter Tryz.func44, Tryz.ntmps44
  go_wp2_with fail
  obtain ⟨w1, hw⟩ : ∃ z9 : World, z9 = ((w.alloc (.cells #[.bool na, .slice A n c, .int .i64 ea] 28)).alloc (.cells #[.bool nb, .slice B m d, .int .i64 eb] 28)) := ⟨_, rfl⟩
  have HB1 := Lib.hid (show Below w.heap.size w w1 by rw [hw]; exact below_a2 _ _ _)
  have F1a := Lib.hid (HA.out.belowW HB1.out)
  have F1b := Lib.hid (HB.out.belowW HB1.out)
  have F1ka := Lib.hid (show Blk w1 (w.heap.size) 28 #[.bool na, .slice A n c, .int .i64 ea] by rw [hw]; exact (Blk.new _ _ _).alloc _)
  have F1kb := Lib.hid (show Blk w1 (w.heap.size + 1) 28 #[.bool nb, .slice B m d, .int .i64 eb] by rw [hw]; exact Blk.new1 _ _ _ _)
  rw [← hw]
  clear hw
  have pka0 : (w1).cell? ⟨w.heap.size, 0, none⟩ = some (.bool na) := F1ka.out.cell 0
  have fka0 : (w1).frozen? ⟨w.heap.size, 0, none⟩ = false := F1ka.out.frozen 0
  have pka1 : (w1).cell? ⟨w.heap.size, 1, none⟩ = some (.slice A n c) := F1ka.out.cell 1
  have fka1 : (w1).frozen? ⟨w.heap.size, 1, none⟩ = false := F1ka.out.frozen 1
  have pka2 : (w1).cell? ⟨w.heap.size, 2, none⟩ = some (.int .i64 ea) := F1ka.out.cell 2
  have fka2 : (w1).frozen? ⟨w.heap.size, 2, none⟩ = false := F1ka.out.frozen 2
  have pkb0 : (w1).cell? ⟨w.heap.size + 1, 0, none⟩ = some (.bool nb) := F1kb.out.cell 0
  have fkb0 : (w1).frozen? ⟨w.heap.size + 1, 0, none⟩ = false := F1kb.out.frozen 0
  have pkb1 : (w1).cell? ⟨w.heap.size + 1, 1, none⟩ = some (.slice B m d) := F1kb.out.cell 1
  have fkb1 : (w1).frozen? ⟨w.heap.size + 1, 1, none⟩ = false := F1kb.out.frozen 1
  have pkb2 : (w1).cell? ⟨w.heap.size + 1, 2, none⟩ = some (.int .i64 eb) := F1kb.out.cell 2
  have fkb2 : (w1).frozen? ⟨w.heap.size + 1, 2, none⟩ = false := F1kb.out.frozen 2
  go_wp2_with fail
  refine (eq_any A B n c m d a b w1 F1a.out F1b.out).mono ?_
  rintro e w2 ⟨rfl, HQ⟩
  have HB2 := Lib.hid (show Below w1.heap.size w1 w2 by obtain ⟨q, hq⟩ := HQ.out; rw [hq]; exact below_drewN (Below.refl _ _) q)
  have F2a := Lib.hid (F1a.out.belowW HB2.out)
  have F2b := Lib.hid (F1b.out.belowW HB2.out)
  have F2ka := Lib.hid (F1ka.out.belowW HB2.out)
  have F2kb := Lib.hid (F1kb.out.belowW HB2.out)
  have HL2 := Lib.hid (HB1.out.trans (HB2.out.mono HB1.out.size))
  go_wp2_with fail
  go_ret
  exact ⟨ret_bool (by rw [HR.out]), HL2⟩

set_option maxHeartbeats 400000 in
theorem short4_any (ng : Bool) (A : Option Addr) (n c : Nat) (ex : Int) (w : World) (hn : n ≤ maxLen) :
    Calls Tryz.prog 35 #[.agg #[.bool ng, .slice A n c, .int .i64 ex]] w (Ret (.bool (decide (n ≤ 300))) w) := by
  unfold maxLen at hn
  by_cases h : n ≤ 300
  all_goals
    have HR : Hid (decide ((n : Int) ≤ 300) = decide (n ≤ 300)) := Lib.hid (by rw [decide_eq_decide]; omega)
    go_enter Tryz.func35, Tryz.ntmps35
    go_wp2_with fail
    go_ret
    exact ⟨ret_bool (by first | exact HR.out | simp [h] | (rw [← HR.out]; simp; omega)), Lib.hid (below_a1 _ _)⟩

theorem parse_example : read1 [45, 49, 46, 50, 53] = (-5, 4, 0) := by decide +kernel
theorem limbs_one' {x : Nat} (h0 : 0 < x) (h : x < BB) : limbs x = [x] := by
  rw [limbs_pos (by omega), Nat.mod_eq_of_lt h, Nat.div_eq_of_lt h, limbs_zero]
set_option maxHeartbeats 2000000 in
theorem awake_any (w : World) (hT : RX w) : Calls Tryz.prog 13 #[] w (Awk w) := by
  have HT := Lib.hid hT
  clear hT
  have K1 := Lib.hid parse_example
  have K2 := Lib.hid enc_example
  have S1 := Lib.hid (show sameB false false (limbs 85) [85] (-8) (-8) = true by rw [limbs_one' (by omega) (by unfold BB; omega)]; rfl)
  have S2 := Lib.hid (show sameB false false (limbs 171) [171] (-9) (-9) = true by rw [limbs_one' (by omega) (by unfold BB; omega)]; rfl)
  go_enter Tryz.func13, Tryz.ntmps13
  go_wp2_with fail
  refine (parse_any' ⟨#[45, 49, 46, 50, 53]⟩ w HT.out (by decide)).mono ?_
  rw [show read1 (⟨#[45, 49, 46, 50, 53]⟩ : ByteArray).data.toList = (-5, 4, 0) from K1.out]
  rintro e w1 ⟨rfl, HB1⟩
  have F1t := Lib.hid (HT.out.belowW HB1.out)
  go_upto_region 2 with (fail)
  obtain ⟨w2, hw⟩ : ∃ z9 : World, z9 = w1.alloc (.cells #[.int .i64 (-5), .int .i64 4] 23) := ⟨_, rfl⟩
  have HB2 := Lib.hid (show Below w1.heap.size w1 w2 by rw [hw]; exact below_a1 _ _)
  have F2ra := Lib.hid (show Blk w2 w1.heap.size 23 #[.int .i64 (-5), .int .i64 4] by rw [hw]; exact Blk.new _ _ _)
  rw [← hw]
  clear hw
  have F2t := Lib.hid (F1t.out.belowW HB2.out)
  have HL2 := Lib.hid (HB1.out.trans (HB2.out.mono HB1.out.size))
  go_wp2_with fail
  refine (enclose_any 1 3 8 w2 F2t.out.toRB (by omega) (by omega) (by omega) (by omega)).mono ?_
  rw [K2.out]
  rintro e w3 ⟨A, B, n, c, m, d, rfl, HA, HYb, HB3⟩
  have F3t := Lib.hid (F2t.out.belowW HB3.out)
  have F3ra := Lib.hid (F2ra.out.belowW HB3.out)
  have HL3 := Lib.hid (HL2.out.trans (HB3.out.mono HL2.out.size))
  have F3a := Lib.hid (HA.out)
  have F3b := Lib.hid (HYb.out)
  go_upto_region 3 with (fail)
  obtain ⟨w4, hw⟩ : ∃ z9 : World, z9 = w3.alloc (.cells #[.bool false, .slice A n c, .int .i64 (-8), .bool false, .slice B m d, .int .i64 (-9), .bool false] 30) := ⟨_, rfl⟩
  have HB4 := Lib.hid (show Below w3.heap.size w3 w4 by rw [hw]; exact below_a1 _ _)
  have F4iv := Lib.hid (show Blk w4 w3.heap.size 30 #[.bool false, .slice A n c, .int .i64 (-8), .bool false, .slice B m d, .int .i64 (-9), .bool false] by rw [hw]; exact Blk.new _ _ _)
  rw [← hw]
  clear hw
  have F4t := Lib.hid (F3t.out.belowW HB4.out)
  have F4ra := Lib.hid (F3ra.out.belowW HB4.out)
  have F4a := Lib.hid (F3a.out.belowW HB4.out)
  have F4b := Lib.hid (F3b.out.belowW HB4.out)
  have HL4 := Lib.hid (HL3.out.trans (HB4.out.mono HL3.out.size))
  have pra0 : (w4).cell? ⟨w1.heap.size, 0, none⟩ = some (.int .i64 (-5)) := F4ra.out.cell 0
  have fra0 : (w4).frozen? ⟨w1.heap.size, 0, none⟩ = false := F4ra.out.frozen 0
  have pra1 : (w4).cell? ⟨w1.heap.size, 1, none⟩ = some (.int .i64 4) := F4ra.out.cell 1
  have fra1 : (w4).frozen? ⟨w1.heap.size, 1, none⟩ = false := F4ra.out.frozen 1
  have piv0 : (w4).cell? ⟨w3.heap.size, 0, none⟩ = some (.bool false) := F4iv.out.cell 0
  have fiv0 : (w4).frozen? ⟨w3.heap.size, 0, none⟩ = false := F4iv.out.frozen 0
  have piv1 : (w4).cell? ⟨w3.heap.size, 1, none⟩ = some (.slice A n c) := F4iv.out.cell 1
  have fiv1 : (w4).frozen? ⟨w3.heap.size, 1, none⟩ = false := F4iv.out.frozen 1
  have piv2 : (w4).cell? ⟨w3.heap.size, 2, none⟩ = some (.int .i64 (-8)) := F4iv.out.cell 2
  have fiv2 : (w4).frozen? ⟨w3.heap.size, 2, none⟩ = false := F4iv.out.frozen 2
  have piv3 : (w4).cell? ⟨w3.heap.size, 3, none⟩ = some (.bool false) := F4iv.out.cell 3
  have fiv3 : (w4).frozen? ⟨w3.heap.size, 3, none⟩ = false := F4iv.out.frozen 3
  have piv4 : (w4).cell? ⟨w3.heap.size, 4, none⟩ = some (.slice B m d) := F4iv.out.cell 4
  have fiv4 : (w4).frozen? ⟨w3.heap.size, 4, none⟩ = false := F4iv.out.frozen 4
  have piv5 : (w4).cell? ⟨w3.heap.size, 5, none⟩ = some (.int .i64 (-9)) := F4iv.out.cell 5
  have fiv5 : (w4).frozen? ⟨w3.heap.size, 5, none⟩ = false := F4iv.out.frozen 5
  have piv6 : (w4).cell? ⟨w3.heap.size, 6, none⟩ = some (.bool false) := F4iv.out.cell 6
  have fiv6 : (w4).frozen? ⟨w3.heap.size, 6, none⟩ = false := F4iv.out.frozen 6
  go_wp2_with fail
  obtain ⟨w5, hw⟩ : ∃ z9 : World, z9 = w4.alloc (.cells #[.int .u32 85] 39) := ⟨_, rfl⟩
  have HB5 := Lib.hid (show Below w4.heap.size w4 w5 by rw [hw]; exact below_a1 _ _)
  have F5s85 := Lib.hid (show Blk w5 w4.heap.size 39 #[.int .u32 85] by rw [hw]; exact Blk.new _ _ _)
  rw [← hw]
  clear hw
  have F5t := Lib.hid (F4t.out.belowW HB5.out)
  have F5ra := Lib.hid (F4ra.out.belowW HB5.out)
  have F5a := Lib.hid (F4a.out.belowW HB5.out)
  have F5b := Lib.hid (F4b.out.belowW HB5.out)
  have F5iv := Lib.hid (F4iv.out.belowW HB5.out)
  have HL5 := Lib.hid (HL4.out.trans (HB5.out.mono HL4.out.size))
  have FS := Lib.hid (Sl.one (x := 85) F5s85.out (by unfold BB; omega))
  refine (same_any false false A (some ⟨w4.heap.size, 0, none⟩) n c 1 1 _ [85] (-8) (-8) w5 F5a.out FS.out).mono ?_
  rw [S1.out]
  rintro e w6 ⟨rfl, HB6⟩
  have F6t := Lib.hid (F5t.out.belowW HB6.out)
  have F6ra := Lib.hid (F5ra.out.belowW HB6.out)
  have F6a := Lib.hid (F5a.out.belowW HB6.out)
  have F6b := Lib.hid (F5b.out.belowW HB6.out)
  have F6iv := Lib.hid (F5iv.out.belowW HB6.out)
  have F6s85 := Lib.hid (FS.out.belowW HB6.out)
  have HL6 := Lib.hid (HL5.out.trans (HB6.out.mono HL5.out.size))
  clear pra0 fra0 pra1 fra1 piv0 fiv0 piv1 fiv1 piv2 fiv2 piv3 fiv3 piv4 fiv4 piv5 fiv5 piv6 fiv6
  have piv0 : (w6).cell? ⟨w3.heap.size, 0, none⟩ = some (.bool false) := F6iv.out.cell 0
  have fiv0 : (w6).frozen? ⟨w3.heap.size, 0, none⟩ = false := F6iv.out.frozen 0
  have piv1 : (w6).cell? ⟨w3.heap.size, 1, none⟩ = some (.slice A n c) := F6iv.out.cell 1
  have fiv1 : (w6).frozen? ⟨w3.heap.size, 1, none⟩ = false := F6iv.out.frozen 1
  have piv2 : (w6).cell? ⟨w3.heap.size, 2, none⟩ = some (.int .i64 (-8)) := F6iv.out.cell 2
  have fiv2 : (w6).frozen? ⟨w3.heap.size, 2, none⟩ = false := F6iv.out.frozen 2
  have piv3 : (w6).cell? ⟨w3.heap.size, 3, none⟩ = some (.bool false) := F6iv.out.cell 3
  have fiv3 : (w6).frozen? ⟨w3.heap.size, 3, none⟩ = false := F6iv.out.frozen 3
  have piv4 : (w6).cell? ⟨w3.heap.size, 4, none⟩ = some (.slice B m d) := F6iv.out.cell 4
  have fiv4 : (w6).frozen? ⟨w3.heap.size, 4, none⟩ = false := F6iv.out.frozen 4
  have piv5 : (w6).cell? ⟨w3.heap.size, 5, none⟩ = some (.int .i64 (-9)) := F6iv.out.cell 5
  have fiv5 : (w6).frozen? ⟨w3.heap.size, 5, none⟩ = false := F6iv.out.frozen 5
  have piv6 : (w6).cell? ⟨w3.heap.size, 6, none⟩ = some (.bool false) := F6iv.out.cell 6
  have fiv6 : (w6).frozen? ⟨w3.heap.size, 6, none⟩ = false := F6iv.out.frozen 6
  go_wp2_with fail
  obtain ⟨w7, hw⟩ : ∃ z9 : World, z9 = w6.alloc (.cells #[.int .u32 171] 39) := ⟨_, rfl⟩
  have HB7 := Lib.hid (show Below w6.heap.size w6 w7 by rw [hw]; exact below_a1 _ _)
  have F7s171 := Lib.hid (show Blk w7 w6.heap.size 39 #[.int .u32 171] by rw [hw]; exact Blk.new _ _ _)
  rw [← hw]
  clear hw
  have F7t := Lib.hid (F6t.out.belowW HB7.out)
  have F7ra := Lib.hid (F6ra.out.belowW HB7.out)
  have F7a := Lib.hid (F6a.out.belowW HB7.out)
  have F7b := Lib.hid (F6b.out.belowW HB7.out)
  have F7iv := Lib.hid (F6iv.out.belowW HB7.out)
  have F7s85 := Lib.hid (F6s85.out.belowW HB7.out)
  have HL7 := Lib.hid (HL6.out.trans (HB7.out.mono HL6.out.size))
  have FS2 := Lib.hid (Sl.one (x := 171) F7s171.out (by unfold BB; omega))
  refine (same_any false false B (some ⟨w6.heap.size, 0, none⟩) m d 1 1 _ [171] (-9) (-9) w7 F7b.out FS2.out).mono ?_
  rw [S2.out]
  rintro e w8 ⟨rfl, HB8⟩
  have F8t := Lib.hid (F7t.out.belowW HB8.out)
  have F8ra := Lib.hid (F7ra.out.belowW HB8.out)
  have F8a := Lib.hid (F7a.out.belowW HB8.out)
  have F8b := Lib.hid (F7b.out.belowW HB8.out)
  have F8iv := Lib.hid (F7iv.out.belowW HB8.out)
  have F8s85 := Lib.hid (F7s85.out.belowW HB8.out)
  have F8s171 := Lib.hid (FS2.out.belowW HB8.out)
  have HL8 := Lib.hid (HL7.out.trans (HB8.out.mono HL7.out.size))
  go_wp2_with fail
  go_ret
  exact ⟨rfl, HL8⟩
end Go.Proofs.YtnogfceojmnjiaaGreatDoor
