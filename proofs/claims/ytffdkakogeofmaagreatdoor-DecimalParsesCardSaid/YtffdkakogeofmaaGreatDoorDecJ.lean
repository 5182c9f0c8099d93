/-
  The walks of interval.Point, Inside; the law's helpers num, number, one, great.
-/
import Derived.Test.YtffdkakogeofmaaGreatDoorDecI
import Derived.Test.YtffdkakogeofmaaGreatDoorPkE
set_option linter.unusedVariables false
namespace Go.Proofs.YtffdkakogeofmaaGreatDoor
open Go.RowKit Go.Fl Go.Fl.Nm Go.Fl.Dy
/-- Whether two numbers are the same, by their parts. -/
def sameB (na nb : Bool) (a b : List Nat) (ea eb : Int) : Bool := decide (na = nb ∧ ea = eb ∧ a = b)

set_option maxHeartbeats 1000000 in
theorem number_any (na nb : Bool) (A B : Option Addr) (n c m d : Nat) (a b : List Nat) (ea eb : Int) (w : World) (ha : Sl w A n c a) (hb : Sl w B m d b) :
    Calls Tryz.prog 40 #[.agg #[.bool na, .slice A n c, .int .i64 ea], .agg #[.bool nb, .slice B m d, .int .i64 eb]] w (Ret (.bool (sameB na nb a b ea eb)) w) := by
  have HA := Lib.hid ha
  have HB := Lib.hid hb
  clear ha hb
  by_cases h1 : na = nb
  case neg =>
    have d1 : (na == nb) = false := by rw [beq_eq_false_iff_ne]; exact h1
    have HR := Lib.hid (show sameB na nb a b ea eb = false by unfold sameB; rw [decide_eq_false_iff_not]; exact fun h => h1 h.1)
    clear h1
    go_enter Tryz.func40, Tryz.ntmps40
    go_wp2_with fail
    obtain ⟨w1, hw⟩ : ∃ z9 : World, z9 = ((w.alloc (.cells #[.bool na, .slice A n c, .int .i64 ea] 25)).alloc (.cells #[.bool nb, .slice B m d, .int .i64 eb] 25)) := ⟨_, rfl⟩
    have HB1 := Lib.hid (show Below w.heap.size w w1 by rw [hw]; exact below_a2 _ _ _)
    have F1a := Lib.hid (HA.out.belowW HB1.out)
    have F1b := Lib.hid (HB.out.belowW HB1.out)
    have F1ka := Lib.hid (show Blk w1 (w.heap.size) 25 #[.bool na, .slice A n c, .int .i64 ea] by rw [hw]; exact (Blk.new _ _ _).alloc _)
    have F1kb := Lib.hid (show Blk w1 (w.heap.size + 1) 25 #[.bool nb, .slice B m d, .int .i64 eb] by rw [hw]; exact Blk.new1 _ _ _ _)
    rw [← hw]
    clear hw
    obtain ⟨pka0, fka0, pka1, fka1, pka2, fka2⟩ := F1ka.out.all3
    obtain ⟨pkb0, fkb0, pkb1, fkb1, pkb2, fkb2⟩ := F1kb.out.all3
    go_wp2_with fail
    go_ret
    exact ⟨ret_bool (by rw [HR.out]), HB1⟩
  have d1 : (na == nb) = true := by simp [h1]
  by_cases h2 : ea = eb
  case neg =>
    have d2 : (ea == eb) = false := by rw [beq_eq_false_iff_ne]; exact h2
    have HR := Lib.hid (show sameB na nb a b ea eb = false by unfold sameB; rw [decide_eq_false_iff_not]; exact fun h => h2 h.2.1)
    clear h1 h2
    go_enter Tryz.func40, Tryz.ntmps40
    go_wp2_with fail
    obtain ⟨w1, hw⟩ : ∃ z9 : World, z9 = ((w.alloc (.cells #[.bool na, .slice A n c, .int .i64 ea] 25)).alloc (.cells #[.bool nb, .slice B m d, .int .i64 eb] 25)) := ⟨_, rfl⟩
    have HB1 := Lib.hid (show Below w.heap.size w w1 by rw [hw]; exact below_a2 _ _ _)
    have F1a := Lib.hid (HA.out.belowW HB1.out)
    have F1b := Lib.hid (HB.out.belowW HB1.out)
    have F1ka := Lib.hid (show Blk w1 (w.heap.size) 25 #[.bool na, .slice A n c, .int .i64 ea] by rw [hw]; exact (Blk.new _ _ _).alloc _)
    have F1kb := Lib.hid (show Blk w1 (w.heap.size + 1) 25 #[.bool nb, .slice B m d, .int .i64 eb] by rw [hw]; exact Blk.new1 _ _ _ _)
    rw [← hw]
    clear hw
    obtain ⟨pka0, fka0, pka1, fka1, pka2, fka2⟩ := F1ka.out.all3
    obtain ⟨pkb0, fkb0, pkb1, fkb1, pkb2, fkb2⟩ := F1kb.out.all3
    go_wp2_with fail
    go_ret
    exact ⟨ret_bool (by rw [HR.out]), HB1⟩
  have d2 : (ea == eb) = true := by simp [h2]
  have HR := Lib.hid (show sameB na nb a b ea eb = decide (a = b) by unfold sameB; simp [h1, h2])
  clear h1 h2
  go_enter Tryz.func40, Tryz.ntmps40
  go_wp2_with fail
  obtain ⟨w1, hw⟩ : ∃ z9 : World, z9 = ((w.alloc (.cells #[.bool na, .slice A n c, .int .i64 ea] 25)).alloc (.cells #[.bool nb, .slice B m d, .int .i64 eb] 25)) := ⟨_, rfl⟩
  have HB1 := Lib.hid (show Below w.heap.size w w1 by rw [hw]; exact below_a2 _ _ _)
  have F1a := Lib.hid (HA.out.belowW HB1.out)
  have F1b := Lib.hid (HB.out.belowW HB1.out)
  have F1ka := Lib.hid (show Blk w1 (w.heap.size) 25 #[.bool na, .slice A n c, .int .i64 ea] by rw [hw]; exact (Blk.new _ _ _).alloc _)
  have F1kb := Lib.hid (show Blk w1 (w.heap.size + 1) 25 #[.bool nb, .slice B m d, .int .i64 eb] by rw [hw]; exact Blk.new1 _ _ _ _)
  rw [← hw]
  clear hw
  obtain ⟨pka0, fka0, pka1, fka1, pka2, fka2⟩ := F1ka.out.all3
  obtain ⟨pkb0, fkb0, pkb1, fkb1, pkb2, fkb2⟩ := F1kb.out.all3
  go_wp2_with fail
  refine (eq_any A B n c m d a b w1 F1a.out F1b.out).mono ?_
  rintro e w2 ⟨rfl, HQ⟩
  have HB2 := Lib.hid (show Below w1.heap.size w1 w2 by obtain ⟨q, hq⟩ := HQ.out; rw [hq]; exact below_drewN (Below.refl _ _) q)
  have F2a := Lib.hid (F1a.out.belowW HB2.out)
  have F2b := Lib.hid (F1b.out.belowW HB2.out)
  have F2ka := Lib.hid (F1ka.out.belowW HB2.out)
  have F2kb := Lib.hid (F1kb.out.belowW HB2.out)
  have HL2 := Lib.hid (HB1.out.trans (HB2.out.mono HB1.out.size))
  go_wp2_with fail
  go_ret
  exact ⟨ret_bool (by rw [HR.out]), HL2⟩
/-- Whether two intervals are the same, by their parts. -/
def oneB (sa sb x y : Bool) : Bool := (sa == sb) && (x && y)
set_option maxHeartbeats 2000000 in
theorem one_any (na nb na' nb' sa sb : Bool) (A B A' B' : Option Addr) (n c m d n' c' m' d' : Nat) (a b a' b' : List Nat) (ea eb ea' eb' : Int) (w : World) (ha : Sl w A n c a) (hb : Sl w B m d b) (ha' : Sl w A' n' c' a') (hb' : Sl w B' m' d' b') :
    Calls Tryz.prog 12 #[.agg #[.bool na, .slice A n c, .int .i64 ea, .bool na', .slice A' n' c', .int .i64 ea', .bool sa], .agg #[.bool nb, .slice B m d, .int .i64 eb, .bool nb', .slice B' m' d', .int .i64 eb', .bool sb]] w (Ret (.bool (oneB sa sb (sameB na nb a b ea eb) (sameB na' nb' a' b' ea' eb'))) w) := by
  have H1 := Lib.hid ha
  have H2 := Lib.hid hb
  have H3 := Lib.hid ha'
  have H4 := Lib.hid hb'
  obtain ⟨x, hx⟩ : ∃ x, sameB na nb a b ea eb = x := ⟨_, rfl⟩
  obtain ⟨y, hy⟩ : ∃ x, sameB na' nb' a' b' ea' eb' = x := ⟨_, rfl⟩
  rw [hx, hy]
  have HX := Lib.hid hx
  have HY := Lib.hid hy
  obtain ⟨s, hs⟩ : ∃ s, (sa == sb) = s := ⟨_, rfl⟩
  have HR := Lib.hid (show oneB sa sb x y = (s && (x && y)) by unfold oneB; rw [hs])
  clear ha hb ha' hb' hx hy
  cases s with
  | false =>
    go_enter Tryz.func12, Tryz.ntmps12
    go_wp2_with fail
    obtain ⟨w1, hw⟩ : ∃ z9 : World, z9 = ((w.alloc (.cells #[.bool na, .slice A n c, .int .i64 ea, .bool na', .slice A' n' c', .int .i64 ea', .bool sa] 27)).alloc (.cells #[.bool nb, .slice B m d, .int .i64 eb, .bool nb', .slice B' m' d', .int .i64 eb', .bool sb] 27)) := ⟨_, rfl⟩
    have HB1 := Lib.hid (show Below w.heap.size w w1 by rw [hw]; exact below_a2 _ _ _)
    have F1a := Lib.hid (H1.out.belowW HB1.out)
    have F1b := Lib.hid (H2.out.belowW HB1.out)
    have F1c := Lib.hid (H3.out.belowW HB1.out)
    have F1d := Lib.hid (H4.out.belowW HB1.out)
    have F1ka := Lib.hid (show Blk w1 (w.heap.size) 27 #[.bool na, .slice A n c, .int .i64 ea, .bool na', .slice A' n' c', .int .i64 ea', .bool sa] by rw [hw]; exact (Blk.new _ _ _).alloc _)
    have F1kb := Lib.hid (show Blk w1 (w.heap.size + 1) 27 #[.bool nb, .slice B m d, .int .i64 eb, .bool nb', .slice B' m' d', .int .i64 eb', .bool sb] by rw [hw]; exact Blk.new1 _ _ _ _)
    rw [← hw]
    clear hw
    go_ret
    exact ⟨ret_bool (by rw [HR.out]; rfl), HB1⟩
  | true =>
    go_enter Tryz.func12, Tryz.ntmps12
    go_wp2_with fail
    obtain ⟨w1, hw⟩ : ∃ z9 : World, z9 = ((w.alloc (.cells #[.bool na, .slice A n c, .int .i64 ea, .bool na', .slice A' n' c', .int .i64 ea', .bool sa] 27)).alloc (.cells #[.bool nb, .slice B m d, .int .i64 eb, .bool nb', .slice B' m' d', .int .i64 eb', .bool sb] 27)) := ⟨_, rfl⟩
    have HB1 := Lib.hid (show Below w.heap.size w w1 by rw [hw]; exact below_a2 _ _ _)
    have F1a := Lib.hid (H1.out.belowW HB1.out)
    have F1b := Lib.hid (H2.out.belowW HB1.out)
    have F1c := Lib.hid (H3.out.belowW HB1.out)
    have F1d := Lib.hid (H4.out.belowW HB1.out)
    have F1ka := Lib.hid (show Blk w1 (w.heap.size) 27 #[.bool na, .slice A n c, .int .i64 ea, .bool na', .slice A' n' c', .int .i64 ea', .bool sa] by rw [hw]; exact (Blk.new _ _ _).alloc _)
    have F1kb := Lib.hid (show Blk w1 (w.heap.size + 1) 27 #[.bool nb, .slice B m d, .int .i64 eb, .bool nb', .slice B' m' d', .int .i64 eb', .bool sb] by rw [hw]; exact Blk.new1 _ _ _ _)
    rw [← hw]
    clear hw
    refine (number_any na nb A B n c m d a b ea eb w1 F1a.out F1b.out).mono ?_
    rw [HX.out]
    rintro e w2 ⟨rfl, HB2⟩
    have F2a := Lib.hid (F1a.out.belowW HB2.out)
    have F2b := Lib.hid (F1b.out.belowW HB2.out)
    have F2c := Lib.hid (F1c.out.belowW HB2.out)
    have F2d := Lib.hid (F1d.out.belowW HB2.out)
    have F2ka := Lib.hid (F1ka.out.belowW HB2.out)
    have F2kb := Lib.hid (F1kb.out.belowW HB2.out)
    have HL2 := Lib.hid (HB1.out.trans (HB2.out.mono HB1.out.size))
    obtain ⟨pka0, fka0, pka1, fka1, pka2, fka2, pka3, fka3, pka4, fka4, pka5, fka5, pka6, fka6⟩ := F2ka.out.all7
    obtain ⟨pkb0, fkb0, pkb1, fkb1, pkb2, fkb2, pkb3, fkb3, pkb4, fkb4, pkb5, fkb5, pkb6, fkb6⟩ := F2kb.out.all7
    cases x with
    | false =>
      go_wp2_with fail
      go_ret
      exact ⟨ret_bool (by rw [HR.out]; rfl), HL2⟩
    | true =>
      go_wp2_with fail
      refine (number_any na' nb' A' B' n' c' m' d' a' b' ea' eb' w2 F2c.out F2d.out).mono ?_
      rw [HY.out]
      rintro e w3 ⟨rfl, HB3⟩
      have F3a := Lib.hid (F2a.out.belowW HB3.out)
      have F3b := Lib.hid (F2b.out.belowW HB3.out)
      have F3c := Lib.hid (F2c.out.belowW HB3.out)
      have F3d := Lib.hid (F2d.out.belowW HB3.out)
      have F3ka := Lib.hid (F2ka.out.belowW HB3.out)
      have F3kb := Lib.hid (F2kb.out.belowW HB3.out)
      have HL3 := Lib.hid (HL2.out.trans (HB3.out.mono HL2.out.size))
      go_wp2_with fail
      go_ret
      exact ⟨ret_bool (by rw [HR.out]; rfl), HL3⟩

set_option maxHeartbeats 1000000 in
theorem num_any (ng : Bool) (m : Nat) (ex : Int) (w : World) (h0 : 0 < m) (h1 : m < BB) :
    Calls Tryz.prog 28 #[.bool ng, .int .u32 m, .int .i64 ex] w (DyR ⟨ng, m, ex⟩ w) := by
  have HL1 := Lib.hid (show limbs m = [m] by rw [limbs_pos (by omega), Nat.mod_eq_of_lt h1, Nat.div_eq_of_lt h1, limbs_zero])
  have HM := Lib.hid h1
  clear h0 h1
  go_enter Tryz.func28, Tryz.ntmps28
  go_wp2_with fail
  obtain ⟨w1, hw⟩ : ∃ z9 : World, z9 = ((w.alloc (.cells #[.bool ng, .slice (some ⟨w.heap.size + 1, 0, none⟩) 1 1, .int .i64 ex] 25)).alloc (.cells #[.int .u32 m] 49)) := ⟨_, rfl⟩
  have HB1 := Lib.hid (show Below w.heap.size w w1 by rw [hw]; exact below_a2 _ _ _)
  have F1r := Lib.hid (show Blk w1 (w.heap.size) 25 #[.bool ng, .slice (some ⟨w.heap.size + 1, 0, none⟩) 1 1, .int .i64 ex] by rw [hw]; exact (Blk.new _ _ _).alloc _)
  have F1u := Lib.hid (show Blk w1 (w.heap.size + 1) 49 #[.int .u32 m] by rw [hw]; exact Blk.new1 _ _ _ _)
  rw [← hw]
  clear hw
  obtain ⟨pr0, fr0, pr1, fr1, pr2, fr2⟩ := F1r.out.all3
  refine bodyPost_ret (v := .agg #[.bool ng, .slice (some ⟨w.heap.size + 1, 0, none⟩) 1 1, .int .i64 ex]) (by simp [results, Tryz.results28, go_sem, pr0, pr1, pr2]) rfl ?_
  exact ⟨some ⟨w.heap.size + 1, 0, none⟩, 1, 1, rfl, Lib.hid (by rw [show (⟨ng, m, ex⟩ : D).k = m from rfl, HL1.out]; exact Sl.one F1u.out HM.out), HB1⟩
end Go.Proofs.YtffdkakogeofmaaGreatDoor
