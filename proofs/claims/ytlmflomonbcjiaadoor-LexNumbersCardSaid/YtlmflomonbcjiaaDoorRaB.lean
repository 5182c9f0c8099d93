/-
  The walks of ratio.Make; the reference's lowest, checked, Make.
-/
import Derived.Test.YtlmflomonbcjiaaDoorRaA
set_option linter.unusedVariables false
namespace Go.Proofs.YtlmflomonbcjiaaDoor
open Go.RowKit Go.Fl Go.Fl.Nm Go.Fl.Dy Go.Fl.Rt

set_option maxHeartbeats 2000000 in
theorem make_q (n d : Int) (w : World) (h1 : -9223372036854775808 ≤ n) (h2 : n ≤ 9223372036854775807) (h3 : -9223372036854775808 ≤ d) (h4 : d ≤ 9223372036854775807) :
    Calls Tryd.prog 24 #[.int .i64 n, .int .i64 d] w (RtE (make n d) w) := by
  by_cases hd : d = 0
  · have HR := Lib.hid (show make n d = (0, 0, 10) by unfold make; rw [if_pos hd])
    subst hd
    go_enter Tryd.func24, Tryd.ntmps24
    go_wp2_with fail
    refine bodyPost_ret (v := .tuple #[.agg #[.int .i64 0, .int .i64 0], .int .i64 10]) (by simp [results, Tryd.results24, go_sem]) rfl ?_
    rw [HR.out]
    exact ⟨rfl, Lib.hid (below_a1 _ _)⟩
  have dd : (d == 0) = false := by rw [beq_eq_false_iff_ne]; exact hd
  obtain ⟨g, hg⟩ : ∃ g, g = Nat.gcd n.natAbs d.natAbs := ⟨_, rfl⟩
  have hg0 : 0 < g := by rw [hg]; exact gcd_pos_of hd
  obtain ⟨X, hX⟩ : ∃ X, X = n.natAbs / g := ⟨_, rfl⟩
  obtain ⟨Y, hY⟩ : ∃ Y, Y = d.natAbs / g := ⟨_, rfl⟩
  have HG := Lib.hid hg.symm
  have HM := Lib.hid (show make n d = if MX < X ∨ MX < Y then (0, 0, 9) else (if decide (n < 0) != decide (d < 0) then -(X : Int) else (X : Int), (Y : Int), 0) by
    unfold make; rw [if_neg hd, hX, hY, hg])
  have hXb : X ≤ n.natAbs := by rw [hX]; exact Nat.div_le_self _ _
  have hYb : Y ≤ d.natAbs := by rw [hY]; exact Nat.div_le_self _ _
  have dg : ((g : Int) == 0) = false := by rw [beq_eq_false_iff_ne]; omega
  have ex : (n.natAbs : Int) / (g : Int) = (X : Int) := by rw [hX]; rfl
  have ey : (d.natAbs : Int) / (g : Int) = (Y : Int) := by rw [hY]; rfl
  clear hg hX hY hd
  by_cases c1 : 1073741824 < X
  · have e1 : decide ((1073741824 : Int) < X) = true := decide_eq_true (by omega)
    have HR := Lib.hid (show make n d = (0, 0, 9) by rw [HM.out, if_pos (.inl (by unfold MX; exact c1))])
    clear c1
    go_enter Tryd.func24, Tryd.ntmps24
    go_wp2_with fail
    obtain ⟨w1, hw⟩ : ∃ z9 : World, z9 = (w.alloc (.cells #[.int .i64 0, .int .i64 0] 36)) := ⟨_, rfl⟩
    have HB1 := Lib.hid (show Below w.heap.size w w1 by rw [hw]; exact below_a1 _ _)
    have F1r := Lib.hid (show Blk w1 (w.heap.size) 36 #[.int .i64 0, .int .i64 0] by rw [hw]; exact Blk.new _ _ _)
    rw [← hw]
    clear hw
    refine (size_q n w1 h1 h2).mono ?_
    rintro e w' ⟨rfl, rfl⟩
    go_wp2_with fail
    refine (size_q d w1 h3 h4).mono ?_
    rintro e w' ⟨rfl, rfl⟩
    go_wp2_with fail
    refine (gcd_q n.natAbs d.natAbs w1 (by omega) (by omega)).mono ?_
    rw [HG.out]
    rintro e w2 ⟨rfl, qd, hqd⟩
    have HB2 := Lib.hid (show Below w1.heap.size w1 w2 by rw [hqd]; exact below_drewN (Below.refl _ _) qd)
    clear hqd
    have F2r := Lib.hid (F1r.out.belowW HB2.out)
    have HL2 := Lib.hid (HB1.out.trans (HB2.out.mono HB1.out.size))
    go_wp2_with fail
    go_quiet (fail)
    rename_i nq
    obtain ⟨w3, hw⟩ : ∃ z9 : World, z9 = w2.drewN nq := ⟨_, rfl⟩
    have HB3 := Lib.hid (show Below w2.heap.size w2 w3 by rw [hw]; exact below_drewN (Below.refl _ _) _)
    rw [← hw]
    clear hw
    have F3r := Lib.hid (F2r.out.belowW HB3.out)
    have HL3 := Lib.hid (HL2.out.trans (HB3.out.mono HL2.out.size))
    have pr0 : (w3).cell? ⟨w.heap.size, 0, none⟩ = some (.int .i64 0) := F3r.out.cell 0
    have fr0 : (w3).frozen? ⟨w.heap.size, 0, none⟩ = false := F3r.out.frozen 0
    have pr1 : (w3).cell? ⟨w.heap.size, 1, none⟩ = some (.int .i64 0) := F3r.out.cell 1
    have fr1 : (w3).frozen? ⟨w.heap.size, 1, none⟩ = false := F3r.out.frozen 1
    go_wp2_with fail
    refine bodyPost_ret (v := .tuple #[.agg #[.int .i64 0, .int .i64 0], .int .i64 9]) (by simp [results, Tryd.results24, go_sem, pr0, pr1]) rfl ?_
    rw [HR.out]
    exact ⟨rfl, Lib.hid (store2_below HL3.out F3r.out _ _ (Nat.le_refl _))⟩
  have e1 : decide ((1073741824 : Int) < X) = false := decide_eq_false (by omega)
  by_cases c2 : 1073741824 < Y
  · have e2 : decide ((1073741824 : Int) < Y) = true := decide_eq_true (by omega)
    have HR := Lib.hid (show make n d = (0, 0, 9) by rw [HM.out, if_pos (.inr (by unfold MX; exact c2))])
    clear c2
    go_enter Tryd.func24, Tryd.ntmps24
    go_wp2_with fail
    obtain ⟨w1, hw⟩ : ∃ z9 : World, z9 = (w.alloc (.cells #[.int .i64 0, .int .i64 0] 36)) := ⟨_, rfl⟩
    have HB1 := Lib.hid (show Below w.heap.size w w1 by rw [hw]; exact below_a1 _ _)
    have F1r := Lib.hid (show Blk w1 (w.heap.size) 36 #[.int .i64 0, .int .i64 0] by rw [hw]; exact Blk.new _ _ _)
    rw [← hw]
    clear hw
    refine (size_q n w1 h1 h2).mono ?_
    rintro e w' ⟨rfl, rfl⟩
    go_wp2_with fail
    refine (size_q d w1 h3 h4).mono ?_
    rintro e w' ⟨rfl, rfl⟩
    go_wp2_with fail
    refine (gcd_q n.natAbs d.natAbs w1 (by omega) (by omega)).mono ?_
    rw [HG.out]
    rintro e w2 ⟨rfl, qd, hqd⟩
    have HB2 := Lib.hid (show Below w1.heap.size w1 w2 by rw [hqd]; exact below_drewN (Below.refl _ _) qd)
    clear hqd
    have F2r := Lib.hid (F1r.out.belowW HB2.out)
    have HL2 := Lib.hid (HB1.out.trans (HB2.out.mono HB1.out.size))
    go_wp2_with fail
    go_quiet (fail)
    rename_i nq
    obtain ⟨w3, hw⟩ : ∃ z9 : World, z9 = w2.drewN nq := ⟨_, rfl⟩
    have HB3 := Lib.hid (show Below w2.heap.size w2 w3 by rw [hw]; exact below_drewN (Below.refl _ _) _)
    rw [← hw]
    clear hw
    have F3r := Lib.hid (F2r.out.belowW HB3.out)
    have HL3 := Lib.hid (HL2.out.trans (HB3.out.mono HL2.out.size))
    have pr0 : (w3).cell? ⟨w.heap.size, 0, none⟩ = some (.int .i64 0) := F3r.out.cell 0
    have fr0 : (w3).frozen? ⟨w.heap.size, 0, none⟩ = false := F3r.out.frozen 0
    have pr1 : (w3).cell? ⟨w.heap.size, 1, none⟩ = some (.int .i64 0) := F3r.out.cell 1
    have fr1 : (w3).frozen? ⟨w.heap.size, 1, none⟩ = false := F3r.out.frozen 1
    go_wp2_with fail
    refine bodyPost_ret (v := .tuple #[.agg #[.int .i64 0, .int .i64 0], .int .i64 9]) (by simp [results, Tryd.results24, go_sem, pr0, pr1]) rfl ?_
    rw [HR.out]
    exact ⟨rfl, Lib.hid (store2_below HL3.out F3r.out _ _ (Nat.le_refl _))⟩
  have e2 : decide ((1073741824 : Int) < Y) = false := decide_eq_false (by omega)
  have HS := Lib.hid (show make n d = (if decide (n < 0) != decide (d < 0) then -(X : Int) else (X : Int), (Y : Int), 0) by rw [HM.out, if_neg (by unfold MX; omega)])
  by_cases n0 : n < 0
  case pos =>
    by_cases d0 : d < 0
    · have dn : decide (n < 0) = true := decide_eq_true n0
      have dm : decide (d < 0) = true := decide_eq_true d0
      have HR := Lib.hid (show make n d = ((X : Int), (Y : Int), 0) by rw [HS.out, dn, dm]; rfl)
      clear n0 d0
      go_enter Tryd.func24, Tryd.ntmps24
      go_wp2_with fail
      obtain ⟨w1, hw⟩ : ∃ z9 : World, z9 = (w.alloc (.cells #[.int .i64 0, .int .i64 0] 36)) := ⟨_, rfl⟩
      have HB1 := Lib.hid (show Below w.heap.size w w1 by rw [hw]; exact below_a1 _ _)
      have F1r := Lib.hid (show Blk w1 (w.heap.size) 36 #[.int .i64 0, .int .i64 0] by rw [hw]; exact Blk.new _ _ _)
      rw [← hw]
      clear hw
      refine (size_q n w1 h1 h2).mono ?_
      rintro e w' ⟨rfl, rfl⟩
      go_wp2_with fail
      refine (size_q d w1 h3 h4).mono ?_
      rintro e w' ⟨rfl, rfl⟩
      go_wp2_with fail
      refine (gcd_q n.natAbs d.natAbs w1 (by omega) (by omega)).mono ?_
      rw [HG.out]
      rintro e w2 ⟨rfl, qd, hqd⟩
      have HB2 := Lib.hid (show Below w1.heap.size w1 w2 by rw [hqd]; exact below_drewN (Below.refl _ _) qd)
      clear hqd
      have F2r := Lib.hid (F1r.out.belowW HB2.out)
      have HL2 := Lib.hid (HB1.out.trans (HB2.out.mono HB1.out.size))
      go_wp2_with fail
      go_quiet (fail)
      rename_i nq
      obtain ⟨w3, hw⟩ : ∃ z9 : World, z9 = w2.drewN nq := ⟨_, rfl⟩
      have HB3 := Lib.hid (show Below w2.heap.size w2 w3 by rw [hw]; exact below_drewN (Below.refl _ _) _)
      rw [← hw]
      clear hw
      have F3r := Lib.hid (F2r.out.belowW HB3.out)
      have HL3 := Lib.hid (HL2.out.trans (HB3.out.mono HL2.out.size))
      go_upto_region 9 with (fail)
      obtain ⟨w4, hw⟩ : ∃ z9 : World, z9 = w3.alloc (.cells #[.int .i64 (X : Int), .int .i64 (Y : Int)] 36) := ⟨_, rfl⟩
      have HB4 := Lib.hid (show Below w3.heap.size w3 w4 by rw [hw]; exact below_a1 _ _)
      have F4k := Lib.hid (show Blk w4 w3.heap.size 36 #[.int .i64 (X : Int), .int .i64 (Y : Int)] by rw [hw]; exact Blk.new _ _ _)
      rw [← hw]
      clear hw
      have F4r := Lib.hid (F3r.out.belowW HB4.out)
      have HL4 := Lib.hid (HL3.out.trans (HB4.out.mono HL3.out.size))
      have pk0 : (w4).cell? ⟨w3.heap.size, 0, none⟩ = some (.int .i64 (X : Int)) := F4k.out.cell 0
      have fk0 : (w4).frozen? ⟨w3.heap.size, 0, none⟩ = false := F4k.out.frozen 0
      have pk1 : (w4).cell? ⟨w3.heap.size, 1, none⟩ = some (.int .i64 (Y : Int)) := F4k.out.cell 1
      have fk1 : (w4).frozen? ⟨w3.heap.size, 1, none⟩ = false := F4k.out.frozen 1
      have pr0 : (w4).cell? ⟨w.heap.size, 0, none⟩ = some (.int .i64 0) := F4r.out.cell 0
      have fr0 : (w4).frozen? ⟨w.heap.size, 0, none⟩ = false := F4r.out.frozen 0
      have pr1 : (w4).cell? ⟨w.heap.size, 1, none⟩ = some (.int .i64 0) := F4r.out.cell 1
      have fr1 : (w4).frozen? ⟨w.heap.size, 1, none⟩ = false := F4r.out.frozen 1
      go_wp2_with fail
      refine bodyPost_ret (v := .tuple #[.agg #[.int .i64 (X : Int), .int .i64 (Y : Int)], .int .i64 0]) (by simp [results, Tryd.results24, go_sem, pr0, pr1]) rfl ?_
      rw [HR.out]
      exact ⟨rfl, Lib.hid (store2_below HL4.out F4r.out _ _ (Nat.le_refl _))⟩
    · have dn : decide (n < 0) = true := decide_eq_true n0
      have dm : decide (d < 0) = false := decide_eq_false d0
      have HR := Lib.hid (show make n d = ((-(X : Int)), (Y : Int), 0) by rw [HS.out, dn, dm]; rfl)
      clear n0 d0
      go_enter Tryd.func24, Tryd.ntmps24
      go_wp2_with fail
      obtain ⟨w1, hw⟩ : ∃ z9 : World, z9 = (w.alloc (.cells #[.int .i64 0, .int .i64 0] 36)) := ⟨_, rfl⟩
      have HB1 := Lib.hid (show Below w.heap.size w w1 by rw [hw]; exact below_a1 _ _)
      have F1r := Lib.hid (show Blk w1 (w.heap.size) 36 #[.int .i64 0, .int .i64 0] by rw [hw]; exact Blk.new _ _ _)
      rw [← hw]
      clear hw
      refine (size_q n w1 h1 h2).mono ?_
      rintro e w' ⟨rfl, rfl⟩
      go_wp2_with fail
      refine (size_q d w1 h3 h4).mono ?_
      rintro e w' ⟨rfl, rfl⟩
      go_wp2_with fail
      refine (gcd_q n.natAbs d.natAbs w1 (by omega) (by omega)).mono ?_
      rw [HG.out]
      rintro e w2 ⟨rfl, qd, hqd⟩
      have HB2 := Lib.hid (show Below w1.heap.size w1 w2 by rw [hqd]; exact below_drewN (Below.refl _ _) qd)
      clear hqd
      have F2r := Lib.hid (F1r.out.belowW HB2.out)
      have HL2 := Lib.hid (HB1.out.trans (HB2.out.mono HB1.out.size))
      go_wp2_with fail
      go_quiet (fail)
      rename_i nq
      obtain ⟨w3, hw⟩ : ∃ z9 : World, z9 = w2.drewN nq := ⟨_, rfl⟩
      have HB3 := Lib.hid (show Below w2.heap.size w2 w3 by rw [hw]; exact below_drewN (Below.refl _ _) _)
      rw [← hw]
      clear hw
      have F3r := Lib.hid (F2r.out.belowW HB3.out)
      have HL3 := Lib.hid (HL2.out.trans (HB3.out.mono HL2.out.size))
      go_upto_region 9 with (fail)
      obtain ⟨w4, hw⟩ : ∃ z9 : World, z9 = w3.alloc (.cells #[.int .i64 (X : Int), .int .i64 (Y : Int)] 36) := ⟨_, rfl⟩
      have HB4 := Lib.hid (show Below w3.heap.size w3 w4 by rw [hw]; exact below_a1 _ _)
      have F4k := Lib.hid (show Blk w4 w3.heap.size 36 #[.int .i64 (X : Int), .int .i64 (Y : Int)] by rw [hw]; exact Blk.new _ _ _)
      rw [← hw]
      clear hw
      have F4r := Lib.hid (F3r.out.belowW HB4.out)
      have HL4 := Lib.hid (HL3.out.trans (HB4.out.mono HL3.out.size))
      have pk0 : (w4).cell? ⟨w3.heap.size, 0, none⟩ = some (.int .i64 (X : Int)) := F4k.out.cell 0
      have fk0 : (w4).frozen? ⟨w3.heap.size, 0, none⟩ = false := F4k.out.frozen 0
      have pk1 : (w4).cell? ⟨w3.heap.size, 1, none⟩ = some (.int .i64 (Y : Int)) := F4k.out.cell 1
      have fk1 : (w4).frozen? ⟨w3.heap.size, 1, none⟩ = false := F4k.out.frozen 1
      have pr0 : (w4).cell? ⟨w.heap.size, 0, none⟩ = some (.int .i64 0) := F4r.out.cell 0
      have fr0 : (w4).frozen? ⟨w.heap.size, 0, none⟩ = false := F4r.out.frozen 0
      have pr1 : (w4).cell? ⟨w.heap.size, 1, none⟩ = some (.int .i64 0) := F4r.out.cell 1
      have fr1 : (w4).frozen? ⟨w.heap.size, 1, none⟩ = false := F4r.out.frozen 1
      have hne : w3.heap.size ≠ w.heap.size := fun e => by have := F4r.out.lt; have h9 := HB1.out.size; have := F3r.out.lt; omega
      go_upto_region 11 with (fail)
      rw [F4k.out.setCell_eq 0]
      obtain ⟨w9, hw⟩ : ∃ z9 : World, z9 = putB w4 w3.heap.size 36 ((#[.int .i64 (X : Int), .int .i64 (Y : Int)] : Array Value).setIfInBounds 0 (Value.int .i64 (-(X : Int)))) := ⟨_, rfl⟩
      have FK9 := Lib.hid (show Blk w9 w3.heap.size 36 #[.int .i64 (-(X : Int)), .int .i64 (Y : Int)] by rw [hw]; exact F4k.out.put _)
      have FR9 := Lib.hid (show Blk w9 w.heap.size 36 #[.int .i64 0, .int .i64 0] by rw [hw]; exact F4r.out.far (Ne.symm hne) _)
      have HL9 := Lib.hid (show Below w.heap.size w w9 by rw [hw]; exact HL4.out.trans (putB_below _ _ _ _ (by have := HL3.out.size; have := HB1.out.size; omega)))
      rw [← hw]
      clear hw pk0 pk1 fk0 fk1 pr0 pr1 fr0 fr1
      have pk0 : (w9).cell? ⟨w3.heap.size, 0, none⟩ = some (.int .i64 (-(X : Int))) := FK9.out.cell 0
      have fk0 : (w9).frozen? ⟨w3.heap.size, 0, none⟩ = false := FK9.out.frozen 0
      have pk1 : (w9).cell? ⟨w3.heap.size, 1, none⟩ = some (.int .i64 (Y : Int)) := FK9.out.cell 1
      have fk1 : (w9).frozen? ⟨w3.heap.size, 1, none⟩ = false := FK9.out.frozen 1
      have pr0 : (w9).cell? ⟨w.heap.size, 0, none⟩ = some (.int .i64 0) := FR9.out.cell 0
      have fr0 : (w9).frozen? ⟨w.heap.size, 0, none⟩ = false := FR9.out.frozen 0
      have pr1 : (w9).cell? ⟨w.heap.size, 1, none⟩ = some (.int .i64 0) := FR9.out.cell 1
      have fr1 : (w9).frozen? ⟨w.heap.size, 1, none⟩ = false := FR9.out.frozen 1
      go_wp2_with fail
      refine bodyPost_ret (v := .tuple #[.agg #[.int .i64 (-(X : Int)), .int .i64 (Y : Int)], .int .i64 0]) (by simp [results, Tryd.results24, go_sem, pr0, pr1]) rfl ?_
      rw [HR.out]
      exact ⟨rfl, Lib.hid (store2_below HL9.out FR9.out _ _ (Nat.le_refl _))⟩
  case neg =>
    by_cases d0 : d < 0
    · have dn : decide (n < 0) = false := decide_eq_false n0
      have dm : decide (d < 0) = true := decide_eq_true d0
      have HR := Lib.hid (show make n d = ((-(X : Int)), (Y : Int), 0) by rw [HS.out, dn, dm]; rfl)
      clear n0 d0
      go_enter Tryd.func24, Tryd.ntmps24
      go_wp2_with fail
      obtain ⟨w1, hw⟩ : ∃ z9 : World, z9 = (w.alloc (.cells #[.int .i64 0, .int .i64 0] 36)) := ⟨_, rfl⟩
      have HB1 := Lib.hid (show Below w.heap.size w w1 by rw [hw]; exact below_a1 _ _)
      have F1r := Lib.hid (show Blk w1 (w.heap.size) 36 #[.int .i64 0, .int .i64 0] by rw [hw]; exact Blk.new _ _ _)
      rw [← hw]
      clear hw
      refine (size_q n w1 h1 h2).mono ?_
      rintro e w' ⟨rfl, rfl⟩
      go_wp2_with fail
      refine (size_q d w1 h3 h4).mono ?_
      rintro e w' ⟨rfl, rfl⟩
      go_wp2_with fail
      refine (gcd_q n.natAbs d.natAbs w1 (by omega) (by omega)).mono ?_
      rw [HG.out]
      rintro e w2 ⟨rfl, qd, hqd⟩
      have HB2 := Lib.hid (show Below w1.heap.size w1 w2 by rw [hqd]; exact below_drewN (Below.refl _ _) qd)
      clear hqd
      have F2r := Lib.hid (F1r.out.belowW HB2.out)
      have HL2 := Lib.hid (HB1.out.trans (HB2.out.mono HB1.out.size))
      go_wp2_with fail
      go_quiet (fail)
      rename_i nq
      obtain ⟨w3, hw⟩ : ∃ z9 : World, z9 = w2.drewN nq := ⟨_, rfl⟩
      have HB3 := Lib.hid (show Below w2.heap.size w2 w3 by rw [hw]; exact below_drewN (Below.refl _ _) _)
      rw [← hw]
      clear hw
      have F3r := Lib.hid (F2r.out.belowW HB3.out)
      have HL3 := Lib.hid (HL2.out.trans (HB3.out.mono HL2.out.size))
      go_upto_region 9 with (fail)
      obtain ⟨w4, hw⟩ : ∃ z9 : World, z9 = w3.alloc (.cells #[.int .i64 (X : Int), .int .i64 (Y : Int)] 36) := ⟨_, rfl⟩
      have HB4 := Lib.hid (show Below w3.heap.size w3 w4 by rw [hw]; exact below_a1 _ _)
      have F4k := Lib.hid (show Blk w4 w3.heap.size 36 #[.int .i64 (X : Int), .int .i64 (Y : Int)] by rw [hw]; exact Blk.new _ _ _)
      rw [← hw]
      clear hw
      have F4r := Lib.hid (F3r.out.belowW HB4.out)
      have HL4 := Lib.hid (HL3.out.trans (HB4.out.mono HL3.out.size))
      have pk0 : (w4).cell? ⟨w3.heap.size, 0, none⟩ = some (.int .i64 (X : Int)) := F4k.out.cell 0
      have fk0 : (w4).frozen? ⟨w3.heap.size, 0, none⟩ = false := F4k.out.frozen 0
      have pk1 : (w4).cell? ⟨w3.heap.size, 1, none⟩ = some (.int .i64 (Y : Int)) := F4k.out.cell 1
      have fk1 : (w4).frozen? ⟨w3.heap.size, 1, none⟩ = false := F4k.out.frozen 1
      have pr0 : (w4).cell? ⟨w.heap.size, 0, none⟩ = some (.int .i64 0) := F4r.out.cell 0
      have fr0 : (w4).frozen? ⟨w.heap.size, 0, none⟩ = false := F4r.out.frozen 0
      have pr1 : (w4).cell? ⟨w.heap.size, 1, none⟩ = some (.int .i64 0) := F4r.out.cell 1
      have fr1 : (w4).frozen? ⟨w.heap.size, 1, none⟩ = false := F4r.out.frozen 1
      have hne : w3.heap.size ≠ w.heap.size := fun e => by have := F4r.out.lt; have h9 := HB1.out.size; have := F3r.out.lt; omega
      go_upto_region 11 with (fail)
      rw [F4k.out.setCell_eq 0]
      obtain ⟨w9, hw⟩ : ∃ z9 : World, z9 = putB w4 w3.heap.size 36 ((#[.int .i64 (X : Int), .int .i64 (Y : Int)] : Array Value).setIfInBounds 0 (Value.int .i64 (-(X : Int)))) := ⟨_, rfl⟩
      have FK9 := Lib.hid (show Blk w9 w3.heap.size 36 #[.int .i64 (-(X : Int)), .int .i64 (Y : Int)] by rw [hw]; exact F4k.out.put _)
      have FR9 := Lib.hid (show Blk w9 w.heap.size 36 #[.int .i64 0, .int .i64 0] by rw [hw]; exact F4r.out.far (Ne.symm hne) _)
      have HL9 := Lib.hid (show Below w.heap.size w w9 by rw [hw]; exact HL4.out.trans (putB_below _ _ _ _ (by have := HL3.out.size; have := HB1.out.size; omega)))
      rw [← hw]
      clear hw pk0 pk1 fk0 fk1 pr0 pr1 fr0 fr1
      have pk0 : (w9).cell? ⟨w3.heap.size, 0, none⟩ = some (.int .i64 (-(X : Int))) := FK9.out.cell 0
      have fk0 : (w9).frozen? ⟨w3.heap.size, 0, none⟩ = false := FK9.out.frozen 0
      have pk1 : (w9).cell? ⟨w3.heap.size, 1, none⟩ = some (.int .i64 (Y : Int)) := FK9.out.cell 1
      have fk1 : (w9).frozen? ⟨w3.heap.size, 1, none⟩ = false := FK9.out.frozen 1
      have pr0 : (w9).cell? ⟨w.heap.size, 0, none⟩ = some (.int .i64 0) := FR9.out.cell 0
      have fr0 : (w9).frozen? ⟨w.heap.size, 0, none⟩ = false := FR9.out.frozen 0
      have pr1 : (w9).cell? ⟨w.heap.size, 1, none⟩ = some (.int .i64 0) := FR9.out.cell 1
      have fr1 : (w9).frozen? ⟨w.heap.size, 1, none⟩ = false := FR9.out.frozen 1
      go_wp2_with fail
      refine bodyPost_ret (v := .tuple #[.agg #[.int .i64 (-(X : Int)), .int .i64 (Y : Int)], .int .i64 0]) (by simp [results, Tryd.results24, go_sem, pr0, pr1]) rfl ?_
      rw [HR.out]
      exact ⟨rfl, Lib.hid (store2_below HL9.out FR9.out _ _ (Nat.le_refl _))⟩
    · have dn : decide (n < 0) = false := decide_eq_false n0
      have dm : decide (d < 0) = false := decide_eq_false d0
      have HR := Lib.hid (show make n d = ((X : Int), (Y : Int), 0) by rw [HS.out, dn, dm]; rfl)
      clear n0 d0
      go_enter Tryd.func24, Tryd.ntmps24
      go_wp2_with fail
      obtain ⟨w1, hw⟩ : ∃ z9 : World, z9 = (w.alloc (.cells #[.int .i64 0, .int .i64 0] 36)) := ⟨_, rfl⟩
      have HB1 := Lib.hid (show Below w.heap.size w w1 by rw [hw]; exact below_a1 _ _)
      have F1r := Lib.hid (show Blk w1 (w.heap.size) 36 #[.int .i64 0, .int .i64 0] by rw [hw]; exact Blk.new _ _ _)
      rw [← hw]
      clear hw
      refine (size_q n w1 h1 h2).mono ?_
      rintro e w' ⟨rfl, rfl⟩
      go_wp2_with fail
      refine (size_q d w1 h3 h4).mono ?_
      rintro e w' ⟨rfl, rfl⟩
      go_wp2_with fail
      refine (gcd_q n.natAbs d.natAbs w1 (by omega) (by omega)).mono ?_
      rw [HG.out]
      rintro e w2 ⟨rfl, qd, hqd⟩
      have HB2 := Lib.hid (show Below w1.heap.size w1 w2 by rw [hqd]; exact below_drewN (Below.refl _ _) qd)
      clear hqd
      have F2r := Lib.hid (F1r.out.belowW HB2.out)
      have HL2 := Lib.hid (HB1.out.trans (HB2.out.mono HB1.out.size))
      go_wp2_with fail
      go_quiet (fail)
      rename_i nq
      obtain ⟨w3, hw⟩ : ∃ z9 : World, z9 = w2.drewN nq := ⟨_, rfl⟩
      have HB3 := Lib.hid (show Below w2.heap.size w2 w3 by rw [hw]; exact below_drewN (Below.refl _ _) _)
      rw [← hw]
      clear hw
      have F3r := Lib.hid (F2r.out.belowW HB3.out)
      have HL3 := Lib.hid (HL2.out.trans (HB3.out.mono HL2.out.size))
      go_upto_region 9 with (fail)
      obtain ⟨w4, hw⟩ : ∃ z9 : World, z9 = w3.alloc (.cells #[.int .i64 (X : Int), .int .i64 (Y : Int)] 36) := ⟨_, rfl⟩
      have HB4 := Lib.hid (show Below w3.heap.size w3 w4 by rw [hw]; exact below_a1 _ _)
      have F4k := Lib.hid (show Blk w4 w3.heap.size 36 #[.int .i64 (X : Int), .int .i64 (Y : Int)] by rw [hw]; exact Blk.new _ _ _)
      rw [← hw]
      clear hw
      have F4r := Lib.hid (F3r.out.belowW HB4.out)
      have HL4 := Lib.hid (HL3.out.trans (HB4.out.mono HL3.out.size))
      have pk0 : (w4).cell? ⟨w3.heap.size, 0, none⟩ = some (.int .i64 (X : Int)) := F4k.out.cell 0
      have fk0 : (w4).frozen? ⟨w3.heap.size, 0, none⟩ = false := F4k.out.frozen 0
      have pk1 : (w4).cell? ⟨w3.heap.size, 1, none⟩ = some (.int .i64 (Y : Int)) := F4k.out.cell 1
      have fk1 : (w4).frozen? ⟨w3.heap.size, 1, none⟩ = false := F4k.out.frozen 1
      have pr0 : (w4).cell? ⟨w.heap.size, 0, none⟩ = some (.int .i64 0) := F4r.out.cell 0
      have fr0 : (w4).frozen? ⟨w.heap.size, 0, none⟩ = false := F4r.out.frozen 0
      have pr1 : (w4).cell? ⟨w.heap.size, 1, none⟩ = some (.int .i64 0) := F4r.out.cell 1
      have fr1 : (w4).frozen? ⟨w.heap.size, 1, none⟩ = false := F4r.out.frozen 1
      go_wp2_with fail
      refine bodyPost_ret (v := .tuple #[.agg #[.int .i64 (X : Int), .int .i64 (Y : Int)], .int .i64 0]) (by simp [results, Tryd.results24, go_sem, pr0, pr1]) rfl ?_
      rw [HR.out]
      exact ⟨rfl, Lib.hid (store2_below HL4.out F4r.out _ _ (Nat.le_refl _))⟩
end Go.Proofs.YtlmflomonbcjiaaDoor
