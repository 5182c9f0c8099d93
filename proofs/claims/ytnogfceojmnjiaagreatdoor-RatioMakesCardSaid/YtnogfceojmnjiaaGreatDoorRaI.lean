/-
  The walks of the reference's lowest, checked, Make, Add, Sub, Mul, Div.
-/
import Derived.Test.YtnogfceojmnjiaaGreatDoorRaB
set_option linter.unusedVariables false
namespace Go.Fl.Rt
/-- What the reference's checked returns. -/
def chkR (neg : Bool) (n d : Nat) : Int × Int × Int :=
  if MX < n / Nat.gcd n d ∨ MX < d / Nat.gcd n d then (0, 0, 9)
  else (if neg then -((n / Nat.gcd n d : Nat) : Int) else ((n / Nat.gcd n d : Nat) : Int), ((d / Nat.gcd n d : Nat) : Int), 0)
theorem make_chk {n d : Int} (h : d ≠ 0) : make n d = chkR (decide (n < 0) != decide (d < 0)) n.natAbs d.natAbs := by
  unfold make chkR
  rw [if_neg h]
end Go.Fl.Rt
namespace Go.Proofs.YtnogfceojmnjiaaGreatDoor
open Go.RowKit Go.Fl Go.Fl.Nm Go.Fl.Dy Go.Fl.Rt
def LowP (r : Int × Int × Int) (w : World) (e : Ending) (w' : World) : Prop := e = .returned (.tuple #[.agg #[.int .i64 r.1, .int .i64 r.2.1], .bool (decide (r.2.2 = 0))]) ∧ Hid (Below w.heap.size w w')

set_option maxHeartbeats 2000000 in
theorem lowest_any (neg : Bool) (n d : Nat) (w : World) (h1 : n < 18446744073709551616) (h2 : d < 18446744073709551616) (hd : d ≠ 0) :
    Calls Tryz.prog 101 #[.bool neg, .int .u64 n, .int .u64 d] w (LowP (chkR neg n d) w) := by
  obtain ⟨g, hg⟩ : ∃ g, g = Nat.gcd n d := ⟨_, rfl⟩
  have hg0 : 0 < g := by rw [hg]; exact Nat.gcd_pos_of_pos_right _ (by omega)
  obtain ⟨X, hX⟩ : ∃ X, X = n / g := ⟨_, rfl⟩
  obtain ⟨Y, hY⟩ : ∃ Y, Y = d / g := ⟨_, rfl⟩
  have HG := Lib.hid hg.symm
  have HM := Lib.hid (show chkR neg n d = if MX < X ∨ MX < Y then (0, 0, 9) else (if neg then -(X : Int) else (X : Int), (Y : Int), 0) by unfold chkR; rw [hX, hY, hg])
  have hXb : X ≤ n := by rw [hX]; exact Nat.div_le_self _ _
  have hYb : Y ≤ d := by rw [hY]; exact Nat.div_le_self _ _
  have dg : ((g : Int) == 0) = false := by rw [beq_eq_false_iff_ne]; omega
  have ex : (n : Int) / (g : Int) = (X : Int) := by rw [hX]; rfl
  have ey : (d : Int) / (g : Int) = (Y : Int) := by rw [hY]; rfl
  clear hg hX hY hd
  by_cases c1 : 1073741824 < X
  · have e1 : decide ((1073741824 : Int) < X) = true := decide_eq_true (by omega)
    have HR := Lib.hid (show chkR neg n d = (0, 0, 9) by rw [HM.out, if_pos (.inl (by unfold MX; exact c1))])
    clear c1
    go_enter Tryz.func101, Tryz.ntmps101
    go_wp2_with fail
    obtain ⟨w1, hw⟩ : ∃ z9 : World, z9 = (w.alloc (.cells #[.int .i64 0, .int .i64 0] 23)) := ⟨_, rfl⟩
    have HB1 := Lib.hid (show Below w.heap.size w w1 by rw [hw]; exact below_a1 _ _)
    have F1r := Lib.hid (show Blk w1 (w.heap.size) 23 #[.int .i64 0, .int .i64 0] by rw [hw]; exact Blk.new _ _ _)
    rw [← hw]
    clear hw
    refine (gcd_r n d w1 (by omega) (by omega)).mono ?_
    rw [HG.out]
    rintro e w2 ⟨rfl, qd, hqd⟩
    have HB2 := Lib.hid (show Below w1.heap.size w1 w2 by rw [hqd]; exact below_drewN (Below.refl _ _) qd)
    clear hqd
    have F2r := Lib.hid (F1r.out.belowW HB2.out)
    have HL2 := Lib.hid (HB1.out.trans (HB2.out.mono HB1.out.size))
    go_wp2_with fail
    go_quiet (fail)
    rename_i nq
    obtain ⟨w3, hw⟩ : ∃ z9 : World, z9 = w2.drewN nq := ⟨_, rfl⟩
    have HB3 := Lib.hid (show Below w2.heap.size w2 w3 by rw [hw]; exact below_drewN (Below.refl _ _) _)
    rw [← hw]
    clear hw
    have F3r := Lib.hid (F2r.out.belowW HB3.out)
    have HL3 := Lib.hid (HL2.out.trans (HB3.out.mono HL2.out.size))
    have pr0 : (w3).cell? ⟨w.heap.size, 0, none⟩ = some (.int .i64 0) := F3r.out.cell 0
    have fr0 : (w3).frozen? ⟨w.heap.size, 0, none⟩ = false := F3r.out.frozen 0
    have pr1 : (w3).cell? ⟨w.heap.size, 1, none⟩ = some (.int .i64 0) := F3r.out.cell 1
    have fr1 : (w3).frozen? ⟨w.heap.size, 1, none⟩ = false := F3r.out.frozen 1
    go_wp2_with fail
    refine bodyPost_ret (v := .tuple #[.agg #[.int .i64 0, .int .i64 0], .bool false]) (by simp [results, Tryz.results101, go_sem, pr0, pr1]) rfl ?_
    rw [HR.out]
    exact ⟨rfl, Lib.hid (store2_below HL3.out F3r.out _ _ (Nat.le_refl _))⟩
  have e1 : decide ((1073741824 : Int) < X) = false := decide_eq_false (by omega)
  by_cases c2 : 1073741824 < Y
  · have e2 : decide ((1073741824 : Int) < Y) = true := decide_eq_true (by omega)
    have HR := Lib.hid (show chkR neg n d = (0, 0, 9) by rw [HM.out, if_pos (.inr (by unfold MX; exact c2))])
    clear c2
    go_enter Tryz.func101, Tryz.ntmps101
    go_wp2_with fail
    obtain ⟨w1, hw⟩ : ∃ z9 : World, z9 = (w.alloc (.cells #[.int .i64 0, .int .i64 0] 23)) := ⟨_, rfl⟩
    have HB1 := Lib.hid (show Below w.heap.size w w1 by rw [hw]; exact below_a1 _ _)
    have F1r := Lib.hid (show Blk w1 (w.heap.size) 23 #[.int .i64 0, .int .i64 0] by rw [hw]; exact Blk.new _ _ _)
    rw [← hw]
    clear hw
    refine (gcd_r n d w1 (by omega) (by omega)).mono ?_
    rw [HG.out]
    rintro e w2 ⟨rfl, qd, hqd⟩
    have HB2 := Lib.hid (show Below w1.heap.size w1 w2 by rw [hqd]; exact below_drewN (Below.refl _ _) qd)
    clear hqd
    have F2r := Lib.hid (F1r.out.belowW HB2.out)
    have HL2 := Lib.hid (HB1.out.trans (HB2.out.mono HB1.out.size))
    go_wp2_with fail
    go_quiet (fail)
    rename_i nq
    obtain ⟨w3, hw⟩ : ∃ z9 : World, z9 = w2.drewN nq := ⟨_, rfl⟩
    have HB3 := Lib.hid (show Below w2.heap.size w2 w3 by rw [hw]; exact below_drewN (Below.refl _ _) _)
    rw [← hw]
    clear hw
    have F3r := Lib.hid (F2r.out.belowW HB3.out)
    have HL3 := Lib.hid (HL2.out.trans (HB3.out.mono HL2.out.size))
    have pr0 : (w3).cell? ⟨w.heap.size, 0, none⟩ = some (.int .i64 0) := F3r.out.cell 0
    have fr0 : (w3).frozen? ⟨w.heap.size, 0, none⟩ = false := F3r.out.frozen 0
    have pr1 : (w3).cell? ⟨w.heap.size, 1, none⟩ = some (.int .i64 0) := F3r.out.cell 1
    have fr1 : (w3).frozen? ⟨w.heap.size, 1, none⟩ = false := F3r.out.frozen 1
    go_wp2_with fail
    refine bodyPost_ret (v := .tuple #[.agg #[.int .i64 0, .int .i64 0], .bool false]) (by simp [results, Tryz.results101, go_sem, pr0, pr1]) rfl ?_
    rw [HR.out]
    exact ⟨rfl, Lib.hid (store2_below HL3.out F3r.out _ _ (Nat.le_refl _))⟩
  have e2 : decide ((1073741824 : Int) < Y) = false := decide_eq_false (by omega)
  cases neg with
  | true =>
    have HR := Lib.hid (show chkR true n d = ((-(X : Int)), (Y : Int), 0) by rw [HM.out, if_neg (by unfold MX; omega)]; rfl)
    go_enter Tryz.func101, Tryz.ntmps101
    go_wp2_with fail
    obtain ⟨w1, hw⟩ : ∃ z9 : World, z9 = (w.alloc (.cells #[.int .i64 0, .int .i64 0] 23)) := ⟨_, rfl⟩
    have HB1 := Lib.hid (show Below w.heap.size w w1 by rw [hw]; exact below_a1 _ _)
    have F1r := Lib.hid (show Blk w1 (w.heap.size) 23 #[.int .i64 0, .int .i64 0] by rw [hw]; exact Blk.new _ _ _)
    rw [← hw]
    clear hw
    refine (gcd_r n d w1 (by omega) (by omega)).mono ?_
    rw [HG.out]
    rintro e w2 ⟨rfl, qd, hqd⟩
    have HB2 := Lib.hid (show Below w1.heap.size w1 w2 by rw [hqd]; exact below_drewN (Below.refl _ _) qd)
    clear hqd
    have F2r := Lib.hid (F1r.out.belowW HB2.out)
    have HL2 := Lib.hid (HB1.out.trans (HB2.out.mono HB1.out.size))
    go_wp2_with fail
    go_quiet (fail)
    rename_i nq
    obtain ⟨w3, hw⟩ : ∃ z9 : World, z9 = w2.drewN nq := ⟨_, rfl⟩
    have HB3 := Lib.hid (show Below w2.heap.size w2 w3 by rw [hw]; exact below_drewN (Below.refl _ _) _)
    rw [← hw]
    clear hw
    have F3r := Lib.hid (F2r.out.belowW HB3.out)
    have HL3 := Lib.hid (HL2.out.trans (HB3.out.mono HL2.out.size))
    have pr0 : (w3).cell? ⟨w.heap.size, 0, none⟩ = some (.int .i64 0) := F3r.out.cell 0
    have fr0 : (w3).frozen? ⟨w.heap.size, 0, none⟩ = false := F3r.out.frozen 0
    have pr1 : (w3).cell? ⟨w.heap.size, 1, none⟩ = some (.int .i64 0) := F3r.out.cell 1
    have fr1 : (w3).frozen? ⟨w.heap.size, 1, none⟩ = false := F3r.out.frozen 1
    go_wp2_with fail
    refine bodyPost_ret (v := .tuple #[.agg #[.int .i64 (-(X : Int)), .int .i64 (Y : Int)], .bool true]) (by simp [results, Tryz.results101, go_sem, pr0, pr1]) rfl ?_
    rw [HR.out]
    exact ⟨rfl, Lib.hid (store2_below HL3.out F3r.out _ _ (Nat.le_refl _))⟩
  | false =>
    have HR := Lib.hid (show chkR false n d = ((X : Int), (Y : Int), 0) by rw [HM.out, if_neg (by unfold MX; omega)]; rfl)
    go_enter Tryz.func101, Tryz.ntmps101
    go_wp2_with fail
    obtain ⟨w1, hw⟩ : ∃ z9 : World, z9 = (w.alloc (.cells #[.int .i64 0, .int .i64 0] 23)) := ⟨_, rfl⟩
    have HB1 := Lib.hid (show Below w.heap.size w w1 by rw [hw]; exact below_a1 _ _)
    have F1r := Lib.hid (show Blk w1 (w.heap.size) 23 #[.int .i64 0, .int .i64 0] by rw [hw]; exact Blk.new _ _ _)
    rw [← hw]
    clear hw
    refine (gcd_r n d w1 (by omega) (by omega)).mono ?_
    rw [HG.out]
    rintro e w2 ⟨rfl, qd, hqd⟩
    have HB2 := Lib.hid (show Below w1.heap.size w1 w2 by rw [hqd]; exact below_drewN (Below.refl _ _) qd)
    clear hqd
    have F2r := Lib.hid (F1r.out.belowW HB2.out)
    have HL2 := Lib.hid (HB1.out.trans (HB2.out.mono HB1.out.size))
    go_wp2_with fail
    go_quiet (fail)
    rename_i nq
    obtain ⟨w3, hw⟩ : ∃ z9 : World, z9 = w2.drewN nq := ⟨_, rfl⟩
    have HB3 := Lib.hid (show Below w2.heap.size w2 w3 by rw [hw]; exact below_drewN (Below.refl _ _) _)
    rw [← hw]
    clear hw
    have F3r := Lib.hid (F2r.out.belowW HB3.out)
    have HL3 := Lib.hid (HL2.out.trans (HB3.out.mono HL2.out.size))
    have pr0 : (w3).cell? ⟨w.heap.size, 0, none⟩ = some (.int .i64 0) := F3r.out.cell 0
    have fr0 : (w3).frozen? ⟨w.heap.size, 0, none⟩ = false := F3r.out.frozen 0
    have pr1 : (w3).cell? ⟨w.heap.size, 1, none⟩ = some (.int .i64 0) := F3r.out.cell 1
    have fr1 : (w3).frozen? ⟨w.heap.size, 1, none⟩ = false := F3r.out.frozen 1
    go_wp2_with fail
    refine bodyPost_ret (v := .tuple #[.agg #[.int .i64 (X : Int), .int .i64 (Y : Int)], .bool true]) (by simp [results, Tryz.results101, go_sem, pr0, pr1]) rfl ?_
    rw [HR.out]
    exact ⟨rfl, Lib.hid (store2_below HL3.out F3r.out _ _ (Nat.le_refl _))⟩

theorem chkR_err (neg : Bool) (n d : Nat) : (chkR neg n d).2.2 = 0 ∨ chkR neg n d = (0, 0, 9) := by
  unfold chkR
  split
  · exact .inr rfl
  · exact .inl rfl
set_option maxHeartbeats 2000000 in
theorem checkedR_any (neg : Bool) (n d : Nat) (w : World) (h1 : n < 18446744073709551616) (h2 : d < 18446744073709551616) (hd : d ≠ 0) :
    Calls Tryz.prog 59 #[.bool neg, .int .u64 n, .int .u64 d] w (RtE (chkR neg n d) w) := by
  have K := Lib.hid (fun w => lowest_any neg n d w h1 h2 hd)
  obtain ⟨xn, xd, xe, hx⟩ : ∃ x y z, chkR neg n d = (x, y, z) := ⟨_, _, _, rfl⟩
  have HX := Lib.hid hx
  rcases chkR_err neg n d with h | h
  · rw [hx] at h
    change xe = 0 at h
    subst h
    clear hx
    go_enter Tryz.func59, Tryz.ntmps59
    go_wp2_with fail
    obtain ⟨w1, hw⟩ : ∃ z9 : World, z9 = (w.alloc (.cells #[.int .i64 0, .int .i64 0] 23)) := ⟨_, rfl⟩
    have HB1 := Lib.hid (show Below w.heap.size w w1 by rw [hw]; exact below_a1 _ _)
    have F1r := Lib.hid (show Blk w1 (w.heap.size) 23 #[.int .i64 0, .int .i64 0] by rw [hw]; exact Blk.new _ _ _)
    rw [← hw]
    clear hw
    refine (K.out w1).mono ?_
    rw [HX.out]
    rintro e w2 ⟨rfl, HB2⟩
    have F2r := Lib.hid (F1r.out.belowW HB2.out)
    have HL2 := Lib.hid (HB1.out.trans (HB2.out.mono HB1.out.size))
    go_upto_region 2 with (fail)
    obtain ⟨w3, hw⟩ : ∃ z9 : World, z9 = w2.alloc (.cells #[.int .i64 xn, .int .i64 xd] 23) := ⟨_, rfl⟩
    have HB3 := Lib.hid (show Below w2.heap.size w2 w3 by rw [hw]; exact below_a1 _ _)
    have F3k := Lib.hid (show Blk w3 w2.heap.size 23 #[.int .i64 xn, .int .i64 xd] by rw [hw]; exact Blk.new _ _ _)
    rw [← hw]
    clear hw
    have F3r := Lib.hid (F2r.out.belowW HB3.out)
    have HL3 := Lib.hid (HL2.out.trans (HB3.out.mono HL2.out.size))
    have pr0 : (w3).cell? ⟨w.heap.size, 0, none⟩ = some (.int .i64 0) := F3r.out.cell 0
    have fr0 : (w3).frozen? ⟨w.heap.size, 0, none⟩ = false := F3r.out.frozen 0
    have pr1 : (w3).cell? ⟨w.heap.size, 1, none⟩ = some (.int .i64 0) := F3r.out.cell 1
    have fr1 : (w3).frozen? ⟨w.heap.size, 1, none⟩ = false := F3r.out.frozen 1
    have pk0 : (w3).cell? ⟨w2.heap.size, 0, none⟩ = some (.int .i64 xn) := F3k.out.cell 0
    have fk0 : (w3).frozen? ⟨w2.heap.size, 0, none⟩ = false := F3k.out.frozen 0
    have pk1 : (w3).cell? ⟨w2.heap.size, 1, none⟩ = some (.int .i64 xd) := F3k.out.cell 1
    have fk1 : (w3).frozen? ⟨w2.heap.size, 1, none⟩ = false := F3k.out.frozen 1
    go_wp2_with fail
    refine bodyPost_ret (v := .tuple #[.agg #[.int .i64 xn, .int .i64 xd], .int .i64 0]) (by simp [results, Tryz.results59, go_sem, pr0, pr1]) rfl ?_
    rw [HX.out]
    exact ⟨rfl, Lib.hid (store2_below HL3.out F3r.out _ _ (Nat.le_refl _))⟩
  · rw [hx] at h
    simp only [Prod.mk.injEq] at h
    obtain ⟨rfl, rfl, rfl⟩ := h
    clear hx
    go_enter Tryz.func59, Tryz.ntmps59
    go_wp2_with fail
    obtain ⟨w1, hw⟩ : ∃ z9 : World, z9 = (w.alloc (.cells #[.int .i64 0, .int .i64 0] 23)) := ⟨_, rfl⟩
    have HB1 := Lib.hid (show Below w.heap.size w w1 by rw [hw]; exact below_a1 _ _)
    have F1r := Lib.hid (show Blk w1 (w.heap.size) 23 #[.int .i64 0, .int .i64 0] by rw [hw]; exact Blk.new _ _ _)
    rw [← hw]
    clear hw
    refine (K.out w1).mono ?_
    rw [HX.out]
    rintro e w2 ⟨rfl, HB2⟩
    have F2r := Lib.hid (F1r.out.belowW HB2.out)
    have HL2 := Lib.hid (HB1.out.trans (HB2.out.mono HB1.out.size))
    go_upto_region 2 with (fail)
    obtain ⟨w3, hw⟩ : ∃ z9 : World, z9 = w2.alloc (.cells #[.int .i64 0, .int .i64 0] 23) := ⟨_, rfl⟩
    have HB3 := Lib.hid (show Below w2.heap.size w2 w3 by rw [hw]; exact below_a1 _ _)
    have F3k := Lib.hid (show Blk w3 w2.heap.size 23 #[.int .i64 0, .int .i64 0] by rw [hw]; exact Blk.new _ _ _)
    rw [← hw]
    clear hw
    have F3r := Lib.hid (F2r.out.belowW HB3.out)
    have HL3 := Lib.hid (HL2.out.trans (HB3.out.mono HL2.out.size))
    have pr0 : (w3).cell? ⟨w.heap.size, 0, none⟩ = some (.int .i64 0) := F3r.out.cell 0
    have fr0 : (w3).frozen? ⟨w.heap.size, 0, none⟩ = false := F3r.out.frozen 0
    have pr1 : (w3).cell? ⟨w.heap.size, 1, none⟩ = some (.int .i64 0) := F3r.out.cell 1
    have fr1 : (w3).frozen? ⟨w.heap.size, 1, none⟩ = false := F3r.out.frozen 1
    have pk0 : (w3).cell? ⟨w2.heap.size, 0, none⟩ = some (.int .i64 0) := F3k.out.cell 0
    have fk0 : (w3).frozen? ⟨w2.heap.size, 0, none⟩ = false := F3k.out.frozen 0
    have pk1 : (w3).cell? ⟨w2.heap.size, 1, none⟩ = some (.int .i64 0) := F3k.out.cell 1
    have fk1 : (w3).frozen? ⟨w2.heap.size, 1, none⟩ = false := F3k.out.frozen 1
    go_wp2_with fail
    refine bodyPost_ret (v := .tuple #[.agg #[.int .i64 0, .int .i64 0], .int .i64 9]) (by simp [results, Tryz.results59, go_sem, pr0, pr1]) rfl ?_
    rw [HX.out]
    exact ⟨rfl, Lib.hid (store2_below HL3.out F3r.out _ _ (Nat.le_refl _))⟩

set_option maxHeartbeats 2000000 in
theorem make_r (n d : Int) (w : World) (h1 : -9223372036854775808 ≤ n) (h2 : n ≤ 9223372036854775807) (h3 : -9223372036854775808 ≤ d) (h4 : d ≤ 9223372036854775807) :
    Calls Tryz.prog 21 #[.int .i64 n, .int .i64 d] w (RtE (make n d) w) := by
  by_cases hd : d = 0
  · have HR := Lib.hid (show make n d = (0, 0, 10) by unfold make; rw [if_pos hd])
    subst hd
    go_enter Tryz.func21, Tryz.ntmps21
    go_wp2_with fail
    refine bodyPost_ret (v := .tuple #[.agg #[.int .i64 0, .int .i64 0], .int .i64 10]) (by simp [results, Tryz.results21, go_sem]) rfl ?_
    rw [HR.out]
    exact ⟨rfl, Lib.hid (below_a1 _ _)⟩
  have dd : (d == 0) = false := by rw [beq_eq_false_iff_ne]; exact hd
  obtain ⟨ng, hng⟩ : ∃ z : Bool, z = (decide (n < 0) != decide (d < 0)) := ⟨_, rfl⟩
  have HNG := Lib.hid (show (!(decide (n < 0) == decide (d < 0))) = ng from hng.symm)
  have HR := Lib.hid (show make n d = chkR ng n.natAbs d.natAbs by rw [hng]; exact make_chk hd)
  have HDZ := Lib.hid (show d.natAbs ≠ 0 by omega)
  clear hng hd
  go_enter Tryz.func21, Tryz.ntmps21
  go_wp2_with fail
  obtain ⟨w1, hw⟩ : ∃ z9 : World, z9 = (w.alloc (.cells #[.int .i64 0, .int .i64 0] 23)) := ⟨_, rfl⟩
  have HB1 := Lib.hid (show Below w.heap.size w w1 by rw [hw]; exact below_a1 _ _)
  have F1r := Lib.hid (show Blk w1 (w.heap.size) 23 #[.int .i64 0, .int .i64 0] by rw [hw]; exact Blk.new _ _ _)
  rw [← hw]
  clear hw
  refine (size_r n w1 h1 h2).mono ?_
  rintro e w' ⟨rfl, rfl⟩
  go_wp2_with fail
  refine (size_r d w1 h3 h4).mono ?_
  rintro e w' ⟨rfl, rfl⟩
  go_wp2_with fail
  rw [HNG.out]
  refine (checkedR_any ng n.natAbs d.natAbs w1 (by omega) (by omega) HDZ.out).mono ?_
  rw [← HR.out]
  rintro e w2 ⟨rfl, HB2⟩
  have F2r := Lib.hid (F1r.out.belowW HB2.out)
  have HL2 := Lib.hid (HB1.out.trans (HB2.out.mono HB1.out.size))
  have pr0 : (w2).cell? ⟨w.heap.size, 0, none⟩ = some (.int .i64 0) := F2r.out.cell 0
  have fr0 : (w2).frozen? ⟨w.heap.size, 0, none⟩ = false := F2r.out.frozen 0
  have pr1 : (w2).cell? ⟨w.heap.size, 1, none⟩ = some (.int .i64 0) := F2r.out.cell 1
  have fr1 : (w2).frozen? ⟨w.heap.size, 1, none⟩ = false := F2r.out.frozen 1
  go_wp2_with fail
  refine bodyPost_ret (v := .tuple #[.agg #[.int .i64 (make n d).1, .int .i64 (make n d).2.1], .int .i64 (make n d).2.2]) (by simp [results, Tryz.results21, go_sem, pr0, pr1]) rfl ?_
  exact ⟨rfl, Lib.hid (store2_below HL2.out F2r.out _ _ (Nat.le_refl _))⟩
end Go.Proofs.YtnogfceojmnjiaaGreatDoor
