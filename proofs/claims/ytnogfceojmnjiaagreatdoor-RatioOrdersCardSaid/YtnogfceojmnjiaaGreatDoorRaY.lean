/-
  The walks of the reference's sign, Compare and Cmp.
-/
import Derived.Test.YtnogfceojmnjiaaGreatDoorRaWW
import Derived.Test.YtnogfceojmnjiaaGreatDoorRaSS
set_option linter.unusedVariables false
namespace Go.Fl.Dy
open Go.Fl.Nm
theorem cmpP_cmpQ (N q k : Nat) (e : Int) : cmpP N 0 (k * q) e = cmpQ N q k e := by
  unfold cmpP cmpQ
  rw [show (0 - min 0 e).toNat = (-e).toNat by omega, show (e - min 0 e).toNat = e.toNat by omega, Nat.mul_comm N, Nat.mul_comm (k * q)]
theorem cmpI_sg (n : Int) : cmpI n 0 = sgI n := by
  unfold cmpI sgI
  by_cases h : 0 < n
  · rw [if_neg (by omega), if_pos h, if_pos h]
  · by_cases h2 : n < 0
    · rw [if_pos h2, if_neg h, if_pos h2]
    · rw [if_neg h2, if_neg h, if_neg h, if_neg h2]
theorem sgI_range (n : Int) : -1 ≤ sgI n ∧ sgI n ≤ 1 := by unfold sgI; split <;> (try split) <;> omega
theorem sgI_zero {n : Int} (h : sgI n ≠ 0) : n ≠ 0 := by rintro rfl; exact h rfl
end Go.Fl.Dy
namespace Go.Proofs.YtnogfceojmnjiaaGreatDoor
open Go.RowKit Go.Fl Go.Fl.Nm Go.Fl.Dy Go.Fl.Rt

set_option maxHeartbeats 1000000 in
theorem sign_r (x : D) (A : Option Addr) (m c : Nat) (w : World) (hx : Sl w A m c (limbs x.k)) :
    Calls Tryz.prog 73 #[.agg #[.bool x.neg, .slice A m c, .int .i64 x.e]] w (Ret (.int .i64 (sg x)) w) := by
  have hmx := hx.max
  unfold maxLen at hmx
  have HN := Lib.hid hx.len
  clear hx
  by_cases hz : x.k = 0
  · obtain rfl : m = 0 := by rw [← HN.out, hz, limbs_zero]; rfl
    have HR := Lib.hid (show sg x = 0 by unfold sg; rw [if_pos hz])
    clear hz
    go_enter Tryz.func73, Tryz.ntmps73
    go_wp2_with fail
    obtain ⟨w1, hw⟩ : ∃ z9 : World, z9 = (w.alloc (.cells #[.bool x.neg, .slice A 0 c, .int .i64 x.e] 28)) := ⟨_, rfl⟩
    have HB1 := Lib.hid (show Below w.heap.size w w1 by rw [hw]; exact below_a1 _ _)
    have F1kx := Lib.hid (show Blk w1 (w.heap.size) 28 #[.bool x.neg, .slice A 0 c, .int .i64 x.e] by rw [hw]; exact Blk.new _ _ _)
    rw [← hw]
    clear hw
    have pkx0 : (w1).cell? ⟨w.heap.size, 0, none⟩ = some (.bool x.neg) := F1kx.out.cell 0
    have fkx0 : (w1).frozen? ⟨w.heap.size, 0, none⟩ = false := F1kx.out.frozen 0
    have pkx1 : (w1).cell? ⟨w.heap.size, 1, none⟩ = some (.slice A 0 c) := F1kx.out.cell 1
    have fkx1 : (w1).frozen? ⟨w.heap.size, 1, none⟩ = false := F1kx.out.frozen 1
    have pkx2 : (w1).cell? ⟨w.heap.size, 2, none⟩ = some (.int .i64 x.e) := F1kx.out.cell 2
    have fkx2 : (w1).frozen? ⟨w.heap.size, 2, none⟩ = false := F1kx.out.frozen 2
    go_wp2_with fail
    go_ret
    exact ⟨by rw [HR.out]; rfl, HB1⟩
  · have dk : ((m : Int) == 0) = false := by rw [beq_eq_false_iff_ne]; intro e; have h0 : m = 0 := by omega
                                             rw [h0] at HN; exact hz (limbs_eq_nil.1 (List.eq_nil_of_length_eq_zero HN.out))
    cases hg : x.neg with
    | true =>
      have HR := Lib.hid (show sg x = -1 by unfold sg; rw [if_neg hz]; simp [hg])
      clear hz hg
      go_enter Tryz.func73, Tryz.ntmps73
      go_wp2_with fail
      obtain ⟨w1, hw⟩ : ∃ z9 : World, z9 = (w.alloc (.cells #[.bool true, .slice A m c, .int .i64 x.e] 28)) := ⟨_, rfl⟩
      have HB1 := Lib.hid (show Below w.heap.size w w1 by rw [hw]; exact below_a1 _ _)
      have F1kx := Lib.hid (show Blk w1 (w.heap.size) 28 #[.bool true, .slice A m c, .int .i64 x.e] by rw [hw]; exact Blk.new _ _ _)
      rw [← hw]
      clear hw
      have pkx0 : (w1).cell? ⟨w.heap.size, 0, none⟩ = some (.bool true) := F1kx.out.cell 0
      have fkx0 : (w1).frozen? ⟨w.heap.size, 0, none⟩ = false := F1kx.out.frozen 0
      have pkx1 : (w1).cell? ⟨w.heap.size, 1, none⟩ = some (.slice A m c) := F1kx.out.cell 1
      have fkx1 : (w1).frozen? ⟨w.heap.size, 1, none⟩ = false := F1kx.out.frozen 1
      have pkx2 : (w1).cell? ⟨w.heap.size, 2, none⟩ = some (.int .i64 x.e) := F1kx.out.cell 2
      have fkx2 : (w1).frozen? ⟨w.heap.size, 2, none⟩ = false := F1kx.out.frozen 2
      go_wp2_with fail
      go_ret
      exact ⟨by rw [HR.out]; rfl, HB1⟩
    | false =>
      have HR := Lib.hid (show sg x = 1 by unfold sg; rw [if_neg hz]; simp [hg])
      clear hz hg
      go_enter Tryz.func73, Tryz.ntmps73
      go_wp2_with fail
      obtain ⟨w1, hw⟩ : ∃ z9 : World, z9 = (w.alloc (.cells #[.bool false, .slice A m c, .int .i64 x.e] 28)) := ⟨_, rfl⟩
      have HB1 := Lib.hid (show Below w.heap.size w w1 by rw [hw]; exact below_a1 _ _)
      have F1kx := Lib.hid (show Blk w1 (w.heap.size) 28 #[.bool false, .slice A m c, .int .i64 x.e] by rw [hw]; exact Blk.new _ _ _)
      rw [← hw]
      clear hw
      have pkx0 : (w1).cell? ⟨w.heap.size, 0, none⟩ = some (.bool false) := F1kx.out.cell 0
      have fkx0 : (w1).frozen? ⟨w.heap.size, 0, none⟩ = false := F1kx.out.frozen 0
      have pkx1 : (w1).cell? ⟨w.heap.size, 1, none⟩ = some (.slice A m c) := F1kx.out.cell 1
      have fkx1 : (w1).frozen? ⟨w.heap.size, 1, none⟩ = false := F1kx.out.frozen 1
      have pkx2 : (w1).cell? ⟨w.heap.size, 2, none⟩ = some (.int .i64 x.e) := F1kx.out.cell 2
      have fkx2 : (w1).frozen? ⟨w.heap.size, 2, none⟩ = false := F1kx.out.frozen 2
      go_wp2_with fail
      go_ret
      exact ⟨by rw [HR.out]; rfl, HB1⟩

set_option maxHeartbeats 1000000 in
theorem compareR_no (n d : Int) (ng : Bool) (A : Option Addr) (m c : Nat) (ex : Int) (l : List Nat) (w : World) (hx : Sl w A m c l) (h1 : -9223372036854775808 ≤ n) (h2 : n ≤ 9223372036854775807) (h3 : -9223372036854775808 ≤ d) (h4 : d ≤ 9223372036854775807) (hv : vB n d = false ∨ vldL ng l ex = false) :
    Calls Tryz.prog 37 #[.agg #[.int .i64 n, .int .i64 d], .agg #[.bool ng, .slice A m c, .int .i64 ex]] w (Ret (.tuple #[.int .i64 0, .int .i64 1]) w) := by
  have HX := Lib.hid hx
  clear hx
  cases va : vB n d with
  | false =>
    have VA := Lib.hid va
    clear va hv
    go_enter Tryz.func37, Tryz.ntmps37
    go_wp2_with fail
    obtain ⟨w1, hw⟩ : ∃ z9 : World, z9 = ((w.alloc (.cells #[.int .i64 n, .int .i64 d] 23)).alloc (.cells #[.bool ng, .slice A m c, .int .i64 ex] 28)) := ⟨_, rfl⟩
    have HB1 := Lib.hid (show Below w.heap.size w w1 by rw [hw]; exact below_a2 _ _ _)
    have F1x := Lib.hid (HX.out.belowW HB1.out)
    have F1kr := Lib.hid (show Blk w1 (w.heap.size) 23 #[.int .i64 n, .int .i64 d] by rw [hw]; exact (Blk.new _ _ _).alloc _)
    have F1kx := Lib.hid (show Blk w1 (w.heap.size + 1) 28 #[.bool ng, .slice A m c, .int .i64 ex] by rw [hw]; exact Blk.new1 _ _ _ _)
    rw [← hw]
    clear hw
    have pkr0 : (w1).cell? ⟨w.heap.size, 0, none⟩ = some (.int .i64 n) := F1kr.out.cell 0
    have fkr0 : (w1).frozen? ⟨w.heap.size, 0, none⟩ = false := F1kr.out.frozen 0
    have pkr1 : (w1).cell? ⟨w.heap.size, 1, none⟩ = some (.int .i64 d) := F1kr.out.cell 1
    have fkr1 : (w1).frozen? ⟨w.heap.size, 1, none⟩ = false := F1kr.out.frozen 1
    have pkx0 : (w1).cell? ⟨w.heap.size + 1, 0, none⟩ = some (.bool ng) := F1kx.out.cell 0
    have fkx0 : (w1).frozen? ⟨w.heap.size + 1, 0, none⟩ = false := F1kx.out.frozen 0
    have pkx1 : (w1).cell? ⟨w.heap.size + 1, 1, none⟩ = some (.slice A m c) := F1kx.out.cell 1
    have fkx1 : (w1).frozen? ⟨w.heap.size + 1, 1, none⟩ = false := F1kx.out.frozen 1
    have pkx2 : (w1).cell? ⟨w.heap.size + 1, 2, none⟩ = some (.int .i64 ex) := F1kx.out.cell 2
    have fkx2 : (w1).frozen? ⟨w.heap.size + 1, 2, none⟩ = false := F1kx.out.frozen 2
    go_wp2_with fail
    refine (valid_r n d w1 h1 h2 h3 h4).mono ?_
    rw [VA.out]
    rintro e w2 ⟨rfl, HB2⟩
    have F2x := Lib.hid (F1x.out.belowW HB2.out)
    have F2kr := Lib.hid (F1kr.out.belowW HB2.out)
    have F2kx := Lib.hid (F1kx.out.belowW HB2.out)
    have HL2 := Lib.hid (HB1.out.trans (HB2.out.mono HB1.out.size))
    clear pkr0 fkr0 pkr1 fkr1 pkx0 fkx0 pkx1 fkx1 pkx2 fkx2
    have pkr0 : (w2).cell? ⟨w.heap.size, 0, none⟩ = some (.int .i64 n) := F2kr.out.cell 0
    have fkr0 : (w2).frozen? ⟨w.heap.size, 0, none⟩ = false := F2kr.out.frozen 0
    have pkr1 : (w2).cell? ⟨w.heap.size, 1, none⟩ = some (.int .i64 d) := F2kr.out.cell 1
    have fkr1 : (w2).frozen? ⟨w.heap.size, 1, none⟩ = false := F2kr.out.frozen 1
    have pkx0 : (w2).cell? ⟨w.heap.size + 1, 0, none⟩ = some (.bool ng) := F2kx.out.cell 0
    have fkx0 : (w2).frozen? ⟨w.heap.size + 1, 0, none⟩ = false := F2kx.out.frozen 0
    have pkx1 : (w2).cell? ⟨w.heap.size + 1, 1, none⟩ = some (.slice A m c) := F2kx.out.cell 1
    have fkx1 : (w2).frozen? ⟨w.heap.size + 1, 1, none⟩ = false := F2kx.out.frozen 1
    have pkx2 : (w2).cell? ⟨w.heap.size + 1, 2, none⟩ = some (.int .i64 ex) := F2kx.out.cell 2
    have fkx2 : (w2).frozen? ⟨w.heap.size + 1, 2, none⟩ = false := F2kx.out.frozen 2
    go_wp2_with fail
    refine bodyPost_ret (v := .tuple #[.int .i64 0, .int .i64 1]) (by simp [results, Tryz.results37, go_sem]) rfl ?_
    exact ⟨rfl, HL2⟩
  | true =>
    have VA := Lib.hid va
    have VX := Lib.hid (show vldL ng l ex = false by rcases hv with h | h; (rw [va] at h; cases h); exact h)
    clear va hv
    go_enter Tryz.func37, Tryz.ntmps37
    go_wp2_with fail
    obtain ⟨w1, hw⟩ : ∃ z9 : World, z9 = ((w.alloc (.cells #[.int .i64 n, .int .i64 d] 23)).alloc (.cells #[.bool ng, .slice A m c, .int .i64 ex] 28)) := ⟨_, rfl⟩
    have HB1 := Lib.hid (show Below w.heap.size w w1 by rw [hw]; exact below_a2 _ _ _)
    have F1x := Lib.hid (HX.out.belowW HB1.out)
    have F1kr := Lib.hid (show Blk w1 (w.heap.size) 23 #[.int .i64 n, .int .i64 d] by rw [hw]; exact (Blk.new _ _ _).alloc _)
    have F1kx := Lib.hid (show Blk w1 (w.heap.size + 1) 28 #[.bool ng, .slice A m c, .int .i64 ex] by rw [hw]; exact Blk.new1 _ _ _ _)
    rw [← hw]
    clear hw
    have pkr0 : (w1).cell? ⟨w.heap.size, 0, none⟩ = some (.int .i64 n) := F1kr.out.cell 0
    have fkr0 : (w1).frozen? ⟨w.heap.size, 0, none⟩ = false := F1kr.out.frozen 0
    have pkr1 : (w1).cell? ⟨w.heap.size, 1, none⟩ = some (.int .i64 d) := F1kr.out.cell 1
    have fkr1 : (w1).frozen? ⟨w.heap.size, 1, none⟩ = false := F1kr.out.frozen 1
    have pkx0 : (w1).cell? ⟨w.heap.size + 1, 0, none⟩ = some (.bool ng) := F1kx.out.cell 0
    have fkx0 : (w1).frozen? ⟨w.heap.size + 1, 0, none⟩ = false := F1kx.out.frozen 0
    have pkx1 : (w1).cell? ⟨w.heap.size + 1, 1, none⟩ = some (.slice A m c) := F1kx.out.cell 1
    have fkx1 : (w1).frozen? ⟨w.heap.size + 1, 1, none⟩ = false := F1kx.out.frozen 1
    have pkx2 : (w1).cell? ⟨w.heap.size + 1, 2, none⟩ = some (.int .i64 ex) := F1kx.out.cell 2
    have fkx2 : (w1).frozen? ⟨w.heap.size + 1, 2, none⟩ = false := F1kx.out.frozen 2
    go_wp2_with fail
    refine (valid_r n d w1 h1 h2 h3 h4).mono ?_
    rw [VA.out]
    rintro e w2 ⟨rfl, HB2⟩
    have F2x := Lib.hid (F1x.out.belowW HB2.out)
    have F2kr := Lib.hid (F1kr.out.belowW HB2.out)
    have F2kx := Lib.hid (F1kx.out.belowW HB2.out)
    have HL2 := Lib.hid (HB1.out.trans (HB2.out.mono HB1.out.size))
    clear pkr0 fkr0 pkr1 fkr1 pkx0 fkx0 pkx1 fkx1 pkx2 fkx2
    have pkr0 : (w2).cell? ⟨w.heap.size, 0, none⟩ = some (.int .i64 n) := F2kr.out.cell 0
    have fkr0 : (w2).frozen? ⟨w.heap.size, 0, none⟩ = false := F2kr.out.frozen 0
    have pkr1 : (w2).cell? ⟨w.heap.size, 1, none⟩ = some (.int .i64 d) := F2kr.out.cell 1
    have fkr1 : (w2).frozen? ⟨w.heap.size, 1, none⟩ = false := F2kr.out.frozen 1
    have pkx0 : (w2).cell? ⟨w.heap.size + 1, 0, none⟩ = some (.bool ng) := F2kx.out.cell 0
    have fkx0 : (w2).frozen? ⟨w.heap.size + 1, 0, none⟩ = false := F2kx.out.frozen 0
    have pkx1 : (w2).cell? ⟨w.heap.size + 1, 1, none⟩ = some (.slice A m c) := F2kx.out.cell 1
    have fkx1 : (w2).frozen? ⟨w.heap.size + 1, 1, none⟩ = false := F2kx.out.frozen 1
    have pkx2 : (w2).cell? ⟨w.heap.size + 1, 2, none⟩ = some (.int .i64 ex) := F2kx.out.cell 2
    have fkx2 : (w2).frozen? ⟨w.heap.size + 1, 2, none⟩ = false := F2kx.out.frozen 2
    go_wp2_with fail
    refine (valid02_any ng A m c ex l w2 F2x.out).mono ?_
    rw [VX.out]
    rintro e w3 ⟨rfl, HB3⟩
    have F3x := Lib.hid (F2x.out.belowW HB3.out)
    have F3kr := Lib.hid (F2kr.out.belowW HB3.out)
    have F3kx := Lib.hid (F2kx.out.belowW HB3.out)
    have HL3 := Lib.hid (HL2.out.trans (HB3.out.mono HL2.out.size))
    clear pkr0 fkr0 pkr1 fkr1 pkx0 fkx0 pkx1 fkx1 pkx2 fkx2
    have pkr0 : (w3).cell? ⟨w.heap.size, 0, none⟩ = some (.int .i64 n) := F3kr.out.cell 0
    have fkr0 : (w3).frozen? ⟨w.heap.size, 0, none⟩ = false := F3kr.out.frozen 0
    have pkr1 : (w3).cell? ⟨w.heap.size, 1, none⟩ = some (.int .i64 d) := F3kr.out.cell 1
    have fkr1 : (w3).frozen? ⟨w.heap.size, 1, none⟩ = false := F3kr.out.frozen 1
    have pkx0 : (w3).cell? ⟨w.heap.size + 1, 0, none⟩ = some (.bool ng) := F3kx.out.cell 0
    have fkx0 : (w3).frozen? ⟨w.heap.size + 1, 0, none⟩ = false := F3kx.out.frozen 0
    have pkx1 : (w3).cell? ⟨w.heap.size + 1, 1, none⟩ = some (.slice A m c) := F3kx.out.cell 1
    have fkx1 : (w3).frozen? ⟨w.heap.size + 1, 1, none⟩ = false := F3kx.out.frozen 1
    have pkx2 : (w3).cell? ⟨w.heap.size + 1, 2, none⟩ = some (.int .i64 ex) := F3kx.out.cell 2
    have fkx2 : (w3).frozen? ⟨w.heap.size + 1, 2, none⟩ = false := F3kx.out.frozen 2
    go_wp2_with fail
    refine bodyPost_ret (v := .tuple #[.int .i64 0, .int .i64 1]) (by simp [results, Tryz.results37, go_sem]) rfl ?_
    exact ⟨rfl, HL3⟩

theorem valid02_yes (d : D) (A : Option Addr) (n c : Nat) (w : World) (h : Sl w A n c (limbs d.k)) (hv : vld d) : Calls Tryz.prog 39 #[.agg #[.bool d.neg, .slice A n c, .int .i64 d.e]] w (Ret (.bool true) w) := by
  have := valid02_any d.neg A n c d.e (limbs d.k) w h
  rwa [vldL_of hv] at this
set_option maxHeartbeats 2000000 in
theorem compareR_yes (n d : Int) (x : D) (A : Option Addr) (m c : Nat) (w : World) (hx : Sl w A m c (limbs x.k)) (vx : vld x) (hv : vB n d = true) :
    Calls Tryz.prog 37 #[.agg #[.int .i64 n, .int .i64 d], .agg #[.bool x.neg, .slice A m c, .int .i64 x.e]] w (Ret (.tuple #[.int .i64 (cmpRD n d x), .int .i64 0]) w) := by
  have HX := Lib.hid hx
  have VX := Lib.hid vx
  have VA := Lib.hid hv
  obtain ⟨v1, v2, v3, v4⟩ := vB_bd hv
  have h1 : -9223372036854775808 ≤ n := by omega
  have h2 : n ≤ 9223372036854775807 := by omega
  have h3 : -9223372036854775808 ≤ d := by omega
  have h4 : d ≤ 9223372036854775807 := by omega
  have he := vld_ebd vx
  have LX := Lib.hid (show m ≤ 256 by rw [← hx.len]; exact vld_len vx)
  obtain ⟨N, hN⟩ : ∃ N, n.natAbs = N := ⟨_, rfl⟩
  obtain ⟨q, hq⟩ : ∃ q, d.toNat = q := ⟨_, rfl⟩
  have hq2 : d = (q : Int) := by omega
  have N1 : N ≤ 1073741824 := by omega
  have q1 : q ≤ 1073741824 := by omega
  have q2 : 0 < q := by omega
  have HN := Lib.hid hN
  obtain ⟨s, hs⟩ : ∃ s, sgI n = s := ⟨_, rfl⟩
  obtain ⟨t, ht⟩ : ∃ t, sg x = t := ⟨_, rfl⟩
  have s1 : -1 ≤ s ∧ s ≤ 1 := by rw [← hs]; exact sgI_range n
  have t1 : -1 ≤ t ∧ t ≤ 1 := by rw [← ht]; exact sg_range x
  obtain ⟨z, hz⟩ : ∃ z, cmpQ N q x.k x.e = z := ⟨_, rfl⟩
  have z1 : -1 ≤ z ∧ z ≤ 1 := by rw [← hz]; exact cmpQ_range _ _ _ _
  have HS := Lib.hid (show cmpI n 0 = s by rw [cmpI_sg, hs])
  have HTT := Lib.hid ht
  have KS := Lib.hid (show s ≠ 0 → n ≠ 0 by rw [← hs]; exact sgI_zero)
  have KT := Lib.hid (show t ≠ 0 → x.k ≠ 0 by rw [← ht]; exact sg_ne)
  have HR := Lib.hid (show cmpRD n d x = if s < t then -1 else if t < s then 1 else if s = 0 then 0 else s * z by unfold cmpRD; rw [hs, ht, hN, hq, hz])
  have HZ := Lib.hid (show ∀ lm : List Nat, val lm = x.k * q → cmpP (val [N, N / 4294967296]) 0 (val lm) x.e = z from fun lm h => by rw [val_two N1, h, cmpP_cmpQ, hz])
  clear hx vx hv hs ht hz hN hq
  subst hq2
  go_enter Tryz.func37, Tryz.ntmps37
  go_wp2_with fail
  obtain ⟨w1, hw⟩ : ∃ z9 : World, z9 = ((w.alloc (.cells #[.int .i64 n, .int .i64 (q : Int)] 23)).alloc (.cells #[.bool x.neg, .slice A m c, .int .i64 x.e] 28)) := ⟨_, rfl⟩
  have HB1 := Lib.hid (show Below w.heap.size w w1 by rw [hw]; exact below_a2 _ _ _)
  have F1x := Lib.hid (HX.out.belowW HB1.out)
  have F1kr := Lib.hid (show Blk w1 (w.heap.size) 23 #[.int .i64 n, .int .i64 (q : Int)] by rw [hw]; exact (Blk.new _ _ _).alloc _)
  have F1kx := Lib.hid (show Blk w1 (w.heap.size + 1) 28 #[.bool x.neg, .slice A m c, .int .i64 x.e] by rw [hw]; exact Blk.new1 _ _ _ _)
  rw [← hw]
  clear hw
  have pkr0 : (w1).cell? ⟨w.heap.size, 0, none⟩ = some (.int .i64 n) := F1kr.out.cell 0
  have fkr0 : (w1).frozen? ⟨w.heap.size, 0, none⟩ = false := F1kr.out.frozen 0
  have pkr1 : (w1).cell? ⟨w.heap.size, 1, none⟩ = some (.int .i64 (q : Int)) := F1kr.out.cell 1
  have fkr1 : (w1).frozen? ⟨w.heap.size, 1, none⟩ = false := F1kr.out.frozen 1
  have pkx0 : (w1).cell? ⟨w.heap.size + 1, 0, none⟩ = some (.bool x.neg) := F1kx.out.cell 0
  have fkx0 : (w1).frozen? ⟨w.heap.size + 1, 0, none⟩ = false := F1kx.out.frozen 0
  have pkx1 : (w1).cell? ⟨w.heap.size + 1, 1, none⟩ = some (.slice A m c) := F1kx.out.cell 1
  have fkx1 : (w1).frozen? ⟨w.heap.size + 1, 1, none⟩ = false := F1kx.out.frozen 1
  have pkx2 : (w1).cell? ⟨w.heap.size + 1, 2, none⟩ = some (.int .i64 x.e) := F1kx.out.cell 2
  have fkx2 : (w1).frozen? ⟨w.heap.size + 1, 2, none⟩ = false := F1kx.out.frozen 2
  go_wp2_with fail
  refine (valid_r n q w1 h1 h2 h3 h4).mono ?_
  rw [VA.out]
  rintro e w2 ⟨rfl, HB2⟩
  have F2x := Lib.hid (F1x.out.belowW HB2.out)
  have F2kr := Lib.hid (F1kr.out.belowW HB2.out)
  have F2kx := Lib.hid (F1kx.out.belowW HB2.out)
  have HL2 := Lib.hid (HB1.out.trans (HB2.out.mono HB1.out.size))
  clear pkr0 fkr0 pkr1 fkr1 pkx0 fkx0 pkx1 fkx1 pkx2 fkx2
  have pkr0 : (w2).cell? ⟨w.heap.size, 0, none⟩ = some (.int .i64 n) := F2kr.out.cell 0
  have fkr0 : (w2).frozen? ⟨w.heap.size, 0, none⟩ = false := F2kr.out.frozen 0
  have pkr1 : (w2).cell? ⟨w.heap.size, 1, none⟩ = some (.int .i64 (q : Int)) := F2kr.out.cell 1
  have fkr1 : (w2).frozen? ⟨w.heap.size, 1, none⟩ = false := F2kr.out.frozen 1
  have pkx0 : (w2).cell? ⟨w.heap.size + 1, 0, none⟩ = some (.bool x.neg) := F2kx.out.cell 0
  have fkx0 : (w2).frozen? ⟨w.heap.size + 1, 0, none⟩ = false := F2kx.out.frozen 0
  have pkx1 : (w2).cell? ⟨w.heap.size + 1, 1, none⟩ = some (.slice A m c) := F2kx.out.cell 1
  have fkx1 : (w2).frozen? ⟨w.heap.size + 1, 1, none⟩ = false := F2kx.out.frozen 1
  have pkx2 : (w2).cell? ⟨w.heap.size + 1, 2, none⟩ = some (.int .i64 x.e) := F2kx.out.cell 2
  have fkx2 : (w2).frozen? ⟨w.heap.size + 1, 2, none⟩ = false := F2kx.out.frozen 2
  go_wp2_with fail
  refine (valid02_yes x A m c w2 F2x.out VX.out).mono ?_
  rintro e w3 ⟨rfl, HB3⟩
  have F3x := Lib.hid (F2x.out.belowW HB3.out)
  have F3kr := Lib.hid (F2kr.out.belowW HB3.out)
  have F3kx := Lib.hid (F2kx.out.belowW HB3.out)
  have HL3 := Lib.hid (HL2.out.trans (HB3.out.mono HL2.out.size))
  clear pkr0 fkr0 pkr1 fkr1 pkx0 fkx0 pkx1 fkx1 pkx2 fkx2
  have pkr0 : (w3).cell? ⟨w.heap.size, 0, none⟩ = some (.int .i64 n) := F3kr.out.cell 0
  have fkr0 : (w3).frozen? ⟨w.heap.size, 0, none⟩ = false := F3kr.out.frozen 0
  have pkr1 : (w3).cell? ⟨w.heap.size, 1, none⟩ = some (.int .i64 (q : Int)) := F3kr.out.cell 1
  have fkr1 : (w3).frozen? ⟨w.heap.size, 1, none⟩ = false := F3kr.out.frozen 1
  have pkx0 : (w3).cell? ⟨w.heap.size + 1, 0, none⟩ = some (.bool x.neg) := F3kx.out.cell 0
  have fkx0 : (w3).frozen? ⟨w.heap.size + 1, 0, none⟩ = false := F3kx.out.frozen 0
  have pkx1 : (w3).cell? ⟨w.heap.size + 1, 1, none⟩ = some (.slice A m c) := F3kx.out.cell 1
  have fkx1 : (w3).frozen? ⟨w.heap.size + 1, 1, none⟩ = false := F3kx.out.frozen 1
  have pkx2 : (w3).cell? ⟨w.heap.size + 1, 2, none⟩ = some (.int .i64 x.e) := F3kx.out.cell 2
  have fkx2 : (w3).frozen? ⟨w.heap.size + 1, 2, none⟩ = false := F3kx.out.frozen 2
  go_wp2_with fail
  have HR4 := Lib.hid (below_dr w3)
  have R4x := Lib.hid (F3x.out.belowW HR4.out)
  have R4kr := Lib.hid (F3kr.out.belowW HR4.out)
  have R4kx := Lib.hid (F3kx.out.belowW HR4.out)
  have c4kr0 : w3.drew.cell? ⟨w.heap.size, 0, none⟩ = some (.int .i64 n) := R4kr.out.cell 0
  have c4kr1 : w3.drew.cell? ⟨w.heap.size, 1, none⟩ = some (.int .i64 (q : Int)) := R4kr.out.cell 1
  have c4kx0 : w3.drew.cell? ⟨w.heap.size + 1, 0, none⟩ = some (.bool x.neg) := R4kx.out.cell 0
  have c4kx1 : w3.drew.cell? ⟨w.heap.size + 1, 1, none⟩ = some (.slice A m c) := R4kx.out.cell 1
  have c4kx2 : w3.drew.cell? ⟨w.heap.size + 1, 2, none⟩ = some (.int .i64 x.e) := R4kx.out.cell 2
  go_region_held3 (fun w' => w'.cell? ⟨w.heap.size, 0, none⟩ = some (.int .i64 n) ∧ w'.cell? ⟨w.heap.size, 1, none⟩ = some (.int .i64 (q : Int)) ∧ w'.cell? ⟨w.heap.size + 1, 0, none⟩ = some (.bool x.neg) ∧ w'.cell? ⟨w.heap.size + 1, 1, none⟩ = some (.slice A m c) ∧ w'.cell? ⟨w.heap.size + 1, 2, none⟩ = some (.int .i64 x.e)) ((with_reducible refine ⟨?_, ?_, ?_, ?_, ?_⟩) <;> (with_reducible assumption)) (first
    | (go_at_call 72
       (with_reducible refine (order_r n 0 _).mono ?_)
       rw [HS.out]
       rintro e w5 ⟨rfl, hr⟩
       have HC5 := Lib.hid (show Below w3.drew.heap.size w3.drew w5 by rw [← hr]; exact Below.refl _ _)
       clear hr
       have R5x := Lib.hid (R4x.out.belowW HC5.out)
       have R5kr := Lib.hid (R4kr.out.belowW HC5.out)
       have R5kx := Lib.hid (R4kx.out.belowW HC5.out)
       have HR5 := Lib.hid (HR4.out.trans (HC5.out.mono HR4.out.size))
       have c5kr0 : w5.cell? ⟨w.heap.size, 0, none⟩ = some (.int .i64 n) := R5kr.out.cell 0
       have c5kr1 : w5.cell? ⟨w.heap.size, 1, none⟩ = some (.int .i64 (q : Int)) := R5kr.out.cell 1
       have c5kx0 : w5.cell? ⟨w.heap.size + 1, 0, none⟩ = some (.bool x.neg) := R5kx.out.cell 0
       have c5kx1 : w5.cell? ⟨w.heap.size + 1, 1, none⟩ = some (.slice A m c) := R5kx.out.cell 1
       have c5kx2 : w5.cell? ⟨w.heap.size + 1, 2, none⟩ = some (.int .i64 x.e) := R5kx.out.cell 2)
    | (go_at_call 73
       (with_reducible refine (sign_r x A m c _ R5x.out).mono ?_)
       rw [HTT.out]
       rintro e w6 ⟨rfl, HC6⟩
       have R6x := Lib.hid (R5x.out.belowW HC6.out)
       have R6kr := Lib.hid (R5kr.out.belowW HC6.out)
       have R6kx := Lib.hid (R5kx.out.belowW HC6.out)
       have HR6 := Lib.hid (HR5.out.trans (HC6.out.mono HR5.out.size))
       have c6kr0 : w6.cell? ⟨w.heap.size, 0, none⟩ = some (.int .i64 n) := R6kr.out.cell 0
       have c6kr1 : w6.cell? ⟨w.heap.size, 1, none⟩ = some (.int .i64 (q : Int)) := R6kr.out.cell 1
       have c6kx0 : w6.cell? ⟨w.heap.size + 1, 0, none⟩ = some (.bool x.neg) := R6kx.out.cell 0
       have c6kx1 : w6.cell? ⟨w.heap.size + 1, 1, none⟩ = some (.slice A m c) := R6kx.out.cell 1
       have c6kx2 : w6.cell? ⟨w.heap.size + 1, 2, none⟩ = some (.int .i64 x.e) := R6kx.out.cell 2))
  have HL6 := Lib.hid (HL3.out.trans (HR6.out.mono HL3.out.size))
  clear pkr0 fkr0 pkr1 fkr1 pkx0 fkx0 pkx1 fkx1 pkx2 fkx2
  have pkr0 : (w6).cell? ⟨w.heap.size, 0, none⟩ = some (.int .i64 n) := R6kr.out.cell 0
  have fkr0 : (w6).frozen? ⟨w.heap.size, 0, none⟩ = false := R6kr.out.frozen 0
  have pkr1 : (w6).cell? ⟨w.heap.size, 1, none⟩ = some (.int .i64 (q : Int)) := R6kr.out.cell 1
  have fkr1 : (w6).frozen? ⟨w.heap.size, 1, none⟩ = false := R6kr.out.frozen 1
  have pkx0 : (w6).cell? ⟨w.heap.size + 1, 0, none⟩ = some (.bool x.neg) := R6kx.out.cell 0
  have fkx0 : (w6).frozen? ⟨w.heap.size + 1, 0, none⟩ = false := R6kx.out.frozen 0
  have pkx1 : (w6).cell? ⟨w.heap.size + 1, 1, none⟩ = some (.slice A m c) := R6kx.out.cell 1
  have fkx1 : (w6).frozen? ⟨w.heap.size + 1, 1, none⟩ = false := R6kx.out.frozen 1
  have pkx2 : (w6).cell? ⟨w.heap.size + 1, 2, none⟩ = some (.int .i64 x.e) := R6kx.out.cell 2
  have fkx2 : (w6).frozen? ⟨w.heap.size + 1, 2, none⟩ = false := R6kx.out.frozen 2
  by_cases k1 : s = t
  · subst k1
    by_cases k2 : s = 0
    · subst k2
      have HF := Lib.hid (show cmpRD n q x = 0 by rw [HR.out]; rfl)
      go_wp2_with fail
      refine (order_r 0 0 w6).mono ?_
      rintro e w' ⟨rfl, rfl⟩
      go_wp2_with fail
      refine bodyPost_ret (v := .tuple #[.int .i64 (cmpI 0 0), .int .i64 0]) (by simp [results, Tryz.results37, go_sem]) rfl ?_
      exact ⟨by rw [HF.out]; rfl, HL6⟩
    · have d2 : (s == 0) = false := by rw [beq_eq_false_iff_ne]; exact k2
      have HF := Lib.hid (show s * z = cmpRD n q x by rw [HR.out, if_neg (by omega), if_neg (by omega), if_neg k2])
      have ZX := Lib.hid (KT.out k2)
      have ZN := Lib.hid (show val [N, N / 4294967296] ≠ 0 by rw [val_two N1]; have := KS.out k2; have := HN.out; omega)
      have sz : IntKind.i64.wrap (s * z) = s * z := IntWalk.i64_in _ (by have h := mul_small s1 z1; omega)
      have L2 : 2 ≤ 1000 := by decide
      have uq : IntKind.u64.wrap (q : Int) = (q : Int) := by rw [IntKind.wrap_u64]; omega
      have L3 : m + 1 ≤ 1000 := by have := LX.out; omega
      have L4 : m ≤ 1000 := by omega
      have o0 : (-100000 : Int) ≤ 0 := by decide
      have o1 : (0 : Int) ≤ 100000 := by decide
      have o2 : -100000 ≤ x.e := by omega
      have o3 : x.e ≤ 100000 := by omega
      clear k2
      go_wp2_with fail
      have HR7 := Lib.hid (below_dr w6)
      have R7x := Lib.hid (R6x.out.belowW HR7.out)
      have R7kr := Lib.hid (R6kr.out.belowW HR7.out)
      have R7kx := Lib.hid (R6kx.out.belowW HR7.out)
      have c7kr0 : w6.drew.cell? ⟨w.heap.size, 0, none⟩ = some (.int .i64 n) := R7kr.out.cell 0
      have c7kr1 : w6.drew.cell? ⟨w.heap.size, 1, none⟩ = some (.int .i64 (q : Int)) := R7kr.out.cell 1
      have c7kx0 : w6.drew.cell? ⟨w.heap.size + 1, 0, none⟩ = some (.bool x.neg) := R7kx.out.cell 0
      have c7kx1 : w6.drew.cell? ⟨w.heap.size + 1, 1, none⟩ = some (.slice A m c) := R7kx.out.cell 1
      have c7kx2 : w6.drew.cell? ⟨w.heap.size + 1, 2, none⟩ = some (.int .i64 x.e) := R7kx.out.cell 2
      go_region_held3 (fun w' => w'.cell? ⟨w.heap.size, 0, none⟩ = some (.int .i64 n) ∧ w'.cell? ⟨w.heap.size, 1, none⟩ = some (.int .i64 (q : Int)) ∧ w'.cell? ⟨w.heap.size + 1, 0, none⟩ = some (.bool x.neg) ∧ w'.cell? ⟨w.heap.size + 1, 1, none⟩ = some (.slice A m c) ∧ w'.cell? ⟨w.heap.size + 1, 2, none⟩ = some (.int .i64 x.e)) ((with_reducible refine ⟨?_, ?_, ?_, ?_, ?_⟩) <;> (with_reducible assumption)) (first
        | (go_at_call 51
           (with_reducible refine (size_r n _ h1 h2).mono ?_)
           rw [HN.out]
           rintro e w8 ⟨rfl, hr⟩
           have HC8 := Lib.hid (show Below w6.drew.heap.size w6.drew w8 by rw [← hr]; exact Below.refl _ _)
           clear hr
           have R8x := Lib.hid (R7x.out.belowW HC8.out)
           have R8kr := Lib.hid (R7kr.out.belowW HC8.out)
           have R8kx := Lib.hid (R7kx.out.belowW HC8.out)
           have HR8 := Lib.hid (HR7.out.trans (HC8.out.mono HR7.out.size))
           have c8kr0 : w8.cell? ⟨w.heap.size, 0, none⟩ = some (.int .i64 n) := R8kr.out.cell 0
           have c8kr1 : w8.cell? ⟨w.heap.size, 1, none⟩ = some (.int .i64 (q : Int)) := R8kr.out.cell 1
           have c8kx0 : w8.cell? ⟨w.heap.size + 1, 0, none⟩ = some (.bool x.neg) := R8kx.out.cell 0
           have c8kx1 : w8.cell? ⟨w.heap.size + 1, 1, none⟩ = some (.slice A m c) := R8kx.out.cell 1
           have c8kx2 : w8.cell? ⟨w.heap.size + 1, 2, none⟩ = some (.int .i64 x.e) := R8kx.out.cell 2)
        | (go_at_call 75
           (with_reducible refine (limbs_r N _ N1).mono ?_)
           rintro e w9 ⟨P, rfl, HP, HC9⟩
           have R9x := Lib.hid (R8x.out.belowW HC9.out)
           have R9kr := Lib.hid (R8kr.out.belowW HC9.out)
           have R9kx := Lib.hid (R8kx.out.belowW HC9.out)
           have HR9 := Lib.hid (HR8.out.trans (HC9.out.mono HR8.out.size))
           have R9p := Lib.hid (HP.out)
           have c9kr0 : w9.cell? ⟨w.heap.size, 0, none⟩ = some (.int .i64 n) := R9kr.out.cell 0
           have c9kr1 : w9.cell? ⟨w.heap.size, 1, none⟩ = some (.int .i64 (q : Int)) := R9kr.out.cell 1
           have c9kx0 : w9.cell? ⟨w.heap.size + 1, 0, none⟩ = some (.bool x.neg) := R9kx.out.cell 0
           have c9kx1 : w9.cell? ⟨w.heap.size + 1, 1, none⟩ = some (.slice A m c) := R9kx.out.cell 1
           have c9kx2 : w9.cell? ⟨w.heap.size + 1, 2, none⟩ = some (.int .i64 x.e) := R9kx.out.cell 2)
        | (go_at_call 76
           (with_reducible refine (times_r A m c q _ _ R9x.out L4 q1).mono ?_)
           rw [val_limbs]
           rintro e w10 ⟨R, cr, lm, rfl, HRR, HVV, HC10⟩
           have R10x := Lib.hid (R9x.out.belowW HC10.out)
           have R10kr := Lib.hid (R9kr.out.belowW HC10.out)
           have R10kx := Lib.hid (R9kx.out.belowW HC10.out)
           have R10p := Lib.hid (R9p.out.belowW HC10.out)
           have HR10 := Lib.hid (HR9.out.trans (HC10.out.mono HR9.out.size))
           have R10r := Lib.hid (HRR.out)
           have c10kr0 : w10.cell? ⟨w.heap.size, 0, none⟩ = some (.int .i64 n) := R10kr.out.cell 0
           have c10kr1 : w10.cell? ⟨w.heap.size, 1, none⟩ = some (.int .i64 (q : Int)) := R10kr.out.cell 1
           have c10kx0 : w10.cell? ⟨w.heap.size + 1, 0, none⟩ = some (.bool x.neg) := R10kx.out.cell 0
           have c10kx1 : w10.cell? ⟨w.heap.size + 1, 1, none⟩ = some (.slice A m c) := R10kx.out.cell 1
           have c10kx2 : w10.cell? ⟨w.heap.size + 1, 2, none⟩ = some (.int .i64 x.e) := R10kx.out.cell 2
           have ZR := Lib.hid (show val lm ≠ 0 by rw [HVV.out]; exact Nat.mul_ne_zero ZX.out (Nat.ne_of_gt q2))
           have ZZ := Lib.hid (HZ.out lm HVV.out))
        | (go_at_call 74
           (with_reducible refine (magnitude_r P R 2 2 (m + 1) cr _ lm 0 x.e _ R10p.out R10r.out L2 L3 ZN.out ZR.out o0 o1 o2 o3).mono ?_)
           rw [ZZ.out]
           rintro e w11 ⟨rfl, HC11⟩
           have R11x := Lib.hid (R10x.out.belowW HC11.out)
           have R11kr := Lib.hid (R10kr.out.belowW HC11.out)
           have R11kx := Lib.hid (R10kx.out.belowW HC11.out)
           have R11p := Lib.hid (R10p.out.belowW HC11.out)
           have R11r := Lib.hid (R10r.out.belowW HC11.out)
           have HR11 := Lib.hid (HR10.out.trans (HC11.out.mono HR10.out.size))
           have c11kr0 : w11.cell? ⟨w.heap.size, 0, none⟩ = some (.int .i64 n) := R11kr.out.cell 0
           have c11kr1 : w11.cell? ⟨w.heap.size, 1, none⟩ = some (.int .i64 (q : Int)) := R11kr.out.cell 1
           have c11kx0 : w11.cell? ⟨w.heap.size + 1, 0, none⟩ = some (.bool x.neg) := R11kx.out.cell 0
           have c11kx1 : w11.cell? ⟨w.heap.size + 1, 1, none⟩ = some (.slice A m c) := R11kx.out.cell 1
           have c11kx2 : w11.cell? ⟨w.heap.size + 1, 2, none⟩ = some (.int .i64 x.e) := R11kx.out.cell 2))
      have HL11 := Lib.hid (HL6.out.trans (HR11.out.mono HL6.out.size))
      go_wp2_with fail
      refine bodyPost_ret (v := .tuple #[.int .i64 (s * z), .int .i64 0]) (by simp [results, Tryz.results37, go_sem]) rfl ?_
      exact ⟨by rw [HF.out], HL11⟩
  · have d1 : (s == t) = false := by rw [beq_eq_false_iff_ne]; exact k1
    have d1' : (s != t) = true := by rw [bne_iff_ne]; exact k1
    have HF := Lib.hid (show cmpI s t = cmpRD n q x by rw [HR.out]; unfold cmpI; by_cases hh : s < t; (rw [if_pos hh, if_pos hh]); rw [if_neg hh, if_neg hh, if_pos (by omega), if_pos (by omega)])
    clear k1
    go_wp2_with fail
    refine (order_r s t w6).mono ?_
    rw [HF.out]
    rintro e w' ⟨rfl, rfl⟩
    go_wp2_with fail
    refine bodyPost_ret (v := .tuple #[.int .i64 (cmpRD n q x), .int .i64 0]) (by simp [results, Tryz.results37, go_sem]) rfl ?_
    exact ⟨rfl, HL6⟩

set_option maxHeartbeats 1000000 in
theorem cmp_r (an ad bn bd : Int) (w : World) (a1 : -9223372036854775808 ≤ an) (a2 : an ≤ 9223372036854775807) (a3 : -9223372036854775808 ≤ ad) (a4 : ad ≤ 9223372036854775807) (b1 : -9223372036854775808 ≤ bn) (b2 : bn ≤ 9223372036854775807) (b3 : -9223372036854775808 ≤ bd) (b4 : bd ≤ 9223372036854775807) :
    Calls Tryz.prog 38 #[.agg #[.int .i64 an, .int .i64 ad], .agg #[.int .i64 bn, .int .i64 bd]] w (Ret (.int .i64 (cmpE an ad bn bd)) w) := by
  cases va : vB an ad with
  | false =>
    have VA := Lib.hid va
    have HR := Lib.hid (show cmpE an ad bn bd = 0 by unfold cmpE; rw [va]; rfl)
    clear va
    go_enter Tryz.func38, Tryz.ntmps38
    go_wp2_with fail
    obtain ⟨w1, hw⟩ : ∃ z9 : World, z9 = ((w.alloc (.cells #[.int .i64 an, .int .i64 ad] 23)).alloc (.cells #[.int .i64 bn, .int .i64 bd] 23)) := ⟨_, rfl⟩
    have HB1 := Lib.hid (show Below w.heap.size w w1 by rw [hw]; exact below_a2 _ _ _)
    have F1ka := Lib.hid (show Blk w1 (w.heap.size) 23 #[.int .i64 an, .int .i64 ad] by rw [hw]; exact (Blk.new _ _ _).alloc _)
    have F1kb := Lib.hid (show Blk w1 (w.heap.size + 1) 23 #[.int .i64 bn, .int .i64 bd] by rw [hw]; exact Blk.new1 _ _ _ _)
    rw [← hw]
    clear hw
    have pka0 : (w1).cell? ⟨w.heap.size, 0, none⟩ = some (.int .i64 an) := F1ka.out.cell 0
    have fka0 : (w1).frozen? ⟨w.heap.size, 0, none⟩ = false := F1ka.out.frozen 0
    have pka1 : (w1).cell? ⟨w.heap.size, 1, none⟩ = some (.int .i64 ad) := F1ka.out.cell 1
    have fka1 : (w1).frozen? ⟨w.heap.size, 1, none⟩ = false := F1ka.out.frozen 1
    have pkb0 : (w1).cell? ⟨w.heap.size + 1, 0, none⟩ = some (.int .i64 bn) := F1kb.out.cell 0
    have fkb0 : (w1).frozen? ⟨w.heap.size + 1, 0, none⟩ = false := F1kb.out.frozen 0
    have pkb1 : (w1).cell? ⟨w.heap.size + 1, 1, none⟩ = some (.int .i64 bd) := F1kb.out.cell 1
    have fkb1 : (w1).frozen? ⟨w.heap.size + 1, 1, none⟩ = false := F1kb.out.frozen 1
    go_wp2_with fail
    refine (valid_r an ad w1 a1 a2 a3 a4).mono ?_
    rw [VA.out]
    rintro e w2 ⟨rfl, HB2⟩
    have F2ka := Lib.hid (F1ka.out.belowW HB2.out)
    have F2kb := Lib.hid (F1kb.out.belowW HB2.out)
    have HL2 := Lib.hid (HB1.out.trans (HB2.out.mono HB1.out.size))
    clear pka0 fka0 pka1 fka1 pkb0 fkb0 pkb1 fkb1
    have pka0 : (w2).cell? ⟨w.heap.size, 0, none⟩ = some (.int .i64 an) := F2ka.out.cell 0
    have fka0 : (w2).frozen? ⟨w.heap.size, 0, none⟩ = false := F2ka.out.frozen 0
    have pka1 : (w2).cell? ⟨w.heap.size, 1, none⟩ = some (.int .i64 ad) := F2ka.out.cell 1
    have fka1 : (w2).frozen? ⟨w.heap.size, 1, none⟩ = false := F2ka.out.frozen 1
    have pkb0 : (w2).cell? ⟨w.heap.size + 1, 0, none⟩ = some (.int .i64 bn) := F2kb.out.cell 0
    have fkb0 : (w2).frozen? ⟨w.heap.size + 1, 0, none⟩ = false := F2kb.out.frozen 0
    have pkb1 : (w2).cell? ⟨w.heap.size + 1, 1, none⟩ = some (.int .i64 bd) := F2kb.out.cell 1
    have fkb1 : (w2).frozen? ⟨w.heap.size + 1, 1, none⟩ = false := F2kb.out.frozen 1
    go_wp2_with fail
    go_ret
    exact ⟨ret_int HR.out.symm, HL2⟩
  | true =>
    have VA := Lib.hid va
    cases vb : vB bn bd with
    | false =>
      have VB := Lib.hid vb
      have HR := Lib.hid (show cmpE an ad bn bd = 0 by unfold cmpE; rw [vb, Bool.and_false]; rfl)
      clear va vb
      go_enter Tryz.func38, Tryz.ntmps38
      go_wp2_with fail
      obtain ⟨w1, hw⟩ : ∃ z9 : World, z9 = ((w.alloc (.cells #[.int .i64 an, .int .i64 ad] 23)).alloc (.cells #[.int .i64 bn, .int .i64 bd] 23)) := ⟨_, rfl⟩
      have HB1 := Lib.hid (show Below w.heap.size w w1 by rw [hw]; exact below_a2 _ _ _)
      have F1ka := Lib.hid (show Blk w1 (w.heap.size) 23 #[.int .i64 an, .int .i64 ad] by rw [hw]; exact (Blk.new _ _ _).alloc _)
      have F1kb := Lib.hid (show Blk w1 (w.heap.size + 1) 23 #[.int .i64 bn, .int .i64 bd] by rw [hw]; exact Blk.new1 _ _ _ _)
      rw [← hw]
      clear hw
      have pka0 : (w1).cell? ⟨w.heap.size, 0, none⟩ = some (.int .i64 an) := F1ka.out.cell 0
      have fka0 : (w1).frozen? ⟨w.heap.size, 0, none⟩ = false := F1ka.out.frozen 0
      have pka1 : (w1).cell? ⟨w.heap.size, 1, none⟩ = some (.int .i64 ad) := F1ka.out.cell 1
      have fka1 : (w1).frozen? ⟨w.heap.size, 1, none⟩ = false := F1ka.out.frozen 1
      have pkb0 : (w1).cell? ⟨w.heap.size + 1, 0, none⟩ = some (.int .i64 bn) := F1kb.out.cell 0
      have fkb0 : (w1).frozen? ⟨w.heap.size + 1, 0, none⟩ = false := F1kb.out.frozen 0
      have pkb1 : (w1).cell? ⟨w.heap.size + 1, 1, none⟩ = some (.int .i64 bd) := F1kb.out.cell 1
      have fkb1 : (w1).frozen? ⟨w.heap.size + 1, 1, none⟩ = false := F1kb.out.frozen 1
      go_wp2_with fail
      refine (valid_r an ad w1 a1 a2 a3 a4).mono ?_
      rw [VA.out]
      rintro e w2 ⟨rfl, HB2⟩
      have F2ka := Lib.hid (F1ka.out.belowW HB2.out)
      have F2kb := Lib.hid (F1kb.out.belowW HB2.out)
      have HL2 := Lib.hid (HB1.out.trans (HB2.out.mono HB1.out.size))
      clear pka0 fka0 pka1 fka1 pkb0 fkb0 pkb1 fkb1
      have pka0 : (w2).cell? ⟨w.heap.size, 0, none⟩ = some (.int .i64 an) := F2ka.out.cell 0
      have fka0 : (w2).frozen? ⟨w.heap.size, 0, none⟩ = false := F2ka.out.frozen 0
      have pka1 : (w2).cell? ⟨w.heap.size, 1, none⟩ = some (.int .i64 ad) := F2ka.out.cell 1
      have fka1 : (w2).frozen? ⟨w.heap.size, 1, none⟩ = false := F2ka.out.frozen 1
      have pkb0 : (w2).cell? ⟨w.heap.size + 1, 0, none⟩ = some (.int .i64 bn) := F2kb.out.cell 0
      have fkb0 : (w2).frozen? ⟨w.heap.size + 1, 0, none⟩ = false := F2kb.out.frozen 0
      have pkb1 : (w2).cell? ⟨w.heap.size + 1, 1, none⟩ = some (.int .i64 bd) := F2kb.out.cell 1
      have fkb1 : (w2).frozen? ⟨w.heap.size + 1, 1, none⟩ = false := F2kb.out.frozen 1
      go_wp2_with fail
      refine (valid_r bn bd w2 b1 b2 b3 b4).mono ?_
      rw [VB.out]
      rintro e w3 ⟨rfl, HB3⟩
      have F3ka := Lib.hid (F2ka.out.belowW HB3.out)
      have F3kb := Lib.hid (F2kb.out.belowW HB3.out)
      have HL3 := Lib.hid (HL2.out.trans (HB3.out.mono HL2.out.size))
      clear pka0 fka0 pka1 fka1 pkb0 fkb0 pkb1 fkb1
      have pka0 : (w3).cell? ⟨w.heap.size, 0, none⟩ = some (.int .i64 an) := F3ka.out.cell 0
      have fka0 : (w3).frozen? ⟨w.heap.size, 0, none⟩ = false := F3ka.out.frozen 0
      have pka1 : (w3).cell? ⟨w.heap.size, 1, none⟩ = some (.int .i64 ad) := F3ka.out.cell 1
      have fka1 : (w3).frozen? ⟨w.heap.size, 1, none⟩ = false := F3ka.out.frozen 1
      have pkb0 : (w3).cell? ⟨w.heap.size + 1, 0, none⟩ = some (.int .i64 bn) := F3kb.out.cell 0
      have fkb0 : (w3).frozen? ⟨w.heap.size + 1, 0, none⟩ = false := F3kb.out.frozen 0
      have pkb1 : (w3).cell? ⟨w.heap.size + 1, 1, none⟩ = some (.int .i64 bd) := F3kb.out.cell 1
      have fkb1 : (w3).frozen? ⟨w.heap.size + 1, 1, none⟩ = false := F3kb.out.frozen 1
      go_wp2_with fail
      go_ret
      exact ⟨ret_int HR.out.symm, HL3⟩
    | true =>
      have VB := Lib.hid vb
      have ba := vB_bd va
      have bb := vB_bd vb
      have m0 := mulR_bd (a := an) (b := bd) (by omega) (by omega) (by omega) (by omega)
      have m1 := mulR_bd (a := bn) (b := ad) (by omega) (by omega) (by omega) (by omega)
      have HR := Lib.hid (show cmpI (an * bd) (bn * ad) = cmpE an ad bn bd by unfold cmpE cmpR cmpI; rw [va, vb]; rfl)
      clear va vb
      have s0 : IntKind.i64.wrap (an * bd) = an * bd := IntWalk.i64_in _ (by omega)
      have s1 : IntKind.i64.wrap (bn * ad) = bn * ad := IntWalk.i64_in _ (by omega)
      go_enter Tryz.func38, Tryz.ntmps38
      go_wp2_with fail
      obtain ⟨w1, hw⟩ : ∃ z9 : World, z9 = ((w.alloc (.cells #[.int .i64 an, .int .i64 ad] 23)).alloc (.cells #[.int .i64 bn, .int .i64 bd] 23)) := ⟨_, rfl⟩
      have HB1 := Lib.hid (show Below w.heap.size w w1 by rw [hw]; exact below_a2 _ _ _)
      have F1ka := Lib.hid (show Blk w1 (w.heap.size) 23 #[.int .i64 an, .int .i64 ad] by rw [hw]; exact (Blk.new _ _ _).alloc _)
      have F1kb := Lib.hid (show Blk w1 (w.heap.size + 1) 23 #[.int .i64 bn, .int .i64 bd] by rw [hw]; exact Blk.new1 _ _ _ _)
      rw [← hw]
      clear hw
      have pka0 : (w1).cell? ⟨w.heap.size, 0, none⟩ = some (.int .i64 an) := F1ka.out.cell 0
      have fka0 : (w1).frozen? ⟨w.heap.size, 0, none⟩ = false := F1ka.out.frozen 0
      have pka1 : (w1).cell? ⟨w.heap.size, 1, none⟩ = some (.int .i64 ad) := F1ka.out.cell 1
      have fka1 : (w1).frozen? ⟨w.heap.size, 1, none⟩ = false := F1ka.out.frozen 1
      have pkb0 : (w1).cell? ⟨w.heap.size + 1, 0, none⟩ = some (.int .i64 bn) := F1kb.out.cell 0
      have fkb0 : (w1).frozen? ⟨w.heap.size + 1, 0, none⟩ = false := F1kb.out.frozen 0
      have pkb1 : (w1).cell? ⟨w.heap.size + 1, 1, none⟩ = some (.int .i64 bd) := F1kb.out.cell 1
      have fkb1 : (w1).frozen? ⟨w.heap.size + 1, 1, none⟩ = false := F1kb.out.frozen 1
      go_wp2_with fail
      refine (valid_r an ad w1 a1 a2 a3 a4).mono ?_
      rw [VA.out]
      rintro e w2 ⟨rfl, HB2⟩
      have F2ka := Lib.hid (F1ka.out.belowW HB2.out)
      have F2kb := Lib.hid (F1kb.out.belowW HB2.out)
      have HL2 := Lib.hid (HB1.out.trans (HB2.out.mono HB1.out.size))
      clear pka0 fka0 pka1 fka1 pkb0 fkb0 pkb1 fkb1
      have pka0 : (w2).cell? ⟨w.heap.size, 0, none⟩ = some (.int .i64 an) := F2ka.out.cell 0
      have fka0 : (w2).frozen? ⟨w.heap.size, 0, none⟩ = false := F2ka.out.frozen 0
      have pka1 : (w2).cell? ⟨w.heap.size, 1, none⟩ = some (.int .i64 ad) := F2ka.out.cell 1
      have fka1 : (w2).frozen? ⟨w.heap.size, 1, none⟩ = false := F2ka.out.frozen 1
      have pkb0 : (w2).cell? ⟨w.heap.size + 1, 0, none⟩ = some (.int .i64 bn) := F2kb.out.cell 0
      have fkb0 : (w2).frozen? ⟨w.heap.size + 1, 0, none⟩ = false := F2kb.out.frozen 0
      have pkb1 : (w2).cell? ⟨w.heap.size + 1, 1, none⟩ = some (.int .i64 bd) := F2kb.out.cell 1
      have fkb1 : (w2).frozen? ⟨w.heap.size + 1, 1, none⟩ = false := F2kb.out.frozen 1
      go_wp2_with fail
      refine (valid_r bn bd w2 b1 b2 b3 b4).mono ?_
      rw [VB.out]
      rintro e w3 ⟨rfl, HB3⟩
      have F3ka := Lib.hid (F2ka.out.belowW HB3.out)
      have F3kb := Lib.hid (F2kb.out.belowW HB3.out)
      have HL3 := Lib.hid (HL2.out.trans (HB3.out.mono HL2.out.size))
      clear pka0 fka0 pka1 fka1 pkb0 fkb0 pkb1 fkb1
      have pka0 : (w3).cell? ⟨w.heap.size, 0, none⟩ = some (.int .i64 an) := F3ka.out.cell 0
      have fka0 : (w3).frozen? ⟨w.heap.size, 0, none⟩ = false := F3ka.out.frozen 0
      have pka1 : (w3).cell? ⟨w.heap.size, 1, none⟩ = some (.int .i64 ad) := F3ka.out.cell 1
      have fka1 : (w3).frozen? ⟨w.heap.size, 1, none⟩ = false := F3ka.out.frozen 1
      have pkb0 : (w3).cell? ⟨w.heap.size + 1, 0, none⟩ = some (.int .i64 bn) := F3kb.out.cell 0
      have fkb0 : (w3).frozen? ⟨w.heap.size + 1, 0, none⟩ = false := F3kb.out.frozen 0
      have pkb1 : (w3).cell? ⟨w.heap.size + 1, 1, none⟩ = some (.int .i64 bd) := F3kb.out.cell 1
      have fkb1 : (w3).frozen? ⟨w.heap.size + 1, 1, none⟩ = false := F3kb.out.frozen 1
      go_wp2_with fail
      refine (order_r (an * bd) (bn * ad) w3).mono ?_
      rw [HR.out]
      rintro e w' ⟨rfl, rfl⟩
      go_wp2_with fail
      go_ret
      exact ⟨rfl, HL3⟩
end Go.Proofs.YtnogfceojmnjiaaGreatDoor
