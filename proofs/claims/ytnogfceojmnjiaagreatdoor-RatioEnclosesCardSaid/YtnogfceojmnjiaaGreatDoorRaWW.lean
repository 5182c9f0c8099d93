/-
  The walks of flowpiperef02.bits and Valid.
  The walks of the reference's bits and bit.
  The walks of the reference's order and magnitude.
  The walk of the reference's times.
-/
import Derived.Test.YtnogfceojmnjiaaGreatDoorDyD
import Derived.Test.YtnogfceojmnjiaaGreatDoorNumE
import Derived.Test.YtnogfceojmnjiaaGreatDoorNumJ
import Derived.Deep.AppendLies
set_option linter.unusedVariables false
namespace Go.Fl.Dy
open Go.Fl.Nm
theorem blen_half {x : Nat} (h : x ≠ 0) : blen x = blen (x / 2) + 1 := by
  by_cases h2 : x / 2 = 0
  · obtain rfl : x = 1 := by omega
    rfl
  · have e := blen_mul (x := x / 2) (k := 1) (r := x % 2) h2 (by omega)
    rw [show 2 ^ 1 * (x / 2) + x % 2 = x by omega] at e
    omega
theorem blen_top {l : List Nat} {y : Nat} (h : ok l) (hn : l ≠ []) (hy : l[l.length - 1]? = some y) (h0 : y ≠ 0) : blen (val l) = 32 * (l.length - 1) + blen y := by
  have hp : 0 < l.length := by cases l with | nil => exact absurd rfl hn | cons a t => simp
  have ht : tl l = l.length := tl_unique (Nat.le_refl _) (by simp) (fun x _ hx => by rw [hy] at hx; injection hx with hx; rw [← hx]; exact h0)
  have := blen_val (x := y) h (by omega) (by rw [ht]; exact hy)
  rw [ht] at this
  exact this
theorem and_one32 (x : Nat) (h : x < 4294967296) : Go.bits .and .u32 (x : Int) 1 = ((x % 2 : Nat) : Int) := by
  have e := bv_and (BitVec.ofNat 32 x) 1#32
  have h1 : ((BitVec.ofNat 32 x).toNat : Int) = (x : Int) := by rw [BitVec.toNat_ofNat, Nat.mod_eq_of_lt (by omega)]
  rw [h1] at e
  refine Eq.trans e ?_
  rw [BitVec.toNat_and, BitVec.toNat_ofNat, Nat.mod_eq_of_lt (by omega)]
  show ((x &&& 1 : Nat) : Int) = _
  rw [Nat.and_one_is_mod]
end Go.Fl.Dy
namespace Go.Proofs.YtnogfceojmnjiaaGreatDoor
open Go.RowKit Go.Fl Go.Fl.Nm Go.Fl.Dy
set_option maxHeartbeats 1000000 in
theorem bits02_any (b off n c y : Nat) (w : World) (hn : 0 < n) (hn2 : n ≤ 256) (hy : w.cell? ⟨b, off + (n - 1), none⟩ = some (.int .u32 (y : Int))) (hyB : y < 4294967296) :
    Calls Tryz.prog 77 #[.slice (some ⟨b, off, none⟩) n c] w fun e w' => e = .returned (.int .i64 ((32 * (n - 1) + blen y : Nat) : Int)) ∧ w = w' := by
  have dn0 : ((n : Int) == 0) = false := by rw [beq_eq_false_iff_ne]; omega
  have b0 : (0 : Int) ≤ (n : Int) - 1 := by omega
  have b1 : (n : Int) - 1 < n := by omega
  have b2 : ((n : Int) - 1).toNat = n - 1 := by omega
  go_enter Tryz.func77, Tryz.ntmps77
  go_wp2_with fail
  go_loop [3, 4] (fun s x => ∃ (X j : Nat), s = .int .i64 ((32 * (n - 1) + j : Nat) : Int) ∧ x = .int .u32 X ∧ X ≤ y ∧ j ≤ 32 ∧ Hid (blen X + j = blen y)) (fun _ x => (intOf x).toNat)
  case atStart => exact ⟨y, 0, by go_num, rfl, Nat.le_refl _, by omega, Lib.hid (Nat.add_zero _)⟩
  case round =>
    obtain ⟨X, j, rfl, rfl, hX, hj, HJ⟩ := hrel
    by_cases h0 : X = 0
    · subst h0
      have HE := Lib.hid (show j = blen y by rw [← HJ.out, blen_zero, Nat.zero_add])
      go_wp2_with fail
      go_ret
      exact ⟨ret_int (by rw [← HE.out]), rfl⟩
    · have d0 : decide (0 < (X : Int)) = true := decide_eq_true (by omega)
      have HN := Lib.hid (show blen (X / 2) + (j + 1) = blen y by have h1 := HJ.out; have h2 := blen_half h0; omega)
      have hj2 : j + 1 ≤ 32 := by have h1 := HN.out; have h2 : blen y ≤ 32 := blen_le hyB; omega
      go_wp2_with fail
      refine ⟨⟨X / 2, j + 1, ?_, ?_, by omega, hj2, HN⟩, ?_⟩
      · go_num
      · go_num
      · simp [intOf]; omega

set_option maxHeartbeats 2000000 in
theorem valid02_any (ng : Bool) (A : Option Addr) (n c : Nat) (ex : Int) (l : List Nat) (w : World) (h : Sl w A n c l) :
    Calls Tryz.prog 39 #[.agg #[.bool ng, .slice A n c, .int .i64 ex]] w (Ret (.bool (vldL ng l ex)) w) := by
  have H := Lib.hid h
  have hmx := h.max
  unfold maxLen at hmx
  have HLN := Lib.hid h.len
  have HOK := Lib.hid h.ok
  clear h
  by_cases hn0 : n = 0
  · subst hn0
    have HL0 := Lib.hid (List.eq_nil_of_length_eq_zero HLN.out)
    have HR := Lib.hid (show vldL ng l ex = (!ng && decide (ex = 0)) by rw [HL0.out]; exact vldL_nil ng ex)
    cases ng with
    | true =>
      go_enter Tryz.func39, Tryz.ntmps39
      go_wp2_with fail
      obtain ⟨w1, hw⟩ : ∃ z9 : World, z9 = (w.alloc (.cells #[.bool true, .slice A 0 c, .int .i64 ex] 28)) := ⟨_, rfl⟩
      have HB1 := Lib.hid (show Below w.heap.size w w1 by rw [hw]; exact below_a1 _ _)
      have F1a := Lib.hid (H.out.belowW HB1.out)
      have F1d := Lib.hid (show Blk w1 (w.heap.size) 28 #[.bool true, .slice A 0 c, .int .i64 ex] by rw [hw]; exact Blk.new _ _ _)
      rw [← hw]
      clear hw
      have pd0 : (w1).cell? ⟨w.heap.size, 0, none⟩ = some (.bool true) := F1d.out.cell 0
      have fd0 : (w1).frozen? ⟨w.heap.size, 0, none⟩ = false := F1d.out.frozen 0
      have pd1 : (w1).cell? ⟨w.heap.size, 1, none⟩ = some (.slice A 0 c) := F1d.out.cell 1
      have fd1 : (w1).frozen? ⟨w.heap.size, 1, none⟩ = false := F1d.out.frozen 1
      have pd2 : (w1).cell? ⟨w.heap.size, 2, none⟩ = some (.int .i64 ex) := F1d.out.cell 2
      have fd2 : (w1).frozen? ⟨w.heap.size, 2, none⟩ = false := F1d.out.frozen 2
      go_wp2_with fail
      go_ret
      exact ⟨ret_bool (by rw [HR.out]; rfl), HB1⟩
    | false =>
      by_cases he : ex = 0
      · have de : (ex == 0) = true := by simp [he]
        have HR2 := Lib.hid (show vldL false l ex = true by rw [HR.out]; simp [he])
        clear he
        go_enter Tryz.func39, Tryz.ntmps39
        go_wp2_with fail
        obtain ⟨w1, hw⟩ : ∃ z9 : World, z9 = (w.alloc (.cells #[.bool false, .slice A 0 c, .int .i64 ex] 28)) := ⟨_, rfl⟩
        have HB1 := Lib.hid (show Below w.heap.size w w1 by rw [hw]; exact below_a1 _ _)
        have F1a := Lib.hid (H.out.belowW HB1.out)
        have F1d := Lib.hid (show Blk w1 (w.heap.size) 28 #[.bool false, .slice A 0 c, .int .i64 ex] by rw [hw]; exact Blk.new _ _ _)
        rw [← hw]
        clear hw
        have pd0 : (w1).cell? ⟨w.heap.size, 0, none⟩ = some (.bool false) := F1d.out.cell 0
        have fd0 : (w1).frozen? ⟨w.heap.size, 0, none⟩ = false := F1d.out.frozen 0
        have pd1 : (w1).cell? ⟨w.heap.size, 1, none⟩ = some (.slice A 0 c) := F1d.out.cell 1
        have fd1 : (w1).frozen? ⟨w.heap.size, 1, none⟩ = false := F1d.out.frozen 1
        have pd2 : (w1).cell? ⟨w.heap.size, 2, none⟩ = some (.int .i64 ex) := F1d.out.cell 2
        have fd2 : (w1).frozen? ⟨w.heap.size, 2, none⟩ = false := F1d.out.frozen 2
        go_wp2_with fail
        go_ret
        exact ⟨ret_bool (by rw [HR2.out]), HB1⟩
      · have de : (ex == 0) = false := by simp [he]
        have HR2 := Lib.hid (show vldL false l ex = false by rw [HR.out]; simp [he])
        clear he
        go_enter Tryz.func39, Tryz.ntmps39
        go_wp2_with fail
        obtain ⟨w1, hw⟩ : ∃ z9 : World, z9 = (w.alloc (.cells #[.bool false, .slice A 0 c, .int .i64 ex] 28)) := ⟨_, rfl⟩
        have HB1 := Lib.hid (show Below w.heap.size w w1 by rw [hw]; exact below_a1 _ _)
        have F1a := Lib.hid (H.out.belowW HB1.out)
        have F1d := Lib.hid (show Blk w1 (w.heap.size) 28 #[.bool false, .slice A 0 c, .int .i64 ex] by rw [hw]; exact Blk.new _ _ _)
        rw [← hw]
        clear hw
        have pd0 : (w1).cell? ⟨w.heap.size, 0, none⟩ = some (.bool false) := F1d.out.cell 0
        have fd0 : (w1).frozen? ⟨w.heap.size, 0, none⟩ = false := F1d.out.frozen 0
        have pd1 : (w1).cell? ⟨w.heap.size, 1, none⟩ = some (.slice A 0 c) := F1d.out.cell 1
        have fd1 : (w1).frozen? ⟨w.heap.size, 1, none⟩ = false := F1d.out.frozen 1
        have pd2 : (w1).cell? ⟨w.heap.size, 2, none⟩ = some (.int .i64 ex) := F1d.out.cell 2
        have fd2 : (w1).frozen? ⟨w.heap.size, 2, none⟩ = false := F1d.out.frozen 2
        go_wp2_with fail
        go_ret
        exact ⟨ret_bool (by rw [HR2.out]), HB1⟩
  · have dn0 : ((n : Int) == 0) = false := by rw [beq_eq_false_iff_ne]; omega
    obtain ⟨b, off, x, hA, hb, hx, hxB, hx0⟩ := H.out.at_ (i := 0) (by omega)
    obtain ⟨b', off', y, hA', hb', hy, hyB, hy0⟩ := H.out.at_ (i := n - 1) (by omega)
    rw [hA] at hA'
    injection hA' with hA'
    injection hA' with e1 e2
    subst e1 e2 hA
    have HV := Lib.hid (vldL_pos (neg := ng) (e := ex) HOK.out hx (by rw [HLN.out]; exact hy))
    have HT := Lib.hid (fun h0 : y ≠ 0 => blen_top HOK.out (fun e => by have := HLN.out; rw [e] at this; simp at this; omega) (by rw [HLN.out]; exact hy) h0)
    have HZ := Lib.hid (fun h0 : y ≠ 0 => show val l ≠ 0 from fun e => by have h1 := HT.out h0; rw [e, blen_zero] at h1; have := blen_pos h0; omega)
    rw [HLN.out] at HV HT
    clear hx hy hb'
    unfold BB at hxB hyB
    rw [Nat.add_zero] at hx0
    have b0 : (0 : Int) ≤ (n : Int) - 1 := by omega
    have b1 : (n : Int) - 1 < n := by omega
    have b2 : ((n : Int) - 1).toNat = n - 1 := by omega
    by_cases t1 : n ≤ 256
    case neg =>
      have d1 : decide (256 < (n : Int)) = true := decide_eq_true (by omega)
      have HR := Lib.hid (show vldL ng l ex = false by rw [HV.out]; rw [decide_eq_false t1]; rfl)

      go_enter Tryz.func39, Tryz.ntmps39
      go_wp2_with fail
      obtain ⟨w1, hw⟩ : ∃ z9 : World, z9 = (w.alloc (.cells #[.bool ng, .slice (some ⟨b, off, none⟩) n c, .int .i64 ex] 28)) := ⟨_, rfl⟩
      have HB1 := Lib.hid (show Below w.heap.size w w1 by rw [hw]; exact below_a1 _ _)
      have F1a := Lib.hid (H.out.belowW HB1.out)
      have F1d := Lib.hid (show Blk w1 (w.heap.size) 28 #[.bool ng, .slice (some ⟨b, off, none⟩) n c, .int .i64 ex] by rw [hw]; exact Blk.new _ _ _)
      rw [← hw]
      clear hw
      have pd0 : (w1).cell? ⟨w.heap.size, 0, none⟩ = some (.bool ng) := F1d.out.cell 0
      have fd0 : (w1).frozen? ⟨w.heap.size, 0, none⟩ = false := F1d.out.frozen 0
      have pd1 : (w1).cell? ⟨w.heap.size, 1, none⟩ = some (.slice (some ⟨b, off, none⟩) n c) := F1d.out.cell 1
      have fd1 : (w1).frozen? ⟨w.heap.size, 1, none⟩ = false := F1d.out.frozen 1
      have pd2 : (w1).cell? ⟨w.heap.size, 2, none⟩ = some (.int .i64 ex) := F1d.out.cell 2
      have fd2 : (w1).frozen? ⟨w.heap.size, 2, none⟩ = false := F1d.out.frozen 2
      have c0 : w1.cell? ⟨b, off, none⟩ = some (.int .u32 x) := HB1.out.cell (p := ⟨b, off, none⟩) hb ▸ hx0
      have c1 : w1.cell? ⟨b, off + (n - 1), none⟩ = some (.int .u32 y) := HB1.out.cell (p := ⟨b, off + (n - 1), none⟩) hb ▸ hy0
      go_wp2_with fail
      go_ret
      exact ⟨ret_bool (by rw [HR.out]), HB1⟩
    have d1 : decide (256 < (n : Int)) = false := decide_eq_false (by omega)
    by_cases t2 : y ≠ 0
    case neg =>
      have d2 : ((y : Int) == 0) = true := by rw [beq_iff_eq]; omega
      have HR := Lib.hid (show vldL ng l ex = false by rw [HV.out]; rw [decide_eq_false t2]; simp)

      go_enter Tryz.func39, Tryz.ntmps39
      go_wp2_with fail
      obtain ⟨w1, hw⟩ : ∃ z9 : World, z9 = (w.alloc (.cells #[.bool ng, .slice (some ⟨b, off, none⟩) n c, .int .i64 ex] 28)) := ⟨_, rfl⟩
      have HB1 := Lib.hid (show Below w.heap.size w w1 by rw [hw]; exact below_a1 _ _)
      have F1a := Lib.hid (H.out.belowW HB1.out)
      have F1d := Lib.hid (show Blk w1 (w.heap.size) 28 #[.bool ng, .slice (some ⟨b, off, none⟩) n c, .int .i64 ex] by rw [hw]; exact Blk.new _ _ _)
      rw [← hw]
      clear hw
      have pd0 : (w1).cell? ⟨w.heap.size, 0, none⟩ = some (.bool ng) := F1d.out.cell 0
      have fd0 : (w1).frozen? ⟨w.heap.size, 0, none⟩ = false := F1d.out.frozen 0
      have pd1 : (w1).cell? ⟨w.heap.size, 1, none⟩ = some (.slice (some ⟨b, off, none⟩) n c) := F1d.out.cell 1
      have fd1 : (w1).frozen? ⟨w.heap.size, 1, none⟩ = false := F1d.out.frozen 1
      have pd2 : (w1).cell? ⟨w.heap.size, 2, none⟩ = some (.int .i64 ex) := F1d.out.cell 2
      have fd2 : (w1).frozen? ⟨w.heap.size, 2, none⟩ = false := F1d.out.frozen 2
      have c0 : w1.cell? ⟨b, off, none⟩ = some (.int .u32 x) := HB1.out.cell (p := ⟨b, off, none⟩) hb ▸ hx0
      have c1 : w1.cell? ⟨b, off + (n - 1), none⟩ = some (.int .u32 y) := HB1.out.cell (p := ⟨b, off + (n - 1), none⟩) hb ▸ hy0
      go_wp2_with fail
      go_ret
      exact ⟨ret_bool (by rw [HR.out]), HB1⟩
    have d2 : ((y : Int) == 0) = false := by rw [beq_eq_false_iff_ne]; omega
    have HA1 := Lib.hid (and_one32 x hxB)
    by_cases t3 : x % 2 = 1
    case neg =>
      have d3 : bits .and .u32 (x : Int) 1 = 0 := by rw [HA1.out]; omega
      have HR := Lib.hid (show vldL ng l ex = false by rw [HV.out]; rw [decide_eq_false t3]; simp)

      go_enter Tryz.func39, Tryz.ntmps39
      go_wp2_with fail
      obtain ⟨w1, hw⟩ : ∃ z9 : World, z9 = (w.alloc (.cells #[.bool ng, .slice (some ⟨b, off, none⟩) n c, .int .i64 ex] 28)) := ⟨_, rfl⟩
      have HB1 := Lib.hid (show Below w.heap.size w w1 by rw [hw]; exact below_a1 _ _)
      have F1a := Lib.hid (H.out.belowW HB1.out)
      have F1d := Lib.hid (show Blk w1 (w.heap.size) 28 #[.bool ng, .slice (some ⟨b, off, none⟩) n c, .int .i64 ex] by rw [hw]; exact Blk.new _ _ _)
      rw [← hw]
      clear hw
      have pd0 : (w1).cell? ⟨w.heap.size, 0, none⟩ = some (.bool ng) := F1d.out.cell 0
      have fd0 : (w1).frozen? ⟨w.heap.size, 0, none⟩ = false := F1d.out.frozen 0
      have pd1 : (w1).cell? ⟨w.heap.size, 1, none⟩ = some (.slice (some ⟨b, off, none⟩) n c) := F1d.out.cell 1
      have fd1 : (w1).frozen? ⟨w.heap.size, 1, none⟩ = false := F1d.out.frozen 1
      have pd2 : (w1).cell? ⟨w.heap.size, 2, none⟩ = some (.int .i64 ex) := F1d.out.cell 2
      have fd2 : (w1).frozen? ⟨w.heap.size, 2, none⟩ = false := F1d.out.frozen 2
      have c0 : w1.cell? ⟨b, off, none⟩ = some (.int .u32 x) := HB1.out.cell (p := ⟨b, off, none⟩) hb ▸ hx0
      have c1 : w1.cell? ⟨b, off + (n - 1), none⟩ = some (.int .u32 y) := HB1.out.cell (p := ⟨b, off + (n - 1), none⟩) hb ▸ hy0
      go_wp2_with fail
      go_ret
      exact ⟨ret_bool (by rw [HR.out]), HB1⟩
    have d3 : bits .and .u32 (x : Int) 1 = 1 := by rw [HA1.out]; omega
    have HI := Lib.hid (show vldL ng l ex = inR (val l) ex by rw [HV.out, decide_eq_true t1, decide_eq_true t2, decide_eq_true t3]; rfl)
    have HI2 := Lib.hid (inR_iff (e := ex) (HZ.out t2))
    by_cases t4 : ex < -16384
    case pos =>
      have d4 : decide (ex < -16384) = true := decide_eq_true t4
      have HR := Lib.hid (show vldL ng l ex = false by rw [HI.out, Bool.eq_false_iff]; intro h; have := HI2.out.1 h; omega)

      go_enter Tryz.func39, Tryz.ntmps39
      go_wp2_with fail
      obtain ⟨w1, hw⟩ : ∃ z9 : World, z9 = (w.alloc (.cells #[.bool ng, .slice (some ⟨b, off, none⟩) n c, .int .i64 ex] 28)) := ⟨_, rfl⟩
      have HB1 := Lib.hid (show Below w.heap.size w w1 by rw [hw]; exact below_a1 _ _)
      have F1a := Lib.hid (H.out.belowW HB1.out)
      have F1d := Lib.hid (show Blk w1 (w.heap.size) 28 #[.bool ng, .slice (some ⟨b, off, none⟩) n c, .int .i64 ex] by rw [hw]; exact Blk.new _ _ _)
      rw [← hw]
      clear hw
      have pd0 : (w1).cell? ⟨w.heap.size, 0, none⟩ = some (.bool ng) := F1d.out.cell 0
      have fd0 : (w1).frozen? ⟨w.heap.size, 0, none⟩ = false := F1d.out.frozen 0
      have pd1 : (w1).cell? ⟨w.heap.size, 1, none⟩ = some (.slice (some ⟨b, off, none⟩) n c) := F1d.out.cell 1
      have fd1 : (w1).frozen? ⟨w.heap.size, 1, none⟩ = false := F1d.out.frozen 1
      have pd2 : (w1).cell? ⟨w.heap.size, 2, none⟩ = some (.int .i64 ex) := F1d.out.cell 2
      have fd2 : (w1).frozen? ⟨w.heap.size, 2, none⟩ = false := F1d.out.frozen 2
      have c0 : w1.cell? ⟨b, off, none⟩ = some (.int .u32 x) := HB1.out.cell (p := ⟨b, off, none⟩) hb ▸ hx0
      have c1 : w1.cell? ⟨b, off + (n - 1), none⟩ = some (.int .u32 y) := HB1.out.cell (p := ⟨b, off + (n - 1), none⟩) hb ▸ hy0
      go_wp2_with fail
      go_ret
      exact ⟨ret_bool (by rw [HR.out]), HB1⟩
    have d4 : decide (ex < -16384) = false := decide_eq_false t4
    by_cases t5 : 16384 < ex
    case pos =>
      have d5 : decide (16384 < ex) = true := decide_eq_true t5
      have HR := Lib.hid (show vldL ng l ex = false by rw [HI.out, Bool.eq_false_iff]; intro h; have := HI2.out.1 h; omega)

      go_enter Tryz.func39, Tryz.ntmps39
      go_wp2_with fail
      obtain ⟨w1, hw⟩ : ∃ z9 : World, z9 = (w.alloc (.cells #[.bool ng, .slice (some ⟨b, off, none⟩) n c, .int .i64 ex] 28)) := ⟨_, rfl⟩
      have HB1 := Lib.hid (show Below w.heap.size w w1 by rw [hw]; exact below_a1 _ _)
      have F1a := Lib.hid (H.out.belowW HB1.out)
      have F1d := Lib.hid (show Blk w1 (w.heap.size) 28 #[.bool ng, .slice (some ⟨b, off, none⟩) n c, .int .i64 ex] by rw [hw]; exact Blk.new _ _ _)
      rw [← hw]
      clear hw
      have pd0 : (w1).cell? ⟨w.heap.size, 0, none⟩ = some (.bool ng) := F1d.out.cell 0
      have fd0 : (w1).frozen? ⟨w.heap.size, 0, none⟩ = false := F1d.out.frozen 0
      have pd1 : (w1).cell? ⟨w.heap.size, 1, none⟩ = some (.slice (some ⟨b, off, none⟩) n c) := F1d.out.cell 1
      have fd1 : (w1).frozen? ⟨w.heap.size, 1, none⟩ = false := F1d.out.frozen 1
      have pd2 : (w1).cell? ⟨w.heap.size, 2, none⟩ = some (.int .i64 ex) := F1d.out.cell 2
      have fd2 : (w1).frozen? ⟨w.heap.size, 2, none⟩ = false := F1d.out.frozen 2
      have c0 : w1.cell? ⟨b, off, none⟩ = some (.int .u32 x) := HB1.out.cell (p := ⟨b, off, none⟩) hb ▸ hx0
      have c1 : w1.cell? ⟨b, off + (n - 1), none⟩ = some (.int .u32 y) := HB1.out.cell (p := ⟨b, off + (n - 1), none⟩) hb ▸ hy0
      go_wp2_with fail
      go_ret
      exact ⟨ret_bool (by rw [HR.out]), HB1⟩
    have d5 : decide (16384 < ex) = false := decide_eq_false t5
    obtain ⟨B, hB⟩ : ∃ B, blen (val l) = B := ⟨_, rfl⟩
    rw [hB] at HI2 HT
    have B1 : B ≤ 8192 := by rw [HT.out t2]; have h2 : blen y ≤ 32 := blen_le hyB; omega
    clear hB
    by_cases t6 : B ≤ 4096
    case neg =>
      have d6 : decide (B ≤ 4096) = false := decide_eq_false t6
      have d6' : decide ((B : Int) ≤ 4096) = false := decide_eq_false (by omega)
      have HR := Lib.hid (show vldL ng l ex = false by rw [HI.out, Bool.eq_false_iff]; intro h; have := HI2.out.1 h; omega)

      go_enter Tryz.func39, Tryz.ntmps39
      go_wp2_with fail
      obtain ⟨w1, hw⟩ : ∃ z9 : World, z9 = (w.alloc (.cells #[.bool ng, .slice (some ⟨b, off, none⟩) n c, .int .i64 ex] 28)) := ⟨_, rfl⟩
      have HB1 := Lib.hid (show Below w.heap.size w w1 by rw [hw]; exact below_a1 _ _)
      have F1a := Lib.hid (H.out.belowW HB1.out)
      have F1d := Lib.hid (show Blk w1 (w.heap.size) 28 #[.bool ng, .slice (some ⟨b, off, none⟩) n c, .int .i64 ex] by rw [hw]; exact Blk.new _ _ _)
      rw [← hw]
      clear hw
      have pd0 : (w1).cell? ⟨w.heap.size, 0, none⟩ = some (.bool ng) := F1d.out.cell 0
      have fd0 : (w1).frozen? ⟨w.heap.size, 0, none⟩ = false := F1d.out.frozen 0
      have pd1 : (w1).cell? ⟨w.heap.size, 1, none⟩ = some (.slice (some ⟨b, off, none⟩) n c) := F1d.out.cell 1
      have fd1 : (w1).frozen? ⟨w.heap.size, 1, none⟩ = false := F1d.out.frozen 1
      have pd2 : (w1).cell? ⟨w.heap.size, 2, none⟩ = some (.int .i64 ex) := F1d.out.cell 2
      have fd2 : (w1).frozen? ⟨w.heap.size, 2, none⟩ = false := F1d.out.frozen 2
      have c0 : w1.cell? ⟨b, off, none⟩ = some (.int .u32 x) := HB1.out.cell (p := ⟨b, off, none⟩) hb ▸ hx0
      have c1 : w1.cell? ⟨b, off + (n - 1), none⟩ = some (.int .u32 y) := HB1.out.cell (p := ⟨b, off + (n - 1), none⟩) hb ▸ hy0
      go_wp2_with fail
      refine (bits02_any b off n c y w1 (by omega) t1 c1 hyB).mono ?_
      rw [← HT.out t2]
      rintro e w' ⟨rfl, rfl⟩
      go_wp2_with fail
      go_ret
      exact ⟨ret_bool (by rw [HR.out]), HB1⟩
    have d6 : decide (B ≤ 4096) = true := decide_eq_true t6
    have d6' : decide ((B : Int) ≤ 4096) = true := decide_eq_true (by omega)
    by_cases t7 : (B : Int) + ex ≤ 16384
    case neg =>
      have d7 : decide ((B : Int) + ex ≤ 16384) = false := decide_eq_false t7
      have HR := Lib.hid (show vldL ng l ex = false by rw [HI.out, Bool.eq_false_iff]; intro h; have := HI2.out.1 h; omega)

      go_enter Tryz.func39, Tryz.ntmps39
      go_wp2_with fail
      obtain ⟨w1, hw⟩ : ∃ z9 : World, z9 = (w.alloc (.cells #[.bool ng, .slice (some ⟨b, off, none⟩) n c, .int .i64 ex] 28)) := ⟨_, rfl⟩
      have HB1 := Lib.hid (show Below w.heap.size w w1 by rw [hw]; exact below_a1 _ _)
      have F1a := Lib.hid (H.out.belowW HB1.out)
      have F1d := Lib.hid (show Blk w1 (w.heap.size) 28 #[.bool ng, .slice (some ⟨b, off, none⟩) n c, .int .i64 ex] by rw [hw]; exact Blk.new _ _ _)
      rw [← hw]
      clear hw
      have pd0 : (w1).cell? ⟨w.heap.size, 0, none⟩ = some (.bool ng) := F1d.out.cell 0
      have fd0 : (w1).frozen? ⟨w.heap.size, 0, none⟩ = false := F1d.out.frozen 0
      have pd1 : (w1).cell? ⟨w.heap.size, 1, none⟩ = some (.slice (some ⟨b, off, none⟩) n c) := F1d.out.cell 1
      have fd1 : (w1).frozen? ⟨w.heap.size, 1, none⟩ = false := F1d.out.frozen 1
      have pd2 : (w1).cell? ⟨w.heap.size, 2, none⟩ = some (.int .i64 ex) := F1d.out.cell 2
      have fd2 : (w1).frozen? ⟨w.heap.size, 2, none⟩ = false := F1d.out.frozen 2
      have c0 : w1.cell? ⟨b, off, none⟩ = some (.int .u32 x) := HB1.out.cell (p := ⟨b, off, none⟩) hb ▸ hx0
      have c1 : w1.cell? ⟨b, off + (n - 1), none⟩ = some (.int .u32 y) := HB1.out.cell (p := ⟨b, off + (n - 1), none⟩) hb ▸ hy0
      go_wp2_with fail
      refine (bits02_any b off n c y w1 (by omega) t1 c1 hyB).mono ?_
      rw [← HT.out t2]
      rintro e w' ⟨rfl, rfl⟩
      go_wp2_with fail
      go_ret
      exact ⟨ret_bool (by rw [HR.out]), HB1⟩
    have d7 : decide ((B : Int) + ex ≤ 16384) = true := decide_eq_true t7
    have HR := Lib.hid (show vldL ng l ex = true by rw [HI.out]; exact HI2.out.2 ⟨t6, by omega, by omega, t7⟩)

    go_enter Tryz.func39, Tryz.ntmps39
    go_wp2_with fail
    obtain ⟨w1, hw⟩ : ∃ z9 : World, z9 = (w.alloc (.cells #[.bool ng, .slice (some ⟨b, off, none⟩) n c, .int .i64 ex] 28)) := ⟨_, rfl⟩
    have HB1 := Lib.hid (show Below w.heap.size w w1 by rw [hw]; exact below_a1 _ _)
    have F1a := Lib.hid (H.out.belowW HB1.out)
    have F1d := Lib.hid (show Blk w1 (w.heap.size) 28 #[.bool ng, .slice (some ⟨b, off, none⟩) n c, .int .i64 ex] by rw [hw]; exact Blk.new _ _ _)
    rw [← hw]
    clear hw
    have pd0 : (w1).cell? ⟨w.heap.size, 0, none⟩ = some (.bool ng) := F1d.out.cell 0
    have fd0 : (w1).frozen? ⟨w.heap.size, 0, none⟩ = false := F1d.out.frozen 0
    have pd1 : (w1).cell? ⟨w.heap.size, 1, none⟩ = some (.slice (some ⟨b, off, none⟩) n c) := F1d.out.cell 1
    have fd1 : (w1).frozen? ⟨w.heap.size, 1, none⟩ = false := F1d.out.frozen 1
    have pd2 : (w1).cell? ⟨w.heap.size, 2, none⟩ = some (.int .i64 ex) := F1d.out.cell 2
    have fd2 : (w1).frozen? ⟨w.heap.size, 2, none⟩ = false := F1d.out.frozen 2
    have c0 : w1.cell? ⟨b, off, none⟩ = some (.int .u32 x) := HB1.out.cell (p := ⟨b, off, none⟩) hb ▸ hx0
    have c1 : w1.cell? ⟨b, off + (n - 1), none⟩ = some (.int .u32 y) := HB1.out.cell (p := ⟨b, off + (n - 1), none⟩) hb ▸ hy0
    go_wp2_with fail
    refine (bits02_any b off n c y w1 (by omega) t1 c1 hyB).mono ?_
    rw [← HT.out t2]
    rintro e w' ⟨rfl, rfl⟩
    go_wp2_with fail
    go_ret
    exact ⟨ret_bool (by rw [HR.out]), HB1⟩
end Go.Proofs.YtnogfceojmnjiaaGreatDoor
namespace Go.Fl.Dy
open Go.Fl.Nm
/-- A bit of a number; 0 outside of it. -/
def bitI (v : Nat) (i : Int) : Nat := if i < 0 then 0 else v / 2 ^ i.toNat % 2
theorem bitI_le (v : Nat) (i : Int) : bitI v i ≤ 1 := by unfold bitI; split <;> omega
theorem bit_at {l : List Nat} {q r x : Nat} (h : ok l) (hx : l[q]? = some x) (hr : r < 32) : val l / 2 ^ (32 * q + r) % 2 = x / 2 ^ r % 2 := by
  have hq : q ≤ l.length := by
    rcases Nat.lt_or_ge q l.length with h | h
    · omega
    · rw [List.getElem?_eq_none h] at hx; cases hx
  have h1 := val_split l q hq
  rw [val_drop hx] at h1
  have h2 : val (l.take q) < BB ^ q := by
    have := val_lt (ok_take h q)
    rwa [List.length_take, Nat.min_eq_left hq] at this
  have h3 : val l / 2 ^ (32 * q) = x + BB * val (l.drop (q + 1)) := by
    rw [Nat.pow_mul, ← BB_pow, h1, Nat.add_mul_div_left _ _ (Nat.pow_pos BB_pos), Nat.div_eq_of_lt h2, Nat.zero_add]
  rw [Nat.pow_add, ← Nat.div_div_eq_div_mul, h3]
  have h4 : BB = 2 ^ r * (2 * 2 ^ (31 - r)) := by
    rw [BB_pow, ← Nat.pow_succ', ← Nat.pow_add]
    congr 1; omega
  rw [h4, Nat.mul_assoc, Nat.add_mul_div_left _ _ (Nat.two_pow_pos _), Nat.mul_assoc, Nat.add_mul_mod_self_left]
theorem bit_out {l : List Nat} {i : Nat} (h : ok l) (hi : 32 * l.length ≤ i) : val l / 2 ^ i % 2 = 0 := by
  have h1 := val_lt h
  rw [BB_pow, ← Nat.pow_mul] at h1
  have h2 : 2 ^ (32 * l.length) ≤ 2 ^ i := Nat.pow_le_pow_right (by decide) hi
  rw [Nat.div_eq_of_lt (by omega)]
theorem top_one {x k : Nat} (h : x < 2 ^ (k + 1)) (h1 : x / 2 ^ k % 2 = 1) : blen x = k + 1 := by
  have hx : x / 2 ^ k < 2 := by
    rw [Nat.div_lt_iff_lt_mul (Nat.two_pow_pos _), ← Nat.pow_succ']; exact h
  have h2 : x / 2 ^ k = 1 := by generalize x / 2 ^ k = t at *; omega
  have h3 : 2 ^ k ≤ x := by
    have := Nat.div_mul_le_self x (2 ^ k)
    rw [h2] at this; omega
  exact blen_unique (by simpa using h3) h (by have := Nat.two_pow_pos k; omega)
theorem low_half {x k : Nat} (h : x < 2 ^ (k + 1)) (h1 : x / 2 ^ k % 2 ≠ 1) : x < 2 ^ k := by
  have hx : x / 2 ^ k < 2 := by
    rw [Nat.div_lt_iff_lt_mul (Nat.two_pow_pos _), ← Nat.pow_succ']; exact h
  have h2 : x / 2 ^ k = 0 := by generalize x / 2 ^ k = t at *; omega
  rcases Nat.lt_or_ge x (2 ^ k) with h3 | h3
  · exact h3
  · have := Nat.div_pos h3 (Nat.two_pow_pos k); omega
theorem and_bit (x k : Nat) (h : x < 4294967296) : Go.bits .and .u32 ((x : Int) / 2 ^ k) 1 = ((x / 2 ^ k % 2 : Nat) : Int) := by
  have e : (x : Int) / 2 ^ k = ((x / 2 ^ k : Nat) : Int) := by rw [Int.natCast_ediv, Int.natCast_pow]; rfl
  rw [e]
  exact and_one32 _ (Nat.lt_of_le_of_lt (Nat.div_le_self _ _) h)
theorem bits_found {a : List Nat} {i x k : Nat} (h : ok a) (hx : a[i]? = some x) (hz : ∀ y ∈ a.drop (i + 1), y = 0) (hk : x < 2 ^ (k + 1)) (h1 : x / 2 ^ k % 2 = 1) : blen (val a) = 32 * i + k + 1 := by
  have hl : i < a.length := by
    rcases Nat.lt_or_ge i a.length with h | h
    · exact h
    · rw [List.getElem?_eq_none h] at hx; cases hx
  have h0 : x ≠ 0 := by rintro rfl; simp at h1
  have ht : tl a = i + 1 := tl_unique (n := i + 1) hl hz (fun y _ hy => by
    rw [show i + 1 - 1 = i by omega, hx] at hy
    injection hy with hy
    rw [← hy]; exact h0)
  have := blen_val (x := x) h (by omega) (by rw [ht]; exact hx)
  rw [ht, top_one hk h1] at this
  omega
end Go.Fl.Dy
namespace Go.Proofs.YtnogfceojmnjiaaGreatDoor
open Go.RowKit Go.Fl Go.Fl.Nm Go.Fl.Dy
set_option maxHeartbeats 1000000 in
theorem bits_r (A : Option Addr) (n c : Nat) (a : List Nat) (w : World) (ha : Sl w A n c a) (hn : n ≤ 1000000) :
    Calls Tryz.prog 93 #[.slice A n c] w fun e w' => e = .returned (.int .i64 (blen (val a) : Nat)) ∧ w = w' := by
  have HA := Lib.hid ha
  have HLN := Lib.hid ha.len
  clear ha
  go_enter Tryz.func93, Tryz.ntmps93
  go_wp2_with fail
  go_loop [3] (fun i => ∃ k : Nat, i = .int .i64 ((k : Int) - 1) ∧ k ≤ n ∧ Hid (∀ x ∈ a.drop k, x = 0)) (fun i => (intOf i + 1).toNat)
  case atStart => exact ⟨n, rfl, by omega, Lib.hid (by rw [List.drop_eq_nil_of_le (by rw [HLN.out]; omega)]; simp)⟩
  case round =>
    obtain ⟨k, rfl, hk, HZ⟩ := hrel
    cases k with
    | zero =>
      rw [show ((0 : Nat) : Int) - 1 = -1 by omega]
      have HV := Lib.hid (show blen (val a) = 0 by
        rw [val_zero_of (by have := HZ.out; rwa [List.drop_zero] at this)]; rfl)
      go_wp2_with fail
      go_ret
      exact ⟨by rw [HV.out]; rfl, rfl⟩
    | succ i =>
      rw [show ((i + 1 : Nat) : Int) - 1 = i by omega]
      obtain ⟨b, off, x, hA, hb, hx, hxB, hcell⟩ := HA.out.at_ (i := i) (by omega)
      subst hA
      have HX := Lib.hid hx
      clear hx
      unfold BB at hxB
      go_wp2_with fail
      go_loop [4] (fun v => ∃ j : Nat, v = .int .i64 ((j : Int) - 1) ∧ j ≤ 32 ∧ Hid (x < 2 ^ j)) (fun v => (intOf v + 1).toNat)
      case atStart => exact ⟨32, rfl, by omega, Lib.hid hxB⟩
      case round =>
        obtain ⟨j, rfl, hj, HJ⟩ := hrel
        cases j with
        | zero =>
          rw [show ((0 : Nat) : Int) - 1 = -1 by omega]
          have HZ' := Lib.hid (show ∀ x ∈ a.drop i, x = 0 by
            rw [drop_at HX.out]
            intro y hy
            rcases List.mem_cons.1 hy with rfl | hy
            · have := HJ.out; omega
            · exact HZ.out y hy)
          go_wp2_with fail
          go_round
          case rel => exact ⟨i, rfl, by omega, HZ'⟩
          case measure => simp [intOf]
        | succ k =>
          rw [show ((k + 1 : Nat) : Int) - 1 = k by omega]
          have hand := and_bit x k hxB
          by_cases h1 : x / 2 ^ k % 2 = 1
          · rw [h1] at hand
            have HF := Lib.hid (bits_found HA.out.ok HX.out HZ.out HJ.out h1)
            clear h1
            go_wp2_with fail
            go_ret
            exact ⟨by rw [HF.out]; rfl, rfl⟩
          · have HJ2 := Lib.hid (low_half HJ.out h1)
            rw [show x / 2 ^ k % 2 = 0 by omega] at hand
            clear h1
            go_wp2_with fail
            go_round
            case rel => exact ⟨k, rfl, by omega, HJ2⟩
            case measure => simp [intOf]
set_option maxHeartbeats 1000000 in
theorem bit_r (A : Option Addr) (n c : Nat) (i : Int) (l : List Nat) (w : World) (h : Sl w A n c l) (hn : n ≤ 1000000) (hi1 : -1000000000 ≤ i) (hi2 : i ≤ 1000000000) :
    Calls Tryz.prog 94 #[.slice A n c, .int .i64 i] w fun e w' => e = .returned (.int .i64 (bitI (val l) i : Nat)) ∧ w = w' := by
  by_cases h0 : i < 0
  · have d1 : decide (i < 0) = true := decide_eq_true h0
    have HF := Lib.hid (show bitI (val l) i = 0 by unfold bitI; rw [if_pos h0])
    clear h h0
    go_enter Tryz.func94, Tryz.ntmps94
    go_wp2_with fail
    go_ret
    exact ⟨by rw [HF.out]; rfl, rfl⟩
  · obtain ⟨j, rfl⟩ : ∃ j : Nat, i = (j : Int) := ⟨i.toNat, by omega⟩
    have d1 : decide ((j : Int) < 0) = false := decide_eq_false (by omega)
    have HG := Lib.hid (show bitI (val l) (j : Int) = val l / 2 ^ j % 2 by unfold bitI; rw [if_neg h0]; rfl)
    clear h0
    by_cases hout : 32 * n ≤ j
    · have d2 : decide (32 * (n : Int) ≤ j) = true := decide_eq_true (by omega)
      have HF := Lib.hid (show bitI (val l) (j : Int) = 0 by rw [HG.out]; exact bit_out h.ok (by rw [h.len]; exact hout))
      clear h hout
      go_enter Tryz.func94, Tryz.ntmps94
      go_wp2_with fail
      go_ret
      exact ⟨by rw [HF.out]; rfl, rfl⟩
    · have d2 : decide (32 * (n : Int) ≤ j) = false := decide_eq_false (by omega)
      obtain ⟨b, off, x, hA, hb, hx, hxB, hcell⟩ := h.at_ (i := j / 32) (by omega)
      subst hA
      unfold BB at hxB
      have hand := and_bit x (j % 32) hxB
      have HF := Lib.hid (show bitI (val l) (j : Int) = x / 2 ^ (j % 32) % 2 by
        rw [HG.out]
        have := bit_at h.ok hx (Nat.mod_lt j (by decide : 0 < 32))
        rwa [show 32 * (j / 32) + j % 32 = j by omega] at this)
      generalize x / 2 ^ (j % 32) % 2 = y at *
      have hy : y ≤ 1 := by rw [← HF.out]; exact bitI_le _ _
      clear h hx hb
      go_enter Tryz.func94, Tryz.ntmps94
      go_wp2_with fail
      go_ret
      exact ⟨by rw [HF.out]; rfl, rfl⟩
end Go.Proofs.YtnogfceojmnjiaaGreatDoor
namespace Go.Fl.Dy
open Go.Fl.Nm
/-- The order of a 2^e and b 2^f. -/
def cmpP (a : Nat) (e : Int) (b : Nat) (f : Int) : Int := cmpN (a * 2 ^ (e - min e f).toNat) (b * 2 ^ (f - min e f).toNat)
theorem bit_shift (a s j : Nat) : a * 2 ^ s / 2 ^ j % 2 = bitI a ((j : Int) - s) := by
  unfold bitI
  by_cases h : j < s
  · rw [if_pos (by omega)]
    have e : a * 2 ^ s = 2 ^ j * (a * 2 ^ (s - j)) := by
      rw [Nat.mul_left_comm, ← Nat.pow_add]; congr 2; omega
    rw [e, Nat.mul_div_cancel_left _ (Nat.two_pow_pos _)]
    have e2 : a * 2 ^ (s - j) = 2 * (a * 2 ^ (s - j - 1)) := by
      rw [Nat.mul_left_comm, ← Nat.pow_succ']; congr 2; omega
    rw [e2, Nat.mul_mod_right]
  · rw [if_neg (by omega)]
    have e : 2 ^ j = 2 ^ s * 2 ^ (j - s) := by rw [← Nat.pow_add]; congr 1; omega
    rw [e, ← Nat.div_div_eq_div_mul, Nat.mul_div_cancel _ (Nat.two_pow_pos _)]
    congr 2
    congr 1
    omega
theorem half_step (A j : Nat) : A / 2 ^ j = 2 * (A / 2 ^ (j + 1)) + A / 2 ^ j % 2 := by
  rw [Nat.pow_succ, ← Nat.div_div_eq_div_mul]
  omega
theorem less_of_div {A B j : Nat} (h : A / 2 ^ j < B / 2 ^ j) : A < B := by
  rcases Nat.lt_or_ge A B with h1 | h1
  · exact h1
  · have := Nat.div_le_div_right (c := 2 ^ j) h1; omega
theorem blen_mul2 {a s : Nat} (h : a ≠ 0) : blen (a * 2 ^ s) = s + blen a := by rw [Nat.mul_comm]; exact blen_shl s h
theorem lt_of_blen {A B : Nat} (h : blen A < blen B) : A < B := by
  have hB : B ≠ 0 := by rintro rfl; rw [blen_zero] at h; omega
  have h1 := blen_lt (Nat.le_refl (blen A))
  have h2 := (blen_spec hB).1
  have h3 : 2 ^ blen A ≤ 2 ^ (blen B - 1) := Nat.pow_le_pow_right (by decide) (by omega)
  omega
theorem cmpP_tops {a b : Nat} {e f : Int} (za : a ≠ 0) (zb : b ≠ 0) (h : (blen a : Int) + e ≠ blen b + f) : cmpP a e b f = cmpI ((blen a : Int) + e) (blen b + f) := by
  unfold cmpP
  have ha := blen_mul2 (s := (e - min e f).toNat) za
  have hb := blen_mul2 (s := (f - min e f).toNat) zb
  rcases Int.lt_or_gt_of_ne h with h | h
  · rw [cmpI_lt h]
    exact cmpN_lt (lt_of_blen (by rw [ha, hb]; omega))
  · rw [cmpI_gt h]
    exact cmpN_gt (lt_of_blen (by rw [ha, hb]; omega))
theorem bits_differ {A B j s t : Nat} {i e f : Int} {p q : Nat} (hp : bitI p (i - e) = s) (hq : bitI q (i - f) = t) (hA : A / 2 ^ j % 2 = bitI p (i - e)) (hB : B / 2 ^ j % 2 = bitI q (i - f)) (h : A / 2 ^ (j + 1) = B / 2 ^ (j + 1)) (hst : s ≠ t) : cmpN A B = cmpI s t := by
  have h1 := half_step A j
  have h2 := half_step B j
  rw [hA, hp] at h1
  rw [hB, hq] at h2
  rcases Nat.lt_or_gt_of_ne hst with h3 | h3
  · rw [cmpI_lt (by omega)]
    exact cmpN_lt (less_of_div (j := j) (by rw [h1, h2, h]; omega))
  · rw [cmpI_gt (by omega)]
    exact cmpN_gt (less_of_div (j := j) (by rw [h1, h2, h]; omega))
theorem bits_agree {A B j : Nat} {i e f : Int} {p q : Nat} (hA : A / 2 ^ j % 2 = bitI p (i - e)) (hB : B / 2 ^ j % 2 = bitI q (i - f)) (h : A / 2 ^ (j + 1) = B / 2 ^ (j + 1)) (hst : bitI p (i - e) = bitI q (i - f)) : A / 2 ^ j = B / 2 ^ j := by
  rw [half_step A j, half_step B j, hA, hB, h, hst]
end Go.Fl.Dy
namespace Go.Proofs.YtnogfceojmnjiaaGreatDoor
open Go.RowKit Go.Fl Go.Fl.Nm Go.Fl.Dy
set_option maxHeartbeats 400000 in
theorem order_r (a b : Int) (w : World) :
    Calls Tryz.prog 72 #[.int .i64 a, .int .i64 b] w fun e w' => e = .returned (.int .i64 (cmpI a b)) ∧ w = w' := by
  by_cases h1 : a < b
  · have d1 : decide (a < b) = true := decide_eq_true h1
    have HF := Lib.hid (cmpI_lt h1)
    clear h1
    go_enter Tryz.func72, Tryz.ntmps72
    go_wp2_with fail
    go_ret
    exact ⟨by rw [HF.out]; rfl, rfl⟩
  · have d1 : decide (a < b) = false := decide_eq_false h1
    by_cases h2 : b < a
    · have d2 : decide (b < a) = true := decide_eq_true h2
      have HF := Lib.hid (cmpI_gt h2)
      clear h1 h2
      go_enter Tryz.func72, Tryz.ntmps72
      go_wp2_with fail
      go_ret
      exact ⟨by rw [HF.out]; rfl, rfl⟩
    · have d2 : decide (b < a) = false := decide_eq_false h2
      have HF := Lib.hid (cmpI_eq (show a = b by omega))
      clear h1 h2
      go_enter Tryz.func72, Tryz.ntmps72
      go_wp2_with fail
      go_ret
      exact ⟨by rw [HF.out]; rfl, rfl⟩
set_option maxHeartbeats 2000000 in
theorem magnitude_r (A B : Option Addr) (n c m d : Nat) (a b : List Nat) (e f : Int) (w : World) (ha : Sl w A n c a) (hb : Sl w B m d b) (hn : n ≤ 1000) (hm : m ≤ 1000) (za : val a ≠ 0) (zb : val b ≠ 0)
    (e1 : -100000 ≤ e) (e2 : e ≤ 100000) (f1 : -100000 ≤ f) (f2 : f ≤ 100000) :
    Calls Tryz.prog 74 #[.slice A n c, .int .i64 e, .slice B m d, .int .i64 f] w (Ret (.int .i64 (cmpP (val a) e (val b) f)) w) := by
  have HA := Lib.hid ha
  have HB := Lib.hid hb
  obtain ⟨x, hx⟩ : ∃ x, blen (val a) = x := ⟨_, rfl⟩
  obtain ⟨y, hy⟩ : ∃ y, blen (val b) = y := ⟨_, rfl⟩
  have HX := Lib.hid hx
  have HY := Lib.hid hy
  have x1 : 0 < x := by rw [← hx]; exact blen_pos za
  have y1 : 0 < y := by rw [← hy]; exact blen_pos zb
  have x2 : x ≤ 100000 := by rw [← hx]; exact Nat.le_trans (blen_le (by have := val_lt ha.ok; rw [ha.len, BB_pow, ← Nat.pow_mul] at this; exact this)) (by omega)
  have y2 : y ≤ 100000 := by rw [← hy]; exact Nat.le_trans (blen_le (by have := val_lt hb.ok; rw [hb.len, BB_pow, ← Nat.pow_mul] at this; exact this)) (by omega)
  have dx : ((x : Int) == 0) = false := by rw [beq_eq_false_iff_ne]; omega
  have dy : ((y : Int) == 0) = false := by rw [beq_eq_false_iff_ne]; omega
  have ZA := Lib.hid za
  have ZB := Lib.hid zb
  clear ha hb za zb hx hy
  go_enter Tryz.func74, Tryz.ntmps74
  go_wp2_with fail
  refine (bits_r A n c a w HA.out (by omega)).mono ?_
  rw [HX.out]
  rintro e' w' ⟨rfl, rfl⟩
  go_wp2_with fail
  refine (bits_r B m d b w HB.out (by omega)).mono ?_
  rw [HY.out]
  rintro e' w' ⟨rfl, rfl⟩
  by_cases hs : (x : Int) + e = y + f
  · have ds : ((x : Int) + e != y + f) = false := by rw [hs]; simp
    obtain ⟨mn, hmn⟩ : ∃ z, min e f = z := ⟨_, rfl⟩
    have m1 : mn ≤ e ∧ mn ≤ f ∧ -100000 ≤ mn := by omega
    obtain ⟨P, hP⟩ : ∃ P, val a * 2 ^ (e - mn).toNat = P := ⟨_, rfl⟩
    obtain ⟨Q, hQ⟩ : ∃ Q, val b * 2 ^ (f - mn).toNat = Q := ⟨_, rfl⟩
    have HPQ := Lib.hid (show cmpP (val a) e (val b) f = cmpN P Q by unfold cmpP; rw [hmn, hP, hQ])
    obtain ⟨T, hT⟩ : ∃ T : Nat, (T : Int) = x + e - mn := ⟨((x : Int) + e - mn).toNat, by omega⟩
    have HT1 := Lib.hid (show P / 2 ^ T = Q / 2 ^ T by
      have h1 : blen P ≤ T := by rw [← hP, blen_mul2 ZA.out, HX.out]; omega
      have h2 : blen Q ≤ T := by rw [← hQ, blen_mul2 ZB.out, HY.out]; omega
      rw [Nat.div_eq_of_lt (blen_lt h1), Nat.div_eq_of_lt (blen_lt h2)])
    have HBP := Lib.hid (show ∀ j : Nat, P / 2 ^ j % 2 = bitI (val a) ((j : Int) + mn - e) from fun j => by
      rw [← hP, bit_shift]; congr 1; omega)
    have HBQ := Lib.hid (show ∀ j : Nat, Q / 2 ^ j % 2 = bitI (val b) ((j : Int) + mn - f) from fun j => by
      rw [← hQ, bit_shift]; congr 1; omega)
    have hT2 : T ≤ 300000 := by omega
    have ei : (x : Int) + e - 1 = (T : Int) - 1 + mn := by omega
    clear hP hQ hs
    have HX2 := Lib.hid (show (T : Int) - 1 + mn ≤ 1000000 ∧ -1000000 ≤ (T : Int) - 1 + mn by omega)
    clear hT
    go_wp2_with fail
    go_loopg [11] T (fun k v wr => ∃ j : Nat, v = .int .i64 ((j : Int) - 1 + mn) ∧ j = k ∧ j ≤ 300000 ∧ Hid (P / 2 ^ j = Q / 2 ^ j) ∧ Hid (Below w.heap.size w wr))
    case atStart => exact ⟨T, rfl, rfl, hT2, HT1, Lib.hid (Below.refl _ _)⟩
    case round =>
      obtain ⟨j, rfl, rfl, hj, HJ, HBL⟩ := hrel
      cases j with
      | zero =>
        have dj : decide (mn ≤ ((0 : Nat) : Int) - 1 + mn) = false := decide_eq_false (by omega)
        have HF := Lib.hid (show cmpP (val a) e (val b) f = 0 by
          have h1 := HJ.out
          rw [Nat.pow_zero, Nat.div_one, Nat.div_one] at h1
          rw [HPQ.out]; exact cmpN_eq h1)
        go_wp2_with fail
        go_ret
        exact ⟨by rw [HF.out]; rfl, HBL⟩
      | succ j =>
        rw [show ((j + 1 : Nat) : Int) - 1 = j by omega]
        have dj : decide (mn ≤ (j : Int) + mn) = true := decide_eq_true (by omega)
        have HA1 := Lib.hid (HBP.out j)
        have HB1 := Lib.hid (HBQ.out j)
        have KA := Lib.hid (bit_r A n c ((j : Int) + mn - e) a wr (HA.out.below HBL.out) (by omega) (by omega) (by omega))
        have KB := Lib.hid (bit_r B m d ((j : Int) + mn - f) b wr (HB.out.below HBL.out) (by omega) (by omega) (by omega))
        obtain ⟨s, hs⟩ : ∃ s, bitI (val a) ((j : Int) + mn - e) = s := ⟨_, rfl⟩
        obtain ⟨t, ht⟩ : ∃ t, bitI (val b) ((j : Int) + mn - f) = t := ⟨_, rfl⟩
        rw [hs] at KA
        rw [ht] at KB
        have KO := Lib.hid (order_r (s : Int) (t : Int) wr)
        by_cases hst : s = t
        · have HN := Lib.hid (show P / 2 ^ j = Q / 2 ^ j from bits_agree HA1.out HB1.out HJ.out (by rw [hs, ht, hst]))
          rw [cmpI_eq (show (s : Int) = t by omega)] at KO
          clear hst hs ht
          go_wp2_with fail
          refine KA.out.mono ?_
          rintro e' w' ⟨rfl, rfl⟩
          go_wp2_with fail
          refine KB.out.mono ?_
          rintro e' w' ⟨rfl, rfl⟩
          go_wp2_with fail
          refine KO.out.mono ?_
          rintro e' w' ⟨rfl, rfl⟩
          go_wp2_with fail
          go_roundg j
          case measure => omega
          case rel => exact ⟨j, by go_num, rfl, by omega, HN, HBL⟩
        · have HN := Lib.hid (show cmpP (val a) e (val b) f = cmpI s t by rw [HPQ.out]; exact bits_differ hs ht HA1.out HB1.out HJ.out hst)
          have hne : (cmpI (s : Int) t != 0) = true := by rw [bne_iff_ne]; intro h; have := cmpI_zero.1 h; omega
          clear hst hs ht
          go_wp2_with fail
          refine KA.out.mono ?_
          rintro e' w' ⟨rfl, rfl⟩
          go_wp2_with fail
          refine KB.out.mono ?_
          rintro e' w' ⟨rfl, rfl⟩
          go_wp2_with fail
          refine KO.out.mono ?_
          rintro e' w' ⟨rfl, rfl⟩
          go_wp2_with fail
          go_ret
          exact ⟨by rw [HN.out]; rfl, HBL⟩
  · have ds : ((x : Int) + e != y + f) = true := by simpa using hs
    have HF := Lib.hid (show cmpI ((x : Int) + e) (y + f) = cmpP (val a) e (val b) f by rw [cmpP_tops ZA.out ZB.out (by rw [HX.out, HY.out]; exact hs), HX.out, HY.out])
    clear hs
    go_wp2_with fail
    refine (order_r ((x : Int) + e) (y + f) w).mono ?_
    rw [HF.out]
    rintro e' w' ⟨rfl, rfl⟩
    go_wp2_with fail
    go_ret
    exact ⟨rfl, Lib.hid (Below.refl _ _)⟩
end Go.Proofs.YtnogfceojmnjiaaGreatDoor
namespace Go.Fl.Dy
open Go.Fl.Nm
theorem times_step {o a : List Nat} {i cc x q S : Nat} (hl : o.length = i) (hok : ok o) (hx : a[i]? = some x) (hS : S = x * q + cc) (hv : val o + BB ^ i * cc = val (a.take i) * q) :
    (o ++ [S % BB]).length = i + 1 ∧ ok (o ++ [S % BB]) ∧ val (o ++ [S % BB]) + BB ^ (i + 1) * (S / BB) = val (a.take (i + 1)) * q := by
  refine ⟨by simp [hl], ok_append.2 ⟨hok, ok_cons.2 ⟨Nat.mod_lt _ BB_pos, ok_nil⟩⟩, ?_⟩
  rw [val_snoc, hl, val_take_succ hx, Nat.pow_succ, Nat.mul_assoc, Nat.add_assoc, ← Nat.mul_add, Nat.add_comm (S % BB), Nat.div_add_mod, hS, Nat.mul_add, Nat.add_mul, ← hv, Nat.mul_assoc]
  omega
end Go.Fl.Dy
namespace Go.Proofs.YtnogfceojmnjiaaGreatDoor
open Go.RowKit Go.Fl Go.Fl.Nm Go.Fl.Dy
def TimesRel (w : World) (n q : Nat) (a : List Nat) (k : Nat) (ov cv iv : Value) (wr : World) : Prop :=
  ∃ (i cc : Nat) (o : List Nat), iv = .int .i64 i ∧ cv = .int .u64 cc ∧ cc ≤ q ∧ k = n - i ∧ i ≤ n ∧ Hid (o.length = i) ∧ Hid (ok o) ∧ Hid (wr.ownsRow w.heap.size tU 1 ov i (U o)) ∧
    Hid (val o + BB ^ i * cc = val (a.take i) * q) ∧ Hid (Below w.heap.size w wr)
/-- Limbs of a value. -/
def SlV (N v : Nat) (w : World) (e : Ending) (w' : World) : Prop :=
  ∃ (A : Option Addr) (c : Nat) (l : List Nat), e = .returned (.slice A N c) ∧ Hid (Sl w' A N c l) ∧ Hid (val l = v) ∧ Hid (Below w.heap.size w w')
set_option maxHeartbeats 1000000 in
theorem times_r (A : Option Addr) (n c q : Nat) (a : List Nat) (w : World) (ha : Sl w A n c a) (hn : n ≤ 1000) (hq : q ≤ 1073741824) :
    Calls Tryz.prog 76 #[.slice A n c, .int .u64 q] w (SlV (n + 1) (val a * q) w) := by
  have HA := Lib.hid ha
  have HLN := Lib.hid ha.len
  clear ha
  go_enter Tryz.func76, Tryz.ntmps76
  go_wp2_with fail
  go_loopg [5, 6, 7] n (TimesRel w n q a)
  case atStart => exact ⟨0, 0, [], rfl, rfl, by omega, by omega, by omega, Lib.hid rfl, Lib.hid ok_nil, Lib.hid ⟨rfl, .inl ⟨rfl, rfl⟩⟩, Lib.hid (by simp [val_nil]), Lib.hid (Below.refl _ _)⟩
  case round =>
    obtain ⟨i, cc, o, rfl, rfl, hcc, rfl, hi, HLEN, HOK, HOW, HV, HBL⟩ := hrel
    by_cases hst : i < n
    · have hd : decide ((i : Int) < n) = true := decide_eq_true (by omega)
      obtain ⟨b, off, x, hA, hb, hx, hxB, hcell0⟩ := HA.out.at_ (i := i) hst
      subst hA
      unfold BB at hxB
      have hcell : wr.cell? ⟨b, off + i, none⟩ = some (.int .u32 x) := HBL.out.cell (p := ⟨b, off + i, none⟩) hb ▸ hcell0
      obtain ⟨S, hS⟩ : ∃ S, S = x * q + cc := ⟨_, rfl⟩
      have HS := Lib.hid (times_step HLEN.out HOK.out hx hS HV.out)
      obtain ⟨p, hp⟩ : ∃ p, p = x * q := ⟨_, rfl⟩
      have hpi : (x : Int) * q = (p : Int) := by rw [hp, Int.natCast_mul]
      have hp1 : p ≤ 4294967295 * q := by rw [hp]; exact Nat.mul_le_mul_right _ (by omega)
      rw [← hp] at hS
      have hSi : (p : Int) + cc = (S : Int) := by omega
      have hS1 : S / BB ≤ q := by unfold BB; omega
      have hpb : p ≤ 4611686018427387904 := by omega
      have hSb : S ≤ 4611686018427387904 := by omega
      obtain ⟨i0, ti, tz0, tz1, tz2⟩ := info_parts Tryz.infoU32
      have hbs := HBL.out.size
      clear hS hp hx hp1
      obtain ⟨M, hM⟩ : ∃ M, S % 4294967296 = M := ⟨_, rfl⟩
      have HM := Lib.hid (show S % BB = M from hM)
      rw [HM.out] at HS
      have hMi : (S : Int) % 4294967296 = (M : Int) := by omega
      have hMb : M < 4294967296 := by omega
      clear hM
      go_wp2_with (at_builtin; refine wpList_append_lies _ rfl _ _ _ rfl w.heap.size 39 i0 _ 1 4 Tryz.underlying26 ti tz0 tz1 tz2 rfl (by omega) u5 i (U o) rfl (by exact HOW.out.alloc _) ⟨wr.heap.size, 0, none⟩ 1 1 [.int .u32 (M : Int)] rfl rfl (by exact World.news_of_block (cs := #[.int .u32 (M : Int)]) (t := 39) (fr := (0, 0)) (heap_alloc_new wr _)) (by simp [Value.oneCell']) (by omega) (by unfold maxLen; omega) (by omega) (by simp; omega) (wr.heap.size + 1) (by simp) ?_)
      intro g cap w3 hown hgrow hat hlt2
      have HO3 := Lib.hid (show w3.ownsRow w.heap.size tU 1 (.slice (some ⟨g, 0, none⟩) (i + 1) cap) (i + 1) (U (o ++ [M])) by rw [U_append]; exact hown)
      have HL3 := Lib.hid (show Below w.heap.size w w3 from (HBL.out.alloc (by omega) _).grown hgrow (by simp; omega) (fun k hk => (HOW.out.lt k hk).1))
      clear hown hgrow hat hlt2 ti tz0 tz1 tz2
      go_wp2_with fail
      go_roundg (n - (i + 1))
      case measure => omega
      case rel => exact ⟨i + 1, S / BB, o ++ [M], by go_num, by unfold BB; simp, hS1, rfl, by omega, Lib.hid HS.out.1, Lib.hid HS.out.2.1, HO3, Lib.hid HS.out.2.2, HL3⟩
    · have hd : decide ((i : Int) < n) = false := decide_eq_false (by omega)
      obtain rfl : i = n := by omega
      obtain ⟨i0, ti, tz0, tz1, tz2⟩ := info_parts Tryz.infoU32
      have hbs := HBL.out.size
      have hcb : cc < 4294967296 := by omega
      have HVV := Lib.hid (show val (o ++ [cc]) = val a * q by
        rw [val_snoc, HLEN.out, HV.out, List.take_of_length_le (by rw [HLN.out]; omega)])
      have HOK2 := Lib.hid (show ok (o ++ [cc]) from ok_append.2 ⟨HOK.out, ok_cons.2 ⟨by unfold BB; omega, ok_nil⟩⟩)
      clear hst
      go_wp2_with (at_builtin; refine wpList_append_lies _ rfl _ _ _ rfl w.heap.size 39 i0 _ 1 4 Tryz.underlying26 ti tz0 tz1 tz2 rfl (by omega) u5 i (U o) rfl (by exact HOW.out.alloc _) ⟨wr.heap.size, 0, none⟩ 1 1 [.int .u32 (cc : Int)] rfl rfl (by exact World.news_of_block (cs := #[.int .u32 (cc : Int)]) (t := 39) (fr := (0, 0)) (heap_alloc_new wr _)) (by simp [Value.oneCell']) (by omega) (by unfold maxLen; omega) (by omega) (by simp; omega) (wr.heap.size + 1) (by simp) ?_)
      intro g cap w3 hown hgrow hat hlt2
      have HO3 := Lib.hid (show w3.ownsRow w.heap.size tU 1 (.slice (some ⟨g, 0, none⟩) (i + 1) cap) (i + 1) (U (o ++ [cc])) by rw [U_append]; exact hown)
      have HL3 := Lib.hid (show Below w.heap.size w w3 from (HBL.out.alloc (by omega) _).grown hgrow (by simp; omega) (fun k hk => (HOW.out.lt k hk).1))
      clear hown hgrow hat hlt2 ti tz0 tz1 tz2
      obtain ⟨A', c', hu, hnw⟩ := Nw.of_own HO3.out HOK2.out
      injection hu with hu1 hu2 hu3
      subst hu1 hu3
      have HN := Lib.hid hnw.sl
      clear hnw
      go_wp2_with fail
      go_ret
      exact ⟨_, _, _, rfl, HN, HVV, HL3⟩
end Go.Proofs.YtnogfceojmnjiaaGreatDoor
