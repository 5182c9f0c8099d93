/-
  The walks of flowpiperef02.bits and Valid.
  The walk of ratio.Of.
  The walk of the law RatioSigns.
-/
import Derived.Test.YtnogfceojmnjiaaGreatDoorDyD
import Derived.Test.YtnogfceojmnjiaaGreatDoorRaSS
import Derived.Test.YtnogfceojmnjiaaGreatDoorRaF
set_option linter.unusedVariables false
namespace Go.Fl.Dy
open Go.Fl.Nm
theorem blen_half {x : Nat} (h : x ≠ 0) : blen x = blen (x / 2) + 1 := by
  by_cases h2 : x / 2 = 0
  · obtain rfl : x = 1 := by omega
    rfl
  · have e := blen_mul (x := x / 2) (k := 1) (r := x % 2) h2 (by omega)
    rw [show 2 ^ 1 * (x / 2) + x % 2 = x by omega] at e
    omega
theorem blen_top {l : List Nat} {y : Nat} (h : ok l) (hn : l ≠ []) (hy : l[l.length - 1]? = some y) (h0 : y ≠ 0) : blen (val l) = 32 * (l.length - 1) + blen y := by
  have hp : 0 < l.length := by cases l with | nil => exact absurd rfl hn | cons a t => simp
  have ht : tl l = l.length := tl_unique (Nat.le_refl _) (by simp) (fun x _ hx => by rw [hy] at hx; injection hx with hx; rw [← hx]; exact h0)
  have := blen_val (x := y) h (by omega) (by rw [ht]; exact hy)
  rw [ht] at this
  exact this
theorem and_one32 (x : Nat) (h : x < 4294967296) : Go.bits .and .u32 (x : Int) 1 = ((x % 2 : Nat) : Int) := by
  have e := bv_and (BitVec.ofNat 32 x) 1#32
  have h1 : ((BitVec.ofNat 32 x).toNat : Int) = (x : Int) := by rw [BitVec.toNat_ofNat, Nat.mod_eq_of_lt (by omega)]
  rw [h1] at e
  refine Eq.trans e ?_
  rw [BitVec.toNat_and, BitVec.toNat_ofNat, Nat.mod_eq_of_lt (by omega)]
  show ((x &&& 1 : Nat) : Int) = _
  rw [Nat.and_one_is_mod]
end Go.Fl.Dy
namespace Go.Proofs.YtnogfceojmnjiaaGreatDoor
open Go.RowKit Go.Fl Go.Fl.Nm Go.Fl.Dy
set_option maxHeartbeats 1000000 in
theorem bits02_any (b off n c y : Nat) (w : World) (hn : 0 < n) (hn2 : n ≤ 256) (hy : w.cell? ⟨b, off + (n - 1), none⟩ = some (.int .u32 (y : Int))) (hyB : y < 4294967296) :
    Calls Tryz.prog 77 #[.slice (some ⟨b, off, none⟩) n c] w fun e w' => e = .returned (.int .i64 ((32 * (n - 1) + blen y : Nat) : Int)) ∧ w = w' := by
  have dn0 : ((n : Int) == 0) = false := by rw [beq_eq_false_iff_ne]; omega
  have b0 : (0 : Int) ≤ (n : Int) - 1 := by omega
  have b1 : (n : Int) - 1 < n := by omega
  have b2 : ((n : Int) - 1).toNat = n - 1 := by omega
  go_enter Tryz.func77, Tryz.ntmps77
  go_wp2_with fail
  go_loop [3, 4] (fun s x => ∃ (X j : Nat), s = .int .i64 ((32 * (n - 1) + j : Nat) : Int) ∧ x = .int .u32 X ∧ X ≤ y ∧ j ≤ 32 ∧ Hid (blen X + j = blen y)) (fun _ x => (intOf x).toNat)
  case atStart => exact ⟨y, 0, by go_num, rfl, Nat.le_refl _, by omega, Lib.hid (Nat.add_zero _)⟩
  case round =>
    obtain ⟨X, j, rfl, rfl, hX, hj, HJ⟩ := hrel
    by_cases h0 : X = 0
    · subst h0
      have HE := Lib.hid (show j = blen y by rw [← HJ.out, blen_zero, Nat.zero_add])
      go_wp2_with fail
      go_ret
      exact ⟨ret_int (by rw [← HE.out]), rfl⟩
    · have d0 : decide (0 < (X : Int)) = true := decide_eq_true (by omega)
      have HN := Lib.hid (show blen (X / 2) + (j + 1) = blen y by have h1 := HJ.out; have h2 := blen_half h0; omega)
      have hj2 : j + 1 ≤ 32 := by have h1 := HN.out; have h2 : blen y ≤ 32 := blen_le hyB; omega
      go_wp2_with fail
      refine ⟨⟨X / 2, j + 1, ?_, ?_, by omega, hj2, HN⟩, ?_⟩
      · go_num
      · go_num
      · simp [intOf]; omega

set_option maxHeartbeats 2000000 in
theorem valid02_any (ng : Bool) (A : Option Addr) (n c : Nat) (ex : Int) (l : List Nat) (w : World) (h : Sl w A n c l) :
    Calls Tryz.prog 39 #[.agg #[.bool ng, .slice A n c, .int .i64 ex]] w (Ret (.bool (vldL ng l ex)) w) := by
  have H := Lib.hid h
  have hmx := h.max
  unfold maxLen at hmx
  have HLN := Lib.hid h.len
  have HOK := Lib.hid h.ok
  clear h
  by_cases hn0 : n = 0
  · subst hn0
    have HL0 := Lib.hid (List.eq_nil_of_length_eq_zero HLN.out)
    have HR := Lib.hid (show vldL ng l ex = (!ng && decide (ex = 0)) by rw [HL0.out]; exact vldL_nil ng ex)
    cases ng with
    | true =>
      go_enter Tryz.func39, Tryz.ntmps39
      go_wp2_with fail
      obtain ⟨w1, hw⟩ : ∃ z9 : World, z9 = (w.alloc (.cells #[.bool true, .slice A 0 c, .int .i64 ex] 28)) := ⟨_, rfl⟩
      have HB1 := Lib.hid (show Below w.heap.size w w1 by rw [hw]; exact below_a1 _ _)
      have F1a := Lib.hid (H.out.belowW HB1.out)
      have F1d := Lib.hid (show Blk w1 (w.heap.size) 28 #[.bool true, .slice A 0 c, .int .i64 ex] by rw [hw]; exact Blk.new _ _ _)
      rw [← hw]
      clear hw
      have pd0 : (w1).cell? ⟨w.heap.size, 0, none⟩ = some (.bool true) := F1d.out.cell 0
      have fd0 : (w1).frozen? ⟨w.heap.size, 0, none⟩ = false := F1d.out.frozen 0
      have pd1 : (w1).cell? ⟨w.heap.size, 1, none⟩ = some (.slice A 0 c) := F1d.out.cell 1
      have fd1 : (w1).frozen? ⟨w.heap.size, 1, none⟩ = false := F1d.out.frozen 1
      have pd2 : (w1).cell? ⟨w.heap.size, 2, none⟩ = some (.int .i64 ex) := F1d.out.cell 2
      have fd2 : (w1).frozen? ⟨w.heap.size, 2, none⟩ = false := F1d.out.frozen 2
      go_wp2_with fail
      go_ret
      exact ⟨ret_bool (by rw [HR.out]; rfl), HB1⟩
    | false =>
      by_cases he : ex = 0
      · have de : (ex == 0) = true := by simp [he]
        have HR2 := Lib.hid (show vldL false l ex = true by rw [HR.out]; simp [he])
        clear he
        go_enter Tryz.func39, Tryz.ntmps39
        go_wp2_with fail
        obtain ⟨w1, hw⟩ : ∃ z9 : World, z9 = (w.alloc (.cells #[.bool false, .slice A 0 c, .int .i64 ex] 28)) := ⟨_, rfl⟩
        have HB1 := Lib.hid (show Below w.heap.size w w1 by rw [hw]; exact below_a1 _ _)
        have F1a := Lib.hid (H.out.belowW HB1.out)
        have F1d := Lib.hid (show Blk w1 (w.heap.size) 28 #[.bool false, .slice A 0 c, .int .i64 ex] by rw [hw]; exact Blk.new _ _ _)
        rw [← hw]
        clear hw
        have pd0 : (w1).cell? ⟨w.heap.size, 0, none⟩ = some (.bool false) := F1d.out.cell 0
        have fd0 : (w1).frozen? ⟨w.heap.size, 0, none⟩ = false := F1d.out.frozen 0
        have pd1 : (w1).cell? ⟨w.heap.size, 1, none⟩ = some (.slice A 0 c) := F1d.out.cell 1
        have fd1 : (w1).frozen? ⟨w.heap.size, 1, none⟩ = false := F1d.out.frozen 1
        have pd2 : (w1).cell? ⟨w.heap.size, 2, none⟩ = some (.int .i64 ex) := F1d.out.cell 2
        have fd2 : (w1).frozen? ⟨w.heap.size, 2, none⟩ = false := F1d.out.frozen 2
        go_wp2_with fail
        go_ret
        exact ⟨ret_bool (by rw [HR2.out]), HB1⟩
      · have de : (ex == 0) = false := by simp [he]
        have HR2 := Lib.hid (show vldL false l ex = false by rw [HR.out]; simp [he])
        clear he
        go_enter Tryz.func39, Tryz.ntmps39
        go_wp2_with fail
        obtain ⟨w1, hw⟩ : ∃ z9 : World, z9 = (w.alloc (.cells #[.bool false, .slice A 0 c, .int .i64 ex] 28)) := ⟨_, rfl⟩
        have HB1 := Lib.hid (show Below w.heap.size w w1 by rw [hw]; exact below_a1 _ _)
        have F1a := Lib.hid (H.out.belowW HB1.out)
        have F1d := Lib.hid (show Blk w1 (w.heap.size) 28 #[.bool false, .slice A 0 c, .int .i64 ex] by rw [hw]; exact Blk.new _ _ _)
        rw [← hw]
        clear hw
        have pd0 : (w1).cell? ⟨w.heap.size, 0, none⟩ = some (.bool false) := F1d.out.cell 0
        have fd0 : (w1).frozen? ⟨w.heap.size, 0, none⟩ = false := F1d.out.frozen 0
        have pd1 : (w1).cell? ⟨w.heap.size, 1, none⟩ = some (.slice A 0 c) := F1d.out.cell 1
        have fd1 : (w1).frozen? ⟨w.heap.size, 1, none⟩ = false := F1d.out.frozen 1
        have pd2 : (w1).cell? ⟨w.heap.size, 2, none⟩ = some (.int .i64 ex) := F1d.out.cell 2
        have fd2 : (w1).frozen? ⟨w.heap.size, 2, none⟩ = false := F1d.out.frozen 2
        go_wp2_with fail
        go_ret
        exact ⟨ret_bool (by rw [HR2.out]), HB1⟩
  · have dn0 : ((n : Int) == 0) = false := by rw [beq_eq_false_iff_ne]; omega
    obtain ⟨b, off, x, hA, hb, hx, hxB, hx0⟩ := H.out.at_ (i := 0) (by omega)
    obtain ⟨b', off', y, hA', hb', hy, hyB, hy0⟩ := H.out.at_ (i := n - 1) (by omega)
    rw [hA] at hA'
    injection hA' with hA'
    injection hA' with e1 e2
    subst e1 e2 hA
    have HV := Lib.hid (vldL_pos (neg := ng) (e := ex) HOK.out hx (by rw [HLN.out]; exact hy))
    have HT := Lib.hid (fun h0 : y ≠ 0 => blen_top HOK.out (fun e => by have := HLN.out; rw [e] at this; simp at this; omega) (by rw [HLN.out]; exact hy) h0)
    have HZ := Lib.hid (fun h0 : y ≠ 0 => show val l ≠ 0 from fun e => by have h1 := HT.out h0; rw [e, blen_zero] at h1; have := blen_pos h0; omega)
    rw [HLN.out] at HV HT
    clear hx hy hb'
    unfold BB at hxB hyB
    rw [Nat.add_zero] at hx0
    have b0 : (0 : Int) ≤ (n : Int) - 1 := by omega
    have b1 : (n : Int) - 1 < n := by omega
    have b2 : ((n : Int) - 1).toNat = n - 1 := by omega
    by_cases t1 : n ≤ 256
    case neg =>
      have d1 : decide (256 < (n : Int)) = true := decide_eq_true (by omega)
      have HR := Lib.hid (show vldL ng l ex = false by rw [HV.out]; rw [decide_eq_false t1]; rfl)

      go_enter Tryz.func39, Tryz.ntmps39
      go_wp2_with fail
      obtain ⟨w1, hw⟩ : ∃ z9 : World, z9 = (w.alloc (.cells #[.bool ng, .slice (some ⟨b, off, none⟩) n c, .int .i64 ex] 28)) := ⟨_, rfl⟩
      have HB1 := Lib.hid (show Below w.heap.size w w1 by rw [hw]; exact below_a1 _ _)
      have F1a := Lib.hid (H.out.belowW HB1.out)
      have F1d := Lib.hid (show Blk w1 (w.heap.size) 28 #[.bool ng, .slice (some ⟨b, off, none⟩) n c, .int .i64 ex] by rw [hw]; exact Blk.new _ _ _)
      rw [← hw]
      clear hw
      have pd0 : (w1).cell? ⟨w.heap.size, 0, none⟩ = some (.bool ng) := F1d.out.cell 0
      have fd0 : (w1).frozen? ⟨w.heap.size, 0, none⟩ = false := F1d.out.frozen 0
      have pd1 : (w1).cell? ⟨w.heap.size, 1, none⟩ = some (.slice (some ⟨b, off, none⟩) n c) := F1d.out.cell 1
      have fd1 : (w1).frozen? ⟨w.heap.size, 1, none⟩ = false := F1d.out.frozen 1
      have pd2 : (w1).cell? ⟨w.heap.size, 2, none⟩ = some (.int .i64 ex) := F1d.out.cell 2
      have fd2 : (w1).frozen? ⟨w.heap.size, 2, none⟩ = false := F1d.out.frozen 2
      have c0 : w1.cell? ⟨b, off, none⟩ = some (.int .u32 x) := HB1.out.cell (p := ⟨b, off, none⟩) hb ▸ hx0
      have c1 : w1.cell? ⟨b, off + (n - 1), none⟩ = some (.int .u32 y) := HB1.out.cell (p := ⟨b, off + (n - 1), none⟩) hb ▸ hy0
      go_wp2_with fail
      go_ret
      exact ⟨ret_bool (by rw [HR.out]), HB1⟩
    have d1 : decide (256 < (n : Int)) = false := decide_eq_false (by omega)
    by_cases t2 : y ≠ 0
    case neg =>
      have d2 : ((y : Int) == 0) = true := by rw [beq_iff_eq]; omega
      have HR := Lib.hid (show vldL ng l ex = false by rw [HV.out]; rw [decide_eq_false t2]; simp)

      go_enter Tryz.func39, Tryz.ntmps39
      go_wp2_with fail
      obtain ⟨w1, hw⟩ : ∃ z9 : World, z9 = (w.alloc (.cells #[.bool ng, .slice (some ⟨b, off, none⟩) n c, .int .i64 ex] 28)) := ⟨_, rfl⟩
      have HB1 := Lib.hid (show Below w.heap.size w w1 by rw [hw]; exact below_a1 _ _)
      have F1a := Lib.hid (H.out.belowW HB1.out)
      have F1d := Lib.hid (show Blk w1 (w.heap.size) 28 #[.bool ng, .slice (some ⟨b, off, none⟩) n c, .int .i64 ex] by rw [hw]; exact Blk.new _ _ _)
      rw [← hw]
      clear hw
      have pd0 : (w1).cell? ⟨w.heap.size, 0, none⟩ = some (.bool ng) := F1d.out.cell 0
      have fd0 : (w1).frozen? ⟨w.heap.size, 0, none⟩ = false := F1d.out.frozen 0
      have pd1 : (w1).cell? ⟨w.heap.size, 1, none⟩ = some (.slice (some ⟨b, off, none⟩) n c) := F1d.out.cell 1
      have fd1 : (w1).frozen? ⟨w.heap.size, 1, none⟩ = false := F1d.out.frozen 1
      have pd2 : (w1).cell? ⟨w.heap.size, 2, none⟩ = some (.int .i64 ex) := F1d.out.cell 2
      have fd2 : (w1).frozen? ⟨w.heap.size, 2, none⟩ = false := F1d.out.frozen 2
      have c0 : w1.cell? ⟨b, off, none⟩ = some (.int .u32 x) := HB1.out.cell (p := ⟨b, off, none⟩) hb ▸ hx0
      have c1 : w1.cell? ⟨b, off + (n - 1), none⟩ = some (.int .u32 y) := HB1.out.cell (p := ⟨b, off + (n - 1), none⟩) hb ▸ hy0
      go_wp2_with fail
      go_ret
      exact ⟨ret_bool (by rw [HR.out]), HB1⟩
    have d2 : ((y : Int) == 0) = false := by rw [beq_eq_false_iff_ne]; omega
    have HA1 := Lib.hid (and_one32 x hxB)
    by_cases t3 : x % 2 = 1
    case neg =>
      have d3 : bits .and .u32 (x : Int) 1 = 0 := by rw [HA1.out]; omega
      have HR := Lib.hid (show vldL ng l ex = false by rw [HV.out]; rw [decide_eq_false t3]; simp)

      go_enter Tryz.func39, Tryz.ntmps39
      go_wp2_with fail
      obtain ⟨w1, hw⟩ : ∃ z9 : World, z9 = (w.alloc (.cells #[.bool ng, .slice (some ⟨b, off, none⟩) n c, .int .i64 ex] 28)) := ⟨_, rfl⟩
      have HB1 := Lib.hid (show Below w.heap.size w w1 by rw [hw]; exact below_a1 _ _)
      have F1a := Lib.hid (H.out.belowW HB1.out)
      have F1d := Lib.hid (show Blk w1 (w.heap.size) 28 #[.bool ng, .slice (some ⟨b, off, none⟩) n c, .int .i64 ex] by rw [hw]; exact Blk.new _ _ _)
      rw [← hw]
      clear hw
      have pd0 : (w1).cell? ⟨w.heap.size, 0, none⟩ = some (.bool ng) := F1d.out.cell 0
      have fd0 : (w1).frozen? ⟨w.heap.size, 0, none⟩ = false := F1d.out.frozen 0
      have pd1 : (w1).cell? ⟨w.heap.size, 1, none⟩ = some (.slice (some ⟨b, off, none⟩) n c) := F1d.out.cell 1
      have fd1 : (w1).frozen? ⟨w.heap.size, 1, none⟩ = false := F1d.out.frozen 1
      have pd2 : (w1).cell? ⟨w.heap.size, 2, none⟩ = some (.int .i64 ex) := F1d.out.cell 2
      have fd2 : (w1).frozen? ⟨w.heap.size, 2, none⟩ = false := F1d.out.frozen 2
      have c0 : w1.cell? ⟨b, off, none⟩ = some (.int .u32 x) := HB1.out.cell (p := ⟨b, off, none⟩) hb ▸ hx0
      have c1 : w1.cell? ⟨b, off + (n - 1), none⟩ = some (.int .u32 y) := HB1.out.cell (p := ⟨b, off + (n - 1), none⟩) hb ▸ hy0
      go_wp2_with fail
      go_ret
      exact ⟨ret_bool (by rw [HR.out]), HB1⟩
    have d3 : bits .and .u32 (x : Int) 1 = 1 := by rw [HA1.out]; omega
    have HI := Lib.hid (show vldL ng l ex = inR (val l) ex by rw [HV.out, decide_eq_true t1, decide_eq_true t2, decide_eq_true t3]; rfl)
    have HI2 := Lib.hid (inR_iff (e := ex) (HZ.out t2))
    by_cases t4 : ex < -16384
    case pos =>
      have d4 : decide (ex < -16384) = true := decide_eq_true t4
      have HR := Lib.hid (show vldL ng l ex = false by rw [HI.out, Bool.eq_false_iff]; intro h; have := HI2.out.1 h; omega)

      go_enter Tryz.func39, Tryz.ntmps39
      go_wp2_with fail
      obtain ⟨w1, hw⟩ : ∃ z9 : World, z9 = (w.alloc (.cells #[.bool ng, .slice (some ⟨b, off, none⟩) n c, .int .i64 ex] 28)) := ⟨_, rfl⟩
      have HB1 := Lib.hid (show Below w.heap.size w w1 by rw [hw]; exact below_a1 _ _)
      have F1a := Lib.hid (H.out.belowW HB1.out)
      have F1d := Lib.hid (show Blk w1 (w.heap.size) 28 #[.bool ng, .slice (some ⟨b, off, none⟩) n c, .int .i64 ex] by rw [hw]; exact Blk.new _ _ _)
      rw [← hw]
      clear hw
      have pd0 : (w1).cell? ⟨w.heap.size, 0, none⟩ = some (.bool ng) := F1d.out.cell 0
      have fd0 : (w1).frozen? ⟨w.heap.size, 0, none⟩ = false := F1d.out.frozen 0
      have pd1 : (w1).cell? ⟨w.heap.size, 1, none⟩ = some (.slice (some ⟨b, off, none⟩) n c) := F1d.out.cell 1
      have fd1 : (w1).frozen? ⟨w.heap.size, 1, none⟩ = false := F1d.out.frozen 1
      have pd2 : (w1).cell? ⟨w.heap.size, 2, none⟩ = some (.int .i64 ex) := F1d.out.cell 2
      have fd2 : (w1).frozen? ⟨w.heap.size, 2, none⟩ = false := F1d.out.frozen 2
      have c0 : w1.cell? ⟨b, off, none⟩ = some (.int .u32 x) := HB1.out.cell (p := ⟨b, off, none⟩) hb ▸ hx0
      have c1 : w1.cell? ⟨b, off + (n - 1), none⟩ = some (.int .u32 y) := HB1.out.cell (p := ⟨b, off + (n - 1), none⟩) hb ▸ hy0
      go_wp2_with fail
      go_ret
      exact ⟨ret_bool (by rw [HR.out]), HB1⟩
    have d4 : decide (ex < -16384) = false := decide_eq_false t4
    by_cases t5 : 16384 < ex
    case pos =>
      have d5 : decide (16384 < ex) = true := decide_eq_true t5
      have HR := Lib.hid (show vldL ng l ex = false by rw [HI.out, Bool.eq_false_iff]; intro h; have := HI2.out.1 h; omega)

      go_enter Tryz.func39, Tryz.ntmps39
      go_wp2_with fail
      obtain ⟨w1, hw⟩ : ∃ z9 : World, z9 = (w.alloc (.cells #[.bool ng, .slice (some ⟨b, off, none⟩) n c, .int .i64 ex] 28)) := ⟨_, rfl⟩
      have HB1 := Lib.hid (show Below w.heap.size w w1 by rw [hw]; exact below_a1 _ _)
      have F1a := Lib.hid (H.out.belowW HB1.out)
      have F1d := Lib.hid (show Blk w1 (w.heap.size) 28 #[.bool ng, .slice (some ⟨b, off, none⟩) n c, .int .i64 ex] by rw [hw]; exact Blk.new _ _ _)
      rw [← hw]
      clear hw
      have pd0 : (w1).cell? ⟨w.heap.size, 0, none⟩ = some (.bool ng) := F1d.out.cell 0
      have fd0 : (w1).frozen? ⟨w.heap.size, 0, none⟩ = false := F1d.out.frozen 0
      have pd1 : (w1).cell? ⟨w.heap.size, 1, none⟩ = some (.slice (some ⟨b, off, none⟩) n c) := F1d.out.cell 1
      have fd1 : (w1).frozen? ⟨w.heap.size, 1, none⟩ = false := F1d.out.frozen 1
      have pd2 : (w1).cell? ⟨w.heap.size, 2, none⟩ = some (.int .i64 ex) := F1d.out.cell 2
      have fd2 : (w1).frozen? ⟨w.heap.size, 2, none⟩ = false := F1d.out.frozen 2
      have c0 : w1.cell? ⟨b, off, none⟩ = some (.int .u32 x) := HB1.out.cell (p := ⟨b, off, none⟩) hb ▸ hx0
      have c1 : w1.cell? ⟨b, off + (n - 1), none⟩ = some (.int .u32 y) := HB1.out.cell (p := ⟨b, off + (n - 1), none⟩) hb ▸ hy0
      go_wp2_with fail
      go_ret
      exact ⟨ret_bool (by rw [HR.out]), HB1⟩
    have d5 : decide (16384 < ex) = false := decide_eq_false t5
    obtain ⟨B, hB⟩ : ∃ B, blen (val l) = B := ⟨_, rfl⟩
    rw [hB] at HI2 HT
    have B1 : B ≤ 8192 := by rw [HT.out t2]; have h2 : blen y ≤ 32 := blen_le hyB; omega
    clear hB
    by_cases t6 : B ≤ 4096
    case neg =>
      have d6 : decide (B ≤ 4096) = false := decide_eq_false t6
      have d6' : decide ((B : Int) ≤ 4096) = false := decide_eq_false (by omega)
      have HR := Lib.hid (show vldL ng l ex = false by rw [HI.out, Bool.eq_false_iff]; intro h; have := HI2.out.1 h; omega)

      go_enter Tryz.func39, Tryz.ntmps39
      go_wp2_with fail
      obtain ⟨w1, hw⟩ : ∃ z9 : World, z9 = (w.alloc (.cells #[.bool ng, .slice (some ⟨b, off, none⟩) n c, .int .i64 ex] 28)) := ⟨_, rfl⟩
      have HB1 := Lib.hid (show Below w.heap.size w w1 by rw [hw]; exact below_a1 _ _)
      have F1a := Lib.hid (H.out.belowW HB1.out)
      have F1d := Lib.hid (show Blk w1 (w.heap.size) 28 #[.bool ng, .slice (some ⟨b, off, none⟩) n c, .int .i64 ex] by rw [hw]; exact Blk.new _ _ _)
      rw [← hw]
      clear hw
      have pd0 : (w1).cell? ⟨w.heap.size, 0, none⟩ = some (.bool ng) := F1d.out.cell 0
      have fd0 : (w1).frozen? ⟨w.heap.size, 0, none⟩ = false := F1d.out.frozen 0
      have pd1 : (w1).cell? ⟨w.heap.size, 1, none⟩ = some (.slice (some ⟨b, off, none⟩) n c) := F1d.out.cell 1
      have fd1 : (w1).frozen? ⟨w.heap.size, 1, none⟩ = false := F1d.out.frozen 1
      have pd2 : (w1).cell? ⟨w.heap.size, 2, none⟩ = some (.int .i64 ex) := F1d.out.cell 2
      have fd2 : (w1).frozen? ⟨w.heap.size, 2, none⟩ = false := F1d.out.frozen 2
      have c0 : w1.cell? ⟨b, off, none⟩ = some (.int .u32 x) := HB1.out.cell (p := ⟨b, off, none⟩) hb ▸ hx0
      have c1 : w1.cell? ⟨b, off + (n - 1), none⟩ = some (.int .u32 y) := HB1.out.cell (p := ⟨b, off + (n - 1), none⟩) hb ▸ hy0
      go_wp2_with fail
      refine (bits02_any b off n c y w1 (by omega) t1 c1 hyB).mono ?_
      rw [← HT.out t2]
      rintro e w' ⟨rfl, rfl⟩
      go_wp2_with fail
      go_ret
      exact ⟨ret_bool (by rw [HR.out]), HB1⟩
    have d6 : decide (B ≤ 4096) = true := decide_eq_true t6
    have d6' : decide ((B : Int) ≤ 4096) = true := decide_eq_true (by omega)
    by_cases t7 : (B : Int) + ex ≤ 16384
    case neg =>
      have d7 : decide ((B : Int) + ex ≤ 16384) = false := decide_eq_false t7
      have HR := Lib.hid (show vldL ng l ex = false by rw [HI.out, Bool.eq_false_iff]; intro h; have := HI2.out.1 h; omega)

      go_enter Tryz.func39, Tryz.ntmps39
      go_wp2_with fail
      obtain ⟨w1, hw⟩ : ∃ z9 : World, z9 = (w.alloc (.cells #[.bool ng, .slice (some ⟨b, off, none⟩) n c, .int .i64 ex] 28)) := ⟨_, rfl⟩
      have HB1 := Lib.hid (show Below w.heap.size w w1 by rw [hw]; exact below_a1 _ _)
      have F1a := Lib.hid (H.out.belowW HB1.out)
      have F1d := Lib.hid (show Blk w1 (w.heap.size) 28 #[.bool ng, .slice (some ⟨b, off, none⟩) n c, .int .i64 ex] by rw [hw]; exact Blk.new _ _ _)
      rw [← hw]
      clear hw
      have pd0 : (w1).cell? ⟨w.heap.size, 0, none⟩ = some (.bool ng) := F1d.out.cell 0
      have fd0 : (w1).frozen? ⟨w.heap.size, 0, none⟩ = false := F1d.out.frozen 0
      have pd1 : (w1).cell? ⟨w.heap.size, 1, none⟩ = some (.slice (some ⟨b, off, none⟩) n c) := F1d.out.cell 1
      have fd1 : (w1).frozen? ⟨w.heap.size, 1, none⟩ = false := F1d.out.frozen 1
      have pd2 : (w1).cell? ⟨w.heap.size, 2, none⟩ = some (.int .i64 ex) := F1d.out.cell 2
      have fd2 : (w1).frozen? ⟨w.heap.size, 2, none⟩ = false := F1d.out.frozen 2
      have c0 : w1.cell? ⟨b, off, none⟩ = some (.int .u32 x) := HB1.out.cell (p := ⟨b, off, none⟩) hb ▸ hx0
      have c1 : w1.cell? ⟨b, off + (n - 1), none⟩ = some (.int .u32 y) := HB1.out.cell (p := ⟨b, off + (n - 1), none⟩) hb ▸ hy0
      go_wp2_with fail
      refine (bits02_any b off n c y w1 (by omega) t1 c1 hyB).mono ?_
      rw [← HT.out t2]
      rintro e w' ⟨rfl, rfl⟩
      go_wp2_with fail
      go_ret
      exact ⟨ret_bool (by rw [HR.out]), HB1⟩
    have d7 : decide ((B : Int) + ex ≤ 16384) = true := decide_eq_true t7
    have HR := Lib.hid (show vldL ng l ex = true by rw [HI.out]; exact HI2.out.2 ⟨t6, by omega, by omega, t7⟩)

    go_enter Tryz.func39, Tryz.ntmps39
    go_wp2_with fail
    obtain ⟨w1, hw⟩ : ∃ z9 : World, z9 = (w.alloc (.cells #[.bool ng, .slice (some ⟨b, off, none⟩) n c, .int .i64 ex] 28)) := ⟨_, rfl⟩
    have HB1 := Lib.hid (show Below w.heap.size w w1 by rw [hw]; exact below_a1 _ _)
    have F1a := Lib.hid (H.out.belowW HB1.out)
    have F1d := Lib.hid (show Blk w1 (w.heap.size) 28 #[.bool ng, .slice (some ⟨b, off, none⟩) n c, .int .i64 ex] by rw [hw]; exact Blk.new _ _ _)
    rw [← hw]
    clear hw
    have pd0 : (w1).cell? ⟨w.heap.size, 0, none⟩ = some (.bool ng) := F1d.out.cell 0
    have fd0 : (w1).frozen? ⟨w.heap.size, 0, none⟩ = false := F1d.out.frozen 0
    have pd1 : (w1).cell? ⟨w.heap.size, 1, none⟩ = some (.slice (some ⟨b, off, none⟩) n c) := F1d.out.cell 1
    have fd1 : (w1).frozen? ⟨w.heap.size, 1, none⟩ = false := F1d.out.frozen 1
    have pd2 : (w1).cell? ⟨w.heap.size, 2, none⟩ = some (.int .i64 ex) := F1d.out.cell 2
    have fd2 : (w1).frozen? ⟨w.heap.size, 2, none⟩ = false := F1d.out.frozen 2
    have c0 : w1.cell? ⟨b, off, none⟩ = some (.int .u32 x) := HB1.out.cell (p := ⟨b, off, none⟩) hb ▸ hx0
    have c1 : w1.cell? ⟨b, off + (n - 1), none⟩ = some (.int .u32 y) := HB1.out.cell (p := ⟨b, off + (n - 1), none⟩) hb ▸ hy0
    go_wp2_with fail
    refine (bits02_any b off n c y w1 (by omega) t1 c1 hyB).mono ?_
    rw [← HT.out t2]
    rintro e w' ⟨rfl, rfl⟩
    go_wp2_with fail
    go_ret
    exact ⟨ret_bool (by rw [HR.out]), HB1⟩
end Go.Proofs.YtnogfceojmnjiaaGreatDoor
namespace Go.Fl.Dy
open Go.Fl.Nm
/-- Whether a valid dyadic number may be a ratio. -/
def ofOk (x : D) : Bool := decide ((blen x.k : Int) ≤ 31) && decide (-30 ≤ x.e) && decide ((blen x.k : Int) + x.e ≤ 31)
/-- The ratio of a valid dyadic number, and whether there is one. -/
def ofV (x : D) : Int × Int × Bool :=
  if ofOk x = true then
    ((Rt.make ((if x.neg then -(x.k : Int) else x.k) * 2 ^ x.e.toNat) (2 ^ (-x.e).toNat)).1, (Rt.make ((if x.neg then -(x.k : Int) else x.k) * 2 ^ x.e.toNat) (2 ^ (-x.e).toNat)).2.1, decide ((Rt.make ((if x.neg then -(x.k : Int) else x.k) * 2 ^ x.e.toNat) (2 ^ (-x.e).toNat)).2.2 = 0))
  else (0, 0, false)
def ofD (ng : Bool) (l : List Nat) (ex : Int) : Int × Int × Bool := if vldL ng l ex = true then ofV ⟨ng, val l, ex⟩ else (0, 0, false)
theorem limbs_short {k : Nat} (h : blen k ≤ 31) (h0 : k ≠ 0) : limbs k = [k] := by
  have hk := blen_lt h
  rw [limbs_pos h0, BB_eq, Nat.mod_eq_of_lt (by omega), Nat.div_eq_of_lt (by omega), limbs_zero]
theorem pow_bd {k : Nat} {e : Int} (h0 : k ≠ 0) (h : (blen k : Int) + e ≤ 31) (he : 0 ≤ e) : k * 2 ^ e.toNat < 2147483648 := by
  have h1 := blen_lt (Nat.le_refl (blen k))
  have h2 : k * 2 ^ e.toNat < 2 ^ blen k * 2 ^ e.toNat := Nat.mul_lt_mul_of_pos_right h1 (Nat.two_pow_pos _)
  rw [← Nat.pow_add] at h2
  exact Nat.lt_of_lt_of_le h2 (Nat.pow_le_pow_right (n := 2) (by decide) (by omega : blen k + e.toNat ≤ 31))
theorem or_zero (k : Nat) (h : k < 4294967296) : Go.bits .or .i64 0 (k : Int) = (k : Int) := by
  have := bits_join .i64 63 (by decide) (fun n h0 h1 => by rw [IntKind.wrap_i64]; omega) 32 0 k (by omega) (by omega) (by omega) (by omega) (by omega) (by omega)
  rw [this]; omega
theorem wrap64_nat (k : Nat) (h : k ≤ 1073741824) : RowKit.wrap64 (k : Int) = (k : Int) := by unfold RowKit.wrap64; omega
theorem wrap64_in {a : Int} (h : -2147483648 < a ∧ a < 2147483648) : RowKit.wrap64 a = a := by unfold RowKit.wrap64; omega
theorem ofM_bd {x : D} (hb : (blen x.k : Int) ≤ 31) (h : (blen x.k : Int) + x.e ≤ 31) : -2147483648 < (if x.neg then -(x.k : Int) else x.k) * 2 ^ x.e.toNat ∧ (if x.neg then -(x.k : Int) else x.k) * 2 ^ x.e.toNat < 2147483648 := by
  have h1 : x.k * 2 ^ x.e.toNat < 2147483648 := by
    by_cases h0 : x.k = 0
    · rw [h0]; simp
    · by_cases he : 0 ≤ x.e
      · exact pow_bd h0 h he
      · rw [show x.e.toNat = 0 by omega, Nat.pow_zero, Nat.mul_one]
        exact blen_lt (k := 31) (by omega)
  have h2 : ((x.k * 2 ^ x.e.toNat : Nat) : Int) = (x.k : Int) * 2 ^ x.e.toNat := by rw [Int.natCast_mul, Int.natCast_pow]; rfl
  cases x.neg with
  | true => simp only [if_true]; rw [Int.neg_mul, ← h2]; omega
  | false => simp only [Bool.false_eq_true, if_false]; rw [← h2]; omega
theorem pow_le30 {e : Int} (h : -30 ≤ e) : 2 ^ (-e).toNat ≤ 1073741824 := Nat.pow_le_pow_right (n := 2) (by decide) (by omega : (-e).toNat ≤ 30)
end Go.Fl.Dy
namespace Go.Proofs.YtnogfceojmnjiaaGreatDoor
open Go.RowKit Go.Fl Go.Fl.Nm Go.Fl.Dy Go.Fl.Rt
/-- A ratio and a bool. -/
def RtB (r : Int × Int × Bool) (w : World) (e : Ending) (w' : World) : Prop := e = .returned (.tuple #[.agg #[.int .i64 r.1, .int .i64 r.2.1], .bool r.2.2]) ∧ Hid (Below w.heap.size w w')

set_option maxHeartbeats 1000000 in
theorem top_nought (x : D) (A : Option Addr) (m c : Nat) (w : World) (hx : Sl w A m c (limbs x.k)) (vx : vld x) (hz : x.k = 0) :
    Calls Tryz.prog 80 #[.agg #[.bool x.neg, .slice A m c, .int .i64 x.e]] w (Ret (.int .i64 0) w) := by
  have HX := Lib.hid hx
  have VX := Lib.hid vx
  obtain rfl : m = 0 := by rw [← hx.len, hz, limbs_zero]; rfl
  clear hx vx hz
  go_enter Tryz.func80, Tryz.ntmps80
  go_wp2_with fail
  obtain ⟨w1, hw⟩ : ∃ z9 : World, z9 = (w.alloc (.cells #[.bool x.neg, .slice A 0 c, .int .i64 x.e] 28)) := ⟨_, rfl⟩
  have HB1 := Lib.hid (show Below w.heap.size w w1 by rw [hw]; exact below_a1 _ _)
  have F1x := Lib.hid (HX.out.belowW HB1.out)
  have F1kx := Lib.hid (show Blk w1 (w.heap.size) 28 #[.bool x.neg, .slice A 0 c, .int .i64 x.e] by rw [hw]; exact Blk.new _ _ _)
  rw [← hw]
  clear hw
  have pkx0 : (w1).cell? ⟨w.heap.size, 0, none⟩ = some (.bool x.neg) := F1kx.out.cell 0
  have fkx0 : (w1).frozen? ⟨w.heap.size, 0, none⟩ = false := F1kx.out.frozen 0
  have pkx1 : (w1).cell? ⟨w.heap.size, 1, none⟩ = some (.slice A 0 c) := F1kx.out.cell 1
  have fkx1 : (w1).frozen? ⟨w.heap.size, 1, none⟩ = false := F1kx.out.frozen 1
  have pkx2 : (w1).cell? ⟨w.heap.size, 2, none⟩ = some (.int .i64 x.e) := F1kx.out.cell 2
  have fkx2 : (w1).frozen? ⟨w.heap.size, 2, none⟩ = false := F1kx.out.frozen 2
  go_wp2_with fail
  refine (valid_yes x A 0 c w1 F1x.out VX.out).mono ?_
  rintro e w2 ⟨rfl, HB2⟩
  have F2x := Lib.hid (F1x.out.belowW HB2.out)
  have F2kx := Lib.hid (F1kx.out.belowW HB2.out)
  have HL2 := Lib.hid (HB1.out.trans (HB2.out.mono HB1.out.size))
  clear pkx0 fkx0 pkx1 fkx1 pkx2 fkx2
  have pkx0 : (w2).cell? ⟨w.heap.size, 0, none⟩ = some (.bool x.neg) := F2kx.out.cell 0
  have fkx0 : (w2).frozen? ⟨w.heap.size, 0, none⟩ = false := F2kx.out.frozen 0
  have pkx1 : (w2).cell? ⟨w.heap.size, 1, none⟩ = some (.slice A 0 c) := F2kx.out.cell 1
  have fkx1 : (w2).frozen? ⟨w.heap.size, 1, none⟩ = false := F2kx.out.frozen 1
  have pkx2 : (w2).cell? ⟨w.heap.size, 2, none⟩ = some (.int .i64 x.e) := F2kx.out.cell 2
  have fkx2 : (w2).frozen? ⟨w.heap.size, 2, none⟩ = false := F2kx.out.frozen 2
  go_wp2_with fail
  go_ret
  exact ⟨rfl, HL2⟩
theorem top_all (x : D) (A : Option Addr) (m c : Nat) (w : World) (hx : Sl w A m c (limbs x.k)) (vx : vld x) :
    Calls Tryz.prog 80 #[.agg #[.bool x.neg, .slice A m c, .int .i64 x.e]] w (Ret (.int .i64 ((blen x.k : Int) + x.e)) w) := by
  by_cases hz : x.k = 0
  · have e : (blen x.k : Int) + x.e = 0 := by
      rcases vx with ⟨_, _, h⟩ | ⟨h, _⟩
      · rw [hz, h, blen_zero]; rfl
      · rw [hz] at h; simp at h
    rw [e]
    exact top_nought x A m c w hx vx hz
  · exact top_any x A m c w hx vx hz

set_option maxHeartbeats 1000000 in
theorem of_no (ng : Bool) (A : Option Addr) (m c : Nat) (ex : Int) (l : List Nat) (w : World) (hx : Sl w A m c l) (hv : vldL ng l ex = false) :
    Calls Tryz.prog 41 #[.agg #[.bool ng, .slice A m c, .int .i64 ex]] w (RtB (0, 0, false) w) := by
  have HX := Lib.hid hx
  have VX := Lib.hid hv
  clear hx hv
  go_enter Tryz.func41, Tryz.ntmps41
  go_wp2_with fail
  obtain ⟨w1, hw⟩ : ∃ z9 : World, z9 = ((w.alloc (.cells #[.bool ng, .slice A m c, .int .i64 ex] 28)).alloc (.cells #[.int .i64 0, .int .i64 0] 23)) := ⟨_, rfl⟩
  have HB1 := Lib.hid (show Below w.heap.size w w1 by rw [hw]; exact below_a2 _ _ _)
  have F1x := Lib.hid (HX.out.belowW HB1.out)
  have F1kx := Lib.hid (show Blk w1 (w.heap.size) 28 #[.bool ng, .slice A m c, .int .i64 ex] by rw [hw]; exact (Blk.new _ _ _).alloc _)
  have F1r := Lib.hid (show Blk w1 (w.heap.size + 1) 23 #[.int .i64 0, .int .i64 0] by rw [hw]; exact Blk.new1 _ _ _ _)
  rw [← hw]
  clear hw
  have pkx0 : (w1).cell? ⟨w.heap.size, 0, none⟩ = some (.bool ng) := F1kx.out.cell 0
  have fkx0 : (w1).frozen? ⟨w.heap.size, 0, none⟩ = false := F1kx.out.frozen 0
  have pkx1 : (w1).cell? ⟨w.heap.size, 1, none⟩ = some (.slice A m c) := F1kx.out.cell 1
  have fkx1 : (w1).frozen? ⟨w.heap.size, 1, none⟩ = false := F1kx.out.frozen 1
  have pkx2 : (w1).cell? ⟨w.heap.size, 2, none⟩ = some (.int .i64 ex) := F1kx.out.cell 2
  have fkx2 : (w1).frozen? ⟨w.heap.size, 2, none⟩ = false := F1kx.out.frozen 2
  have pr0 : (w1).cell? ⟨w.heap.size + 1, 0, none⟩ = some (.int .i64 0) := F1r.out.cell 0
  have fr0 : (w1).frozen? ⟨w.heap.size + 1, 0, none⟩ = false := F1r.out.frozen 0
  have pr1 : (w1).cell? ⟨w.heap.size + 1, 1, none⟩ = some (.int .i64 0) := F1r.out.cell 1
  have fr1 : (w1).frozen? ⟨w.heap.size + 1, 1, none⟩ = false := F1r.out.frozen 1
  go_wp2_with fail
  refine (valid_any ng A m c ex l w1 F1x.out).mono ?_
  rw [VX.out]
  rintro e w2 ⟨rfl, HB2⟩
  have F2x := Lib.hid (F1x.out.belowW HB2.out)
  have F2kx := Lib.hid (F1kx.out.belowW HB2.out)
  have F2r := Lib.hid (F1r.out.belowW HB2.out)
  have HL2 := Lib.hid (HB1.out.trans (HB2.out.mono HB1.out.size))
  clear pkx0 fkx0 pkx1 fkx1 pkx2 fkx2 pr0 fr0 pr1 fr1
  have pkx0 : (w2).cell? ⟨w.heap.size, 0, none⟩ = some (.bool ng) := F2kx.out.cell 0
  have fkx0 : (w2).frozen? ⟨w.heap.size, 0, none⟩ = false := F2kx.out.frozen 0
  have pkx1 : (w2).cell? ⟨w.heap.size, 1, none⟩ = some (.slice A m c) := F2kx.out.cell 1
  have fkx1 : (w2).frozen? ⟨w.heap.size, 1, none⟩ = false := F2kx.out.frozen 1
  have pkx2 : (w2).cell? ⟨w.heap.size, 2, none⟩ = some (.int .i64 ex) := F2kx.out.cell 2
  have fkx2 : (w2).frozen? ⟨w.heap.size, 2, none⟩ = false := F2kx.out.frozen 2
  have pr0 : (w2).cell? ⟨w.heap.size + 1, 0, none⟩ = some (.int .i64 0) := F2r.out.cell 0
  have fr0 : (w2).frozen? ⟨w.heap.size + 1, 0, none⟩ = false := F2r.out.frozen 0
  have pr1 : (w2).cell? ⟨w.heap.size + 1, 1, none⟩ = some (.int .i64 0) := F2r.out.cell 1
  have fr1 : (w2).frozen? ⟨w.heap.size + 1, 1, none⟩ = false := F2r.out.frozen 1
  go_wp2_with fail
  refine bodyPost_ret (v := .tuple #[.agg #[.int .i64 0, .int .i64 0], .bool false]) (by simp [results, Tryz.results41, go_sem, pr0, pr1]) rfl ?_
  exact ⟨rfl, Lib.hid (store2_below HL2.out F2r.out _ _ (by omega))⟩

set_option maxHeartbeats 2000000 in
theorem of_yes (x : D) (A : Option Addr) (m c : Nat) (w : World) (hx : Sl w A m c (limbs x.k)) (vx : vld x) :
    Calls Tryz.prog 41 #[.agg #[.bool x.neg, .slice A m c, .int .i64 x.e]] w (RtB (ofV x) w) := by
  have HX := Lib.hid hx
  have VX := Lib.hid vx
  have hb := vld_bits vx
  have he := vld_ebd vx
  have HLN := Lib.hid hx.len
  obtain ⟨B, hB⟩ : ∃ B, blen x.k = B := ⟨_, rfl⟩
  obtain ⟨t, ht⟩ : ∃ t, (B : Int) + x.e = t := ⟨_, rfl⟩
  have HBB := Lib.hid hB
  have HTT := Lib.hid (show (blen x.k : Int) + x.e = t by rw [hB]; exact ht)
  have HOK := Lib.hid (show ofOk x = (decide ((B : Int) ≤ 31) && decide (-30 ≤ x.e) && decide (t ≤ 31)) by unfold ofOk; rw [hB, ht])
  have t1 : -20000 ≤ t ∧ t ≤ 30000 := by omega
  rw [hB] at hb
  clear hx vx hB
  by_cases k1 : (B : Int) ≤ 31
  case neg =>
    have d1 : decide (31 < (B : Int)) = true := decide_eq_true (by omega)
    have HR := Lib.hid (show ofV x = (0, 0, false) by unfold ofV; rw [HOK.out, decide_eq_false k1]; rfl)
    rw [HR.out]
    clear ht
    go_enter Tryz.func41, Tryz.ntmps41
    go_wp2_with fail
    obtain ⟨w1, hw⟩ : ∃ z9 : World, z9 = ((w.alloc (.cells #[.bool x.neg, .slice A m c, .int .i64 x.e] 28)).alloc (.cells #[.int .i64 0, .int .i64 0] 23)) := ⟨_, rfl⟩
    have HB1 := Lib.hid (show Below w.heap.size w w1 by rw [hw]; exact below_a2 _ _ _)
    have F1x := Lib.hid (HX.out.belowW HB1.out)
    have F1kx := Lib.hid (show Blk w1 (w.heap.size) 28 #[.bool x.neg, .slice A m c, .int .i64 x.e] by rw [hw]; exact (Blk.new _ _ _).alloc _)
    have F1r := Lib.hid (show Blk w1 (w.heap.size + 1) 23 #[.int .i64 0, .int .i64 0] by rw [hw]; exact Blk.new1 _ _ _ _)
    rw [← hw]
    clear hw
    have pkx0 : (w1).cell? ⟨w.heap.size, 0, none⟩ = some (.bool x.neg) := F1kx.out.cell 0
    have fkx0 : (w1).frozen? ⟨w.heap.size, 0, none⟩ = false := F1kx.out.frozen 0
    have pkx1 : (w1).cell? ⟨w.heap.size, 1, none⟩ = some (.slice A m c) := F1kx.out.cell 1
    have fkx1 : (w1).frozen? ⟨w.heap.size, 1, none⟩ = false := F1kx.out.frozen 1
    have pkx2 : (w1).cell? ⟨w.heap.size, 2, none⟩ = some (.int .i64 x.e) := F1kx.out.cell 2
    have fkx2 : (w1).frozen? ⟨w.heap.size, 2, none⟩ = false := F1kx.out.frozen 2
    have pr0 : (w1).cell? ⟨w.heap.size + 1, 0, none⟩ = some (.int .i64 0) := F1r.out.cell 0
    have fr0 : (w1).frozen? ⟨w.heap.size + 1, 0, none⟩ = false := F1r.out.frozen 0
    have pr1 : (w1).cell? ⟨w.heap.size + 1, 1, none⟩ = some (.int .i64 0) := F1r.out.cell 1
    have fr1 : (w1).frozen? ⟨w.heap.size + 1, 1, none⟩ = false := F1r.out.frozen 1
    go_wp2_with fail
    refine (valid_yes x A m c w1 F1x.out VX.out).mono ?_
    rintro e w2 ⟨rfl, HB2⟩
    have F2x := Lib.hid (F1x.out.belowW HB2.out)
    have F2kx := Lib.hid (F1kx.out.belowW HB2.out)
    have F2r := Lib.hid (F1r.out.belowW HB2.out)
    have HL2 := Lib.hid (HB1.out.trans (HB2.out.mono HB1.out.size))
    clear pkx0 fkx0 pkx1 fkx1 pkx2 fkx2 pr0 fr0 pr1 fr1
    have pkx0 : (w2).cell? ⟨w.heap.size, 0, none⟩ = some (.bool x.neg) := F2kx.out.cell 0
    have fkx0 : (w2).frozen? ⟨w.heap.size, 0, none⟩ = false := F2kx.out.frozen 0
    have pkx1 : (w2).cell? ⟨w.heap.size, 1, none⟩ = some (.slice A m c) := F2kx.out.cell 1
    have fkx1 : (w2).frozen? ⟨w.heap.size, 1, none⟩ = false := F2kx.out.frozen 1
    have pkx2 : (w2).cell? ⟨w.heap.size, 2, none⟩ = some (.int .i64 x.e) := F2kx.out.cell 2
    have fkx2 : (w2).frozen? ⟨w.heap.size, 2, none⟩ = false := F2kx.out.frozen 2
    have pr0 : (w2).cell? ⟨w.heap.size + 1, 0, none⟩ = some (.int .i64 0) := F2r.out.cell 0
    have fr0 : (w2).frozen? ⟨w.heap.size + 1, 0, none⟩ = false := F2r.out.frozen 0
    have pr1 : (w2).cell? ⟨w.heap.size + 1, 1, none⟩ = some (.int .i64 0) := F2r.out.cell 1
    have fr1 : (w2).frozen? ⟨w.heap.size + 1, 1, none⟩ = false := F2r.out.frozen 1
    go_wp2_with fail
    refine (dbits_any x A m c w2 F2x.out VX.out).mono ?_
    rw [HBB.out]
    rintro e w3 ⟨rfl, HB3⟩
    have F3x := Lib.hid (F2x.out.belowW HB3.out)
    have F3kx := Lib.hid (F2kx.out.belowW HB3.out)
    have F3r := Lib.hid (F2r.out.belowW HB3.out)
    have HL3 := Lib.hid (HL2.out.trans (HB3.out.mono HL2.out.size))
    clear pkx0 fkx0 pkx1 fkx1 pkx2 fkx2 pr0 fr0 pr1 fr1
    have pkx0 : (w3).cell? ⟨w.heap.size, 0, none⟩ = some (.bool x.neg) := F3kx.out.cell 0
    have fkx0 : (w3).frozen? ⟨w.heap.size, 0, none⟩ = false := F3kx.out.frozen 0
    have pkx1 : (w3).cell? ⟨w.heap.size, 1, none⟩ = some (.slice A m c) := F3kx.out.cell 1
    have fkx1 : (w3).frozen? ⟨w.heap.size, 1, none⟩ = false := F3kx.out.frozen 1
    have pkx2 : (w3).cell? ⟨w.heap.size, 2, none⟩ = some (.int .i64 x.e) := F3kx.out.cell 2
    have fkx2 : (w3).frozen? ⟨w.heap.size, 2, none⟩ = false := F3kx.out.frozen 2
    have pr0 : (w3).cell? ⟨w.heap.size + 1, 0, none⟩ = some (.int .i64 0) := F3r.out.cell 0
    have fr0 : (w3).frozen? ⟨w.heap.size + 1, 0, none⟩ = false := F3r.out.frozen 0
    have pr1 : (w3).cell? ⟨w.heap.size + 1, 1, none⟩ = some (.int .i64 0) := F3r.out.cell 1
    have fr1 : (w3).frozen? ⟨w.heap.size + 1, 1, none⟩ = false := F3r.out.frozen 1
    go_wp2_with fail
    refine bodyPost_ret (v := .tuple #[.agg #[.int .i64 0, .int .i64 0], .bool false]) (by simp [results, Tryz.results41, go_sem, pr0, pr1]) rfl ?_
    exact ⟨rfl, Lib.hid (store2_below HL3.out F3r.out _ _ (by omega))⟩
  have d1 : decide (31 < (B : Int)) = false := decide_eq_false (by omega)
  by_cases k2 : -30 ≤ x.e
  case neg =>
    have d2 : decide (x.e < -30) = true := decide_eq_true (by omega)
    have HR := Lib.hid (show ofV x = (0, 0, false) by unfold ofV; rw [HOK.out, decide_eq_false k2, Bool.and_false]; rfl)
    rw [HR.out]
    clear ht
    go_enter Tryz.func41, Tryz.ntmps41
    go_wp2_with fail
    obtain ⟨w1, hw⟩ : ∃ z9 : World, z9 = ((w.alloc (.cells #[.bool x.neg, .slice A m c, .int .i64 x.e] 28)).alloc (.cells #[.int .i64 0, .int .i64 0] 23)) := ⟨_, rfl⟩
    have HB1 := Lib.hid (show Below w.heap.size w w1 by rw [hw]; exact below_a2 _ _ _)
    have F1x := Lib.hid (HX.out.belowW HB1.out)
    have F1kx := Lib.hid (show Blk w1 (w.heap.size) 28 #[.bool x.neg, .slice A m c, .int .i64 x.e] by rw [hw]; exact (Blk.new _ _ _).alloc _)
    have F1r := Lib.hid (show Blk w1 (w.heap.size + 1) 23 #[.int .i64 0, .int .i64 0] by rw [hw]; exact Blk.new1 _ _ _ _)
    rw [← hw]
    clear hw
    have pkx0 : (w1).cell? ⟨w.heap.size, 0, none⟩ = some (.bool x.neg) := F1kx.out.cell 0
    have fkx0 : (w1).frozen? ⟨w.heap.size, 0, none⟩ = false := F1kx.out.frozen 0
    have pkx1 : (w1).cell? ⟨w.heap.size, 1, none⟩ = some (.slice A m c) := F1kx.out.cell 1
    have fkx1 : (w1).frozen? ⟨w.heap.size, 1, none⟩ = false := F1kx.out.frozen 1
    have pkx2 : (w1).cell? ⟨w.heap.size, 2, none⟩ = some (.int .i64 x.e) := F1kx.out.cell 2
    have fkx2 : (w1).frozen? ⟨w.heap.size, 2, none⟩ = false := F1kx.out.frozen 2
    have pr0 : (w1).cell? ⟨w.heap.size + 1, 0, none⟩ = some (.int .i64 0) := F1r.out.cell 0
    have fr0 : (w1).frozen? ⟨w.heap.size + 1, 0, none⟩ = false := F1r.out.frozen 0
    have pr1 : (w1).cell? ⟨w.heap.size + 1, 1, none⟩ = some (.int .i64 0) := F1r.out.cell 1
    have fr1 : (w1).frozen? ⟨w.heap.size + 1, 1, none⟩ = false := F1r.out.frozen 1
    go_wp2_with fail
    refine (valid_yes x A m c w1 F1x.out VX.out).mono ?_
    rintro e w2 ⟨rfl, HB2⟩
    have F2x := Lib.hid (F1x.out.belowW HB2.out)
    have F2kx := Lib.hid (F1kx.out.belowW HB2.out)
    have F2r := Lib.hid (F1r.out.belowW HB2.out)
    have HL2 := Lib.hid (HB1.out.trans (HB2.out.mono HB1.out.size))
    clear pkx0 fkx0 pkx1 fkx1 pkx2 fkx2 pr0 fr0 pr1 fr1
    have pkx0 : (w2).cell? ⟨w.heap.size, 0, none⟩ = some (.bool x.neg) := F2kx.out.cell 0
    have fkx0 : (w2).frozen? ⟨w.heap.size, 0, none⟩ = false := F2kx.out.frozen 0
    have pkx1 : (w2).cell? ⟨w.heap.size, 1, none⟩ = some (.slice A m c) := F2kx.out.cell 1
    have fkx1 : (w2).frozen? ⟨w.heap.size, 1, none⟩ = false := F2kx.out.frozen 1
    have pkx2 : (w2).cell? ⟨w.heap.size, 2, none⟩ = some (.int .i64 x.e) := F2kx.out.cell 2
    have fkx2 : (w2).frozen? ⟨w.heap.size, 2, none⟩ = false := F2kx.out.frozen 2
    have pr0 : (w2).cell? ⟨w.heap.size + 1, 0, none⟩ = some (.int .i64 0) := F2r.out.cell 0
    have fr0 : (w2).frozen? ⟨w.heap.size + 1, 0, none⟩ = false := F2r.out.frozen 0
    have pr1 : (w2).cell? ⟨w.heap.size + 1, 1, none⟩ = some (.int .i64 0) := F2r.out.cell 1
    have fr1 : (w2).frozen? ⟨w.heap.size + 1, 1, none⟩ = false := F2r.out.frozen 1
    go_wp2_with fail
    refine (dbits_any x A m c w2 F2x.out VX.out).mono ?_
    rw [HBB.out]
    rintro e w3 ⟨rfl, HB3⟩
    have F3x := Lib.hid (F2x.out.belowW HB3.out)
    have F3kx := Lib.hid (F2kx.out.belowW HB3.out)
    have F3r := Lib.hid (F2r.out.belowW HB3.out)
    have HL3 := Lib.hid (HL2.out.trans (HB3.out.mono HL2.out.size))
    clear pkx0 fkx0 pkx1 fkx1 pkx2 fkx2 pr0 fr0 pr1 fr1
    have pkx0 : (w3).cell? ⟨w.heap.size, 0, none⟩ = some (.bool x.neg) := F3kx.out.cell 0
    have fkx0 : (w3).frozen? ⟨w.heap.size, 0, none⟩ = false := F3kx.out.frozen 0
    have pkx1 : (w3).cell? ⟨w.heap.size, 1, none⟩ = some (.slice A m c) := F3kx.out.cell 1
    have fkx1 : (w3).frozen? ⟨w.heap.size, 1, none⟩ = false := F3kx.out.frozen 1
    have pkx2 : (w3).cell? ⟨w.heap.size, 2, none⟩ = some (.int .i64 x.e) := F3kx.out.cell 2
    have fkx2 : (w3).frozen? ⟨w.heap.size, 2, none⟩ = false := F3kx.out.frozen 2
    have pr0 : (w3).cell? ⟨w.heap.size + 1, 0, none⟩ = some (.int .i64 0) := F3r.out.cell 0
    have fr0 : (w3).frozen? ⟨w.heap.size + 1, 0, none⟩ = false := F3r.out.frozen 0
    have pr1 : (w3).cell? ⟨w.heap.size + 1, 1, none⟩ = some (.int .i64 0) := F3r.out.cell 1
    have fr1 : (w3).frozen? ⟨w.heap.size + 1, 1, none⟩ = false := F3r.out.frozen 1
    go_wp2_with fail
    refine bodyPost_ret (v := .tuple #[.agg #[.int .i64 0, .int .i64 0], .bool false]) (by simp [results, Tryz.results41, go_sem, pr0, pr1]) rfl ?_
    exact ⟨rfl, Lib.hid (store2_below HL3.out F3r.out _ _ (by omega))⟩
  have d2 : decide (x.e < -30) = false := decide_eq_false (by omega)
  by_cases k3 : t ≤ 31
  case neg =>
    have d3 : decide (31 < t) = true := decide_eq_true (by omega)
    have HR := Lib.hid (show ofV x = (0, 0, false) by unfold ofV; rw [HOK.out, decide_eq_false k3, Bool.and_false]; rfl)
    rw [HR.out]
    clear ht
    go_enter Tryz.func41, Tryz.ntmps41
    go_wp2_with fail
    obtain ⟨w1, hw⟩ : ∃ z9 : World, z9 = ((w.alloc (.cells #[.bool x.neg, .slice A m c, .int .i64 x.e] 28)).alloc (.cells #[.int .i64 0, .int .i64 0] 23)) := ⟨_, rfl⟩
    have HB1 := Lib.hid (show Below w.heap.size w w1 by rw [hw]; exact below_a2 _ _ _)
    have F1x := Lib.hid (HX.out.belowW HB1.out)
    have F1kx := Lib.hid (show Blk w1 (w.heap.size) 28 #[.bool x.neg, .slice A m c, .int .i64 x.e] by rw [hw]; exact (Blk.new _ _ _).alloc _)
    have F1r := Lib.hid (show Blk w1 (w.heap.size + 1) 23 #[.int .i64 0, .int .i64 0] by rw [hw]; exact Blk.new1 _ _ _ _)
    rw [← hw]
    clear hw
    have pkx0 : (w1).cell? ⟨w.heap.size, 0, none⟩ = some (.bool x.neg) := F1kx.out.cell 0
    have fkx0 : (w1).frozen? ⟨w.heap.size, 0, none⟩ = false := F1kx.out.frozen 0
    have pkx1 : (w1).cell? ⟨w.heap.size, 1, none⟩ = some (.slice A m c) := F1kx.out.cell 1
    have fkx1 : (w1).frozen? ⟨w.heap.size, 1, none⟩ = false := F1kx.out.frozen 1
    have pkx2 : (w1).cell? ⟨w.heap.size, 2, none⟩ = some (.int .i64 x.e) := F1kx.out.cell 2
    have fkx2 : (w1).frozen? ⟨w.heap.size, 2, none⟩ = false := F1kx.out.frozen 2
    have pr0 : (w1).cell? ⟨w.heap.size + 1, 0, none⟩ = some (.int .i64 0) := F1r.out.cell 0
    have fr0 : (w1).frozen? ⟨w.heap.size + 1, 0, none⟩ = false := F1r.out.frozen 0
    have pr1 : (w1).cell? ⟨w.heap.size + 1, 1, none⟩ = some (.int .i64 0) := F1r.out.cell 1
    have fr1 : (w1).frozen? ⟨w.heap.size + 1, 1, none⟩ = false := F1r.out.frozen 1
    go_wp2_with fail
    refine (valid_yes x A m c w1 F1x.out VX.out).mono ?_
    rintro e w2 ⟨rfl, HB2⟩
    have F2x := Lib.hid (F1x.out.belowW HB2.out)
    have F2kx := Lib.hid (F1kx.out.belowW HB2.out)
    have F2r := Lib.hid (F1r.out.belowW HB2.out)
    have HL2 := Lib.hid (HB1.out.trans (HB2.out.mono HB1.out.size))
    clear pkx0 fkx0 pkx1 fkx1 pkx2 fkx2 pr0 fr0 pr1 fr1
    have pkx0 : (w2).cell? ⟨w.heap.size, 0, none⟩ = some (.bool x.neg) := F2kx.out.cell 0
    have fkx0 : (w2).frozen? ⟨w.heap.size, 0, none⟩ = false := F2kx.out.frozen 0
    have pkx1 : (w2).cell? ⟨w.heap.size, 1, none⟩ = some (.slice A m c) := F2kx.out.cell 1
    have fkx1 : (w2).frozen? ⟨w.heap.size, 1, none⟩ = false := F2kx.out.frozen 1
    have pkx2 : (w2).cell? ⟨w.heap.size, 2, none⟩ = some (.int .i64 x.e) := F2kx.out.cell 2
    have fkx2 : (w2).frozen? ⟨w.heap.size, 2, none⟩ = false := F2kx.out.frozen 2
    have pr0 : (w2).cell? ⟨w.heap.size + 1, 0, none⟩ = some (.int .i64 0) := F2r.out.cell 0
    have fr0 : (w2).frozen? ⟨w.heap.size + 1, 0, none⟩ = false := F2r.out.frozen 0
    have pr1 : (w2).cell? ⟨w.heap.size + 1, 1, none⟩ = some (.int .i64 0) := F2r.out.cell 1
    have fr1 : (w2).frozen? ⟨w.heap.size + 1, 1, none⟩ = false := F2r.out.frozen 1
    go_wp2_with fail
    refine (dbits_any x A m c w2 F2x.out VX.out).mono ?_
    rw [HBB.out]
    rintro e w3 ⟨rfl, HB3⟩
    have F3x := Lib.hid (F2x.out.belowW HB3.out)
    have F3kx := Lib.hid (F2kx.out.belowW HB3.out)
    have F3r := Lib.hid (F2r.out.belowW HB3.out)
    have HL3 := Lib.hid (HL2.out.trans (HB3.out.mono HL2.out.size))
    clear pkx0 fkx0 pkx1 fkx1 pkx2 fkx2 pr0 fr0 pr1 fr1
    have pkx0 : (w3).cell? ⟨w.heap.size, 0, none⟩ = some (.bool x.neg) := F3kx.out.cell 0
    have fkx0 : (w3).frozen? ⟨w.heap.size, 0, none⟩ = false := F3kx.out.frozen 0
    have pkx1 : (w3).cell? ⟨w.heap.size, 1, none⟩ = some (.slice A m c) := F3kx.out.cell 1
    have fkx1 : (w3).frozen? ⟨w.heap.size, 1, none⟩ = false := F3kx.out.frozen 1
    have pkx2 : (w3).cell? ⟨w.heap.size, 2, none⟩ = some (.int .i64 x.e) := F3kx.out.cell 2
    have fkx2 : (w3).frozen? ⟨w.heap.size, 2, none⟩ = false := F3kx.out.frozen 2
    have pr0 : (w3).cell? ⟨w.heap.size + 1, 0, none⟩ = some (.int .i64 0) := F3r.out.cell 0
    have fr0 : (w3).frozen? ⟨w.heap.size + 1, 0, none⟩ = false := F3r.out.frozen 0
    have pr1 : (w3).cell? ⟨w.heap.size + 1, 1, none⟩ = some (.int .i64 0) := F3r.out.cell 1
    have fr1 : (w3).frozen? ⟨w.heap.size + 1, 1, none⟩ = false := F3r.out.frozen 1
    go_wp2_with fail
    refine (top_all x A m c w3 F3x.out VX.out).mono ?_
    rw [HTT.out]
    rintro e w4 ⟨rfl, HB4⟩
    have F4x := Lib.hid (F3x.out.belowW HB4.out)
    have F4kx := Lib.hid (F3kx.out.belowW HB4.out)
    have F4r := Lib.hid (F3r.out.belowW HB4.out)
    have HL4 := Lib.hid (HL3.out.trans (HB4.out.mono HL3.out.size))
    clear pkx0 fkx0 pkx1 fkx1 pkx2 fkx2 pr0 fr0 pr1 fr1
    have pkx0 : (w4).cell? ⟨w.heap.size, 0, none⟩ = some (.bool x.neg) := F4kx.out.cell 0
    have fkx0 : (w4).frozen? ⟨w.heap.size, 0, none⟩ = false := F4kx.out.frozen 0
    have pkx1 : (w4).cell? ⟨w.heap.size, 1, none⟩ = some (.slice A m c) := F4kx.out.cell 1
    have fkx1 : (w4).frozen? ⟨w.heap.size, 1, none⟩ = false := F4kx.out.frozen 1
    have pkx2 : (w4).cell? ⟨w.heap.size, 2, none⟩ = some (.int .i64 x.e) := F4kx.out.cell 2
    have fkx2 : (w4).frozen? ⟨w.heap.size, 2, none⟩ = false := F4kx.out.frozen 2
    have pr0 : (w4).cell? ⟨w.heap.size + 1, 0, none⟩ = some (.int .i64 0) := F4r.out.cell 0
    have fr0 : (w4).frozen? ⟨w.heap.size + 1, 0, none⟩ = false := F4r.out.frozen 0
    have pr1 : (w4).cell? ⟨w.heap.size + 1, 1, none⟩ = some (.int .i64 0) := F4r.out.cell 1
    have fr1 : (w4).frozen? ⟨w.heap.size + 1, 1, none⟩ = false := F4r.out.frozen 1
    go_wp2_with fail
    refine bodyPost_ret (v := .tuple #[.agg #[.int .i64 0, .int .i64 0], .bool false]) (by simp [results, Tryz.results41, go_sem, pr0, pr1]) rfl ?_
    exact ⟨rfl, Lib.hid (store2_below HL4.out F4r.out _ _ (by omega))⟩
  have d3 : decide (31 < t) = false := decide_eq_false (by omega)
  have p1 := pow_le30 k2
  obtain ⟨M, hM⟩ : ∃ M : Int, (if x.neg then -(x.k : Int) else x.k) * 2 ^ x.e.toNat = M := ⟨_, rfl⟩
  obtain ⟨K, hK⟩ : ∃ K : Nat, 2 ^ (-x.e).toNat = K := ⟨_, rfl⟩
  obtain ⟨rn, rd, re, hr⟩ : ∃ a b c, make M (K : Int) = (a, b, c) := ⟨_, _, _, rfl⟩
  have HMK := Lib.hid hr
  have HR := Lib.hid (show ofV x = (rn, rd, decide (re = 0)) by
    unfold ofV
    rw [if_pos (by rw [HOK.out, decide_eq_true k1, decide_eq_true k2, decide_eq_true k3]; rfl), hM, show ((2 : Int) ^ (-x.e).toNat) = (K : Int) by rw [← hK, Int.natCast_pow]; rfl, hr])
  rw [hK] at p1
  have M1 : -2147483648 < M ∧ M < 2147483648 := by
    rw [← hM]
    exact ofM_bd (by rw [HBB.out]; omega) (by rw [HBB.out]; omega)
  have K1 : 0 < K := by rw [← hK]; exact Nat.two_pow_pos _
  clear hr
  by_cases hz : x.k = 0
  · obtain rfl : m = 0 := by rw [← HLN.out, hz, limbs_zero]; rfl
    have hxe : x.neg = false ∧ x.e = 0 := by
      rcases VX.out with ⟨_, h1, h2⟩ | ⟨h, _⟩
      · exact ⟨h1, h2⟩
      · rw [hz] at h; simp at h
    obtain rfl : M = 0 := by rw [← hM, hz, hxe.1]; simp
    obtain rfl : K = 1 := by rw [← hK, hxe.2]; rfl
    have HXN := Lib.hid hxe.1
    have HXE := Lib.hid hxe.2
    clear hxe hM hK hz ht
    go_enter Tryz.func41, Tryz.ntmps41
    go_wp2_with fail
    obtain ⟨w1, hw⟩ : ∃ z9 : World, z9 = ((w.alloc (.cells #[.bool x.neg, .slice A 0 c, .int .i64 x.e] 28)).alloc (.cells #[.int .i64 0, .int .i64 0] 23)) := ⟨_, rfl⟩
    have HB1 := Lib.hid (show Below w.heap.size w w1 by rw [hw]; exact below_a2 _ _ _)
    have F1x := Lib.hid (HX.out.belowW HB1.out)
    have F1kx := Lib.hid (show Blk w1 (w.heap.size) 28 #[.bool x.neg, .slice A 0 c, .int .i64 x.e] by rw [hw]; exact (Blk.new _ _ _).alloc _)
    have F1r := Lib.hid (show Blk w1 (w.heap.size + 1) 23 #[.int .i64 0, .int .i64 0] by rw [hw]; exact Blk.new1 _ _ _ _)
    rw [← hw]
    clear hw
    have pkx0 : (w1).cell? ⟨w.heap.size, 0, none⟩ = some (.bool x.neg) := F1kx.out.cell 0
    have fkx0 : (w1).frozen? ⟨w.heap.size, 0, none⟩ = false := F1kx.out.frozen 0
    have pkx1 : (w1).cell? ⟨w.heap.size, 1, none⟩ = some (.slice A 0 c) := F1kx.out.cell 1
    have fkx1 : (w1).frozen? ⟨w.heap.size, 1, none⟩ = false := F1kx.out.frozen 1
    have pkx2 : (w1).cell? ⟨w.heap.size, 2, none⟩ = some (.int .i64 x.e) := F1kx.out.cell 2
    have fkx2 : (w1).frozen? ⟨w.heap.size, 2, none⟩ = false := F1kx.out.frozen 2
    have pr0 : (w1).cell? ⟨w.heap.size + 1, 0, none⟩ = some (.int .i64 0) := F1r.out.cell 0
    have fr0 : (w1).frozen? ⟨w.heap.size + 1, 0, none⟩ = false := F1r.out.frozen 0
    have pr1 : (w1).cell? ⟨w.heap.size + 1, 1, none⟩ = some (.int .i64 0) := F1r.out.cell 1
    have fr1 : (w1).frozen? ⟨w.heap.size + 1, 1, none⟩ = false := F1r.out.frozen 1
    go_wp2_with fail
    refine (valid_yes x A 0 c w1 F1x.out VX.out).mono ?_
    rintro e w2 ⟨rfl, HB2⟩
    have F2x := Lib.hid (F1x.out.belowW HB2.out)
    have F2kx := Lib.hid (F1kx.out.belowW HB2.out)
    have F2r := Lib.hid (F1r.out.belowW HB2.out)
    have HL2 := Lib.hid (HB1.out.trans (HB2.out.mono HB1.out.size))
    clear pkx0 fkx0 pkx1 fkx1 pkx2 fkx2 pr0 fr0 pr1 fr1
    have pkx0 : (w2).cell? ⟨w.heap.size, 0, none⟩ = some (.bool x.neg) := F2kx.out.cell 0
    have fkx0 : (w2).frozen? ⟨w.heap.size, 0, none⟩ = false := F2kx.out.frozen 0
    have pkx1 : (w2).cell? ⟨w.heap.size, 1, none⟩ = some (.slice A 0 c) := F2kx.out.cell 1
    have fkx1 : (w2).frozen? ⟨w.heap.size, 1, none⟩ = false := F2kx.out.frozen 1
    have pkx2 : (w2).cell? ⟨w.heap.size, 2, none⟩ = some (.int .i64 x.e) := F2kx.out.cell 2
    have fkx2 : (w2).frozen? ⟨w.heap.size, 2, none⟩ = false := F2kx.out.frozen 2
    have pr0 : (w2).cell? ⟨w.heap.size + 1, 0, none⟩ = some (.int .i64 0) := F2r.out.cell 0
    have fr0 : (w2).frozen? ⟨w.heap.size + 1, 0, none⟩ = false := F2r.out.frozen 0
    have pr1 : (w2).cell? ⟨w.heap.size + 1, 1, none⟩ = some (.int .i64 0) := F2r.out.cell 1
    have fr1 : (w2).frozen? ⟨w.heap.size + 1, 1, none⟩ = false := F2r.out.frozen 1
    go_wp2_with fail
    refine (dbits_any x A 0 c w2 F2x.out VX.out).mono ?_
    rw [HBB.out]
    rintro e w3 ⟨rfl, HB3⟩
    have F3x := Lib.hid (F2x.out.belowW HB3.out)
    have F3kx := Lib.hid (F2kx.out.belowW HB3.out)
    have F3r := Lib.hid (F2r.out.belowW HB3.out)
    have HL3 := Lib.hid (HL2.out.trans (HB3.out.mono HL2.out.size))
    clear pkx0 fkx0 pkx1 fkx1 pkx2 fkx2 pr0 fr0 pr1 fr1
    have pkx0 : (w3).cell? ⟨w.heap.size, 0, none⟩ = some (.bool x.neg) := F3kx.out.cell 0
    have fkx0 : (w3).frozen? ⟨w.heap.size, 0, none⟩ = false := F3kx.out.frozen 0
    have pkx1 : (w3).cell? ⟨w.heap.size, 1, none⟩ = some (.slice A 0 c) := F3kx.out.cell 1
    have fkx1 : (w3).frozen? ⟨w.heap.size, 1, none⟩ = false := F3kx.out.frozen 1
    have pkx2 : (w3).cell? ⟨w.heap.size, 2, none⟩ = some (.int .i64 x.e) := F3kx.out.cell 2
    have fkx2 : (w3).frozen? ⟨w.heap.size, 2, none⟩ = false := F3kx.out.frozen 2
    have pr0 : (w3).cell? ⟨w.heap.size + 1, 0, none⟩ = some (.int .i64 0) := F3r.out.cell 0
    have fr0 : (w3).frozen? ⟨w.heap.size + 1, 0, none⟩ = false := F3r.out.frozen 0
    have pr1 : (w3).cell? ⟨w.heap.size + 1, 1, none⟩ = some (.int .i64 0) := F3r.out.cell 1
    have fr1 : (w3).frozen? ⟨w.heap.size + 1, 1, none⟩ = false := F3r.out.frozen 1
    go_wp2_with fail
    refine (top_all x A 0 c w3 F3x.out VX.out).mono ?_
    rw [HTT.out]
    rintro e w4 ⟨rfl, HB4⟩
    have F4x := Lib.hid (F3x.out.belowW HB4.out)
    have F4kx := Lib.hid (F3kx.out.belowW HB4.out)
    have F4r := Lib.hid (F3r.out.belowW HB4.out)
    have HL4 := Lib.hid (HL3.out.trans (HB4.out.mono HL3.out.size))
    clear pkx0 fkx0 pkx1 fkx1 pkx2 fkx2 pr0 fr0 pr1 fr1
    have pkx0 : (w4).cell? ⟨w.heap.size, 0, none⟩ = some (.bool x.neg) := F4kx.out.cell 0
    have fkx0 : (w4).frozen? ⟨w.heap.size, 0, none⟩ = false := F4kx.out.frozen 0
    have pkx1 : (w4).cell? ⟨w.heap.size, 1, none⟩ = some (.slice A 0 c) := F4kx.out.cell 1
    have fkx1 : (w4).frozen? ⟨w.heap.size, 1, none⟩ = false := F4kx.out.frozen 1
    have pkx2 : (w4).cell? ⟨w.heap.size, 2, none⟩ = some (.int .i64 x.e) := F4kx.out.cell 2
    have fkx2 : (w4).frozen? ⟨w.heap.size, 2, none⟩ = false := F4kx.out.frozen 2
    have pr0 : (w4).cell? ⟨w.heap.size + 1, 0, none⟩ = some (.int .i64 0) := F4r.out.cell 0
    have fr0 : (w4).frozen? ⟨w.heap.size + 1, 0, none⟩ = false := F4r.out.frozen 0
    have pr1 : (w4).cell? ⟨w.heap.size + 1, 1, none⟩ = some (.int .i64 0) := F4r.out.cell 1
    have fr1 : (w4).frozen? ⟨w.heap.size + 1, 1, none⟩ = false := F4r.out.frozen 1
    rw [HXN.out] at pkx0
    rw [HXE.out] at pkx2
    go_wp2_with fail
    go_loop [4, 31] (fun v i => v = .int .i64 0 ∧ i = .int .i64 0) (fun _ _ => 0)
    case atStart => exact ⟨rfl, rfl⟩
    case round =>
      obtain ⟨rfl, rfl⟩ := hrel
      go_wp2_with fail
      refine (make_q 0 1 w4 (by omega) (by omega) (by omega) (by omega)).mono ?_
      rw [show make 0 1 = (rn, rd, re) from HMK.out]
      rintro e w5 ⟨rfl, HB5⟩
      have F5x := Lib.hid (F4x.out.belowW HB5.out)
      have F5kx := Lib.hid (F4kx.out.belowW HB5.out)
      have F5r := Lib.hid (F4r.out.belowW HB5.out)
      have HL5 := Lib.hid (HL4.out.trans (HB5.out.mono HL4.out.size))
      go_upto_region 15 with (fail)
      obtain ⟨w6, hw⟩ : ∃ z9 : World, z9 = w5.alloc (.cells #[.int .i64 rn, .int .i64 rd] 23) := ⟨_, rfl⟩
      have HB6 := Lib.hid (show Below w5.heap.size w5 w6 by rw [hw]; exact below_a1 _ _)
      have F6v := Lib.hid (show Blk w6 w5.heap.size 23 #[.int .i64 rn, .int .i64 rd] by rw [hw]; exact Blk.new _ _ _)
      rw [← hw]
      clear hw
      have F6x := Lib.hid (F5x.out.belowW HB6.out)
      have F6kx := Lib.hid (F5kx.out.belowW HB6.out)
      have F6r := Lib.hid (F5r.out.belowW HB6.out)
      have HL6 := Lib.hid (HL5.out.trans (HB6.out.mono HL5.out.size))
      clear pkx0 fkx0 pkx1 fkx1 pkx2 fkx2 pr0 fr0 pr1 fr1
      have pr0 : (w6).cell? ⟨w.heap.size + 1, 0, none⟩ = some (.int .i64 0) := F6r.out.cell 0
      have fr0 : (w6).frozen? ⟨w.heap.size + 1, 0, none⟩ = false := F6r.out.frozen 0
      have pr1 : (w6).cell? ⟨w.heap.size + 1, 1, none⟩ = some (.int .i64 0) := F6r.out.cell 1
      have fr1 : (w6).frozen? ⟨w.heap.size + 1, 1, none⟩ = false := F6r.out.frozen 1
      have pv0 : (w6).cell? ⟨w5.heap.size, 0, none⟩ = some (.int .i64 rn) := F6v.out.cell 0
      have fv0 : (w6).frozen? ⟨w5.heap.size, 0, none⟩ = false := F6v.out.frozen 0
      have pv1 : (w6).cell? ⟨w5.heap.size, 1, none⟩ = some (.int .i64 rd) := F6v.out.cell 1
      have fv1 : (w6).frozen? ⟨w5.heap.size, 1, none⟩ = false := F6v.out.frozen 1
      go_wp2_with fail
      refine bodyPost_ret (v := .tuple #[.agg #[.int .i64 rn, .int .i64 rd], .bool (re == 0)]) (by simp [results, Tryz.results41, go_sem, pr0, pr1]) rfl ?_
      rw [HR.out]
      exact ⟨rfl, Lib.hid (store2_below HL6.out F6r.out _ _ (by omega))⟩
  · have HLM := Lib.hid (limbs_short (k := x.k) (by rw [HBB.out]; omega) hz)
    obtain rfl : m = 1 := by rw [← HLN.out, HLM.out]; rfl
    obtain ⟨b, off, y, hA, hb0, hy, hyB, hcell⟩ := HX.out.at_ (i := 0) (by omega)
    subst hA
    rw [HLM.out] at hy
    obtain rfl : x.k = y := by simpa using hy
    unfold BB at hyB
    rw [Nat.add_zero] at hcell
    clear hz hy
    go_enter Tryz.func41, Tryz.ntmps41
    go_wp2_with fail
    obtain ⟨w1, hw⟩ : ∃ z9 : World, z9 = ((w.alloc (.cells #[.bool x.neg, .slice (some ⟨b, off, none⟩) 1 c, .int .i64 x.e] 28)).alloc (.cells #[.int .i64 0, .int .i64 0] 23)) := ⟨_, rfl⟩
    have HB1 := Lib.hid (show Below w.heap.size w w1 by rw [hw]; exact below_a2 _ _ _)
    have F1x := Lib.hid (HX.out.belowW HB1.out)
    have F1kx := Lib.hid (show Blk w1 (w.heap.size) 28 #[.bool x.neg, .slice (some ⟨b, off, none⟩) 1 c, .int .i64 x.e] by rw [hw]; exact (Blk.new _ _ _).alloc _)
    have F1r := Lib.hid (show Blk w1 (w.heap.size + 1) 23 #[.int .i64 0, .int .i64 0] by rw [hw]; exact Blk.new1 _ _ _ _)
    rw [← hw]
    clear hw
    have pkx0 : (w1).cell? ⟨w.heap.size, 0, none⟩ = some (.bool x.neg) := F1kx.out.cell 0
    have fkx0 : (w1).frozen? ⟨w.heap.size, 0, none⟩ = false := F1kx.out.frozen 0
    have pkx1 : (w1).cell? ⟨w.heap.size, 1, none⟩ = some (.slice (some ⟨b, off, none⟩) 1 c) := F1kx.out.cell 1
    have fkx1 : (w1).frozen? ⟨w.heap.size, 1, none⟩ = false := F1kx.out.frozen 1
    have pkx2 : (w1).cell? ⟨w.heap.size, 2, none⟩ = some (.int .i64 x.e) := F1kx.out.cell 2
    have fkx2 : (w1).frozen? ⟨w.heap.size, 2, none⟩ = false := F1kx.out.frozen 2
    have pr0 : (w1).cell? ⟨w.heap.size + 1, 0, none⟩ = some (.int .i64 0) := F1r.out.cell 0
    have fr0 : (w1).frozen? ⟨w.heap.size + 1, 0, none⟩ = false := F1r.out.frozen 0
    have pr1 : (w1).cell? ⟨w.heap.size + 1, 1, none⟩ = some (.int .i64 0) := F1r.out.cell 1
    have fr1 : (w1).frozen? ⟨w.heap.size + 1, 1, none⟩ = false := F1r.out.frozen 1
    go_wp2_with fail
    refine (valid_yes x (some ⟨b, off, none⟩) 1 c w1 F1x.out VX.out).mono ?_
    rintro e w2 ⟨rfl, HB2⟩
    have F2x := Lib.hid (F1x.out.belowW HB2.out)
    have F2kx := Lib.hid (F1kx.out.belowW HB2.out)
    have F2r := Lib.hid (F1r.out.belowW HB2.out)
    have HL2 := Lib.hid (HB1.out.trans (HB2.out.mono HB1.out.size))
    clear pkx0 fkx0 pkx1 fkx1 pkx2 fkx2 pr0 fr0 pr1 fr1
    have pkx0 : (w2).cell? ⟨w.heap.size, 0, none⟩ = some (.bool x.neg) := F2kx.out.cell 0
    have fkx0 : (w2).frozen? ⟨w.heap.size, 0, none⟩ = false := F2kx.out.frozen 0
    have pkx1 : (w2).cell? ⟨w.heap.size, 1, none⟩ = some (.slice (some ⟨b, off, none⟩) 1 c) := F2kx.out.cell 1
    have fkx1 : (w2).frozen? ⟨w.heap.size, 1, none⟩ = false := F2kx.out.frozen 1
    have pkx2 : (w2).cell? ⟨w.heap.size, 2, none⟩ = some (.int .i64 x.e) := F2kx.out.cell 2
    have fkx2 : (w2).frozen? ⟨w.heap.size, 2, none⟩ = false := F2kx.out.frozen 2
    have pr0 : (w2).cell? ⟨w.heap.size + 1, 0, none⟩ = some (.int .i64 0) := F2r.out.cell 0
    have fr0 : (w2).frozen? ⟨w.heap.size + 1, 0, none⟩ = false := F2r.out.frozen 0
    have pr1 : (w2).cell? ⟨w.heap.size + 1, 1, none⟩ = some (.int .i64 0) := F2r.out.cell 1
    have fr1 : (w2).frozen? ⟨w.heap.size + 1, 1, none⟩ = false := F2r.out.frozen 1
    go_wp2_with fail
    refine (dbits_any x (some ⟨b, off, none⟩) 1 c w2 F2x.out VX.out).mono ?_
    rw [HBB.out]
    rintro e w3 ⟨rfl, HB3⟩
    have F3x := Lib.hid (F2x.out.belowW HB3.out)
    have F3kx := Lib.hid (F2kx.out.belowW HB3.out)
    have F3r := Lib.hid (F2r.out.belowW HB3.out)
    have HL3 := Lib.hid (HL2.out.trans (HB3.out.mono HL2.out.size))
    clear pkx0 fkx0 pkx1 fkx1 pkx2 fkx2 pr0 fr0 pr1 fr1
    have pkx0 : (w3).cell? ⟨w.heap.size, 0, none⟩ = some (.bool x.neg) := F3kx.out.cell 0
    have fkx0 : (w3).frozen? ⟨w.heap.size, 0, none⟩ = false := F3kx.out.frozen 0
    have pkx1 : (w3).cell? ⟨w.heap.size, 1, none⟩ = some (.slice (some ⟨b, off, none⟩) 1 c) := F3kx.out.cell 1
    have fkx1 : (w3).frozen? ⟨w.heap.size, 1, none⟩ = false := F3kx.out.frozen 1
    have pkx2 : (w3).cell? ⟨w.heap.size, 2, none⟩ = some (.int .i64 x.e) := F3kx.out.cell 2
    have fkx2 : (w3).frozen? ⟨w.heap.size, 2, none⟩ = false := F3kx.out.frozen 2
    have pr0 : (w3).cell? ⟨w.heap.size + 1, 0, none⟩ = some (.int .i64 0) := F3r.out.cell 0
    have fr0 : (w3).frozen? ⟨w.heap.size + 1, 0, none⟩ = false := F3r.out.frozen 0
    have pr1 : (w3).cell? ⟨w.heap.size + 1, 1, none⟩ = some (.int .i64 0) := F3r.out.cell 1
    have fr1 : (w3).frozen? ⟨w.heap.size + 1, 1, none⟩ = false := F3r.out.frozen 1
    go_wp2_with fail
    refine (top_all x (some ⟨b, off, none⟩) 1 c w3 F3x.out VX.out).mono ?_
    rw [HTT.out]
    rintro e w4 ⟨rfl, HB4⟩
    have F4x := Lib.hid (F3x.out.belowW HB4.out)
    have F4kx := Lib.hid (F3kx.out.belowW HB4.out)
    have F4r := Lib.hid (F3r.out.belowW HB4.out)
    have HL4 := Lib.hid (HL3.out.trans (HB4.out.mono HL3.out.size))
    clear pkx0 fkx0 pkx1 fkx1 pkx2 fkx2 pr0 fr0 pr1 fr1
    have pkx0 : (w4).cell? ⟨w.heap.size, 0, none⟩ = some (.bool x.neg) := F4kx.out.cell 0
    have fkx0 : (w4).frozen? ⟨w.heap.size, 0, none⟩ = false := F4kx.out.frozen 0
    have pkx1 : (w4).cell? ⟨w.heap.size, 1, none⟩ = some (.slice (some ⟨b, off, none⟩) 1 c) := F4kx.out.cell 1
    have fkx1 : (w4).frozen? ⟨w.heap.size, 1, none⟩ = false := F4kx.out.frozen 1
    have pkx2 : (w4).cell? ⟨w.heap.size, 2, none⟩ = some (.int .i64 x.e) := F4kx.out.cell 2
    have fkx2 : (w4).frozen? ⟨w.heap.size, 2, none⟩ = false := F4kx.out.frozen 2
    have pr0 : (w4).cell? ⟨w.heap.size + 1, 0, none⟩ = some (.int .i64 0) := F4r.out.cell 0
    have fr0 : (w4).frozen? ⟨w.heap.size + 1, 0, none⟩ = false := F4r.out.frozen 0
    have pr1 : (w4).cell? ⟨w.heap.size + 1, 1, none⟩ = some (.int .i64 0) := F4r.out.cell 1
    have fr1 : (w4).frozen? ⟨w.heap.size + 1, 1, none⟩ = false := F4r.out.frozen 1
    have hc : w4.cell? ⟨b, off, none⟩ = some (.int .u32 (x.k : Int)) := HL4.out.cell (p := ⟨b, off, none⟩) hb0 ▸ hcell
    go_wp2_with fail
    go_loop [4, 31] (fun v i => (v = .int .i64 0 ∧ i = .int .i64 0) ∨ (v = .int .i64 (x.k : Int) ∧ i = .int .i64 1)) (fun _ i => 1 - (intOf i).toNat)
    case atStart => exact .inl ⟨rfl, rfl⟩
    case round =>
      rcases hrel with ⟨rfl, rfl⟩ | ⟨rfl, rfl⟩
      · have hor : bits .or .i64 0 (x.k : Int) = (x.k : Int) := or_zero x.k hyB
        go_wp2_with fail
        refine ⟨.inr ⟨rfl, rfl⟩, ?_⟩
        simp [intOf]
      by_cases he0 : 0 ≤ x.e
      · have de : decide (0 ≤ x.e) = true := decide_eq_true he0
        obtain rfl : K = 1 := by rw [← hK, show (-x.e).toNat = 0 by omega, Nat.pow_zero]
        cases hng : x.neg with
        | true =>
          have em : wrap64 (-(x.k : Int) * 2 ^ x.e.toNat) = M := by rw [← hM, hng]; exact wrap64_in (by have := M1; rw [← hM, hng] at this; exact this)
          have HM2 := Lib.hid (show make M 1 = (rn, rd, re) from HMK.out)
          rw [hng] at pkx0
          clear hM hK hng
          go_wp2_with fail
          refine (make_q M 1 w4 (by omega) (by omega) (by omega) (by omega)).mono ?_
          rw [HM2.out]
          rintro e w5 ⟨rfl, HB5⟩
          have F5x := Lib.hid (F4x.out.belowW HB5.out)
          have F5kx := Lib.hid (F4kx.out.belowW HB5.out)
          have F5r := Lib.hid (F4r.out.belowW HB5.out)
          have HL5 := Lib.hid (HL4.out.trans (HB5.out.mono HL4.out.size))
          go_upto_region 15 with (fail)
          obtain ⟨w6, hw⟩ : ∃ z9 : World, z9 = w5.alloc (.cells #[.int .i64 rn, .int .i64 rd] 23) := ⟨_, rfl⟩
          have HB6 := Lib.hid (show Below w5.heap.size w5 w6 by rw [hw]; exact below_a1 _ _)
          have F6v := Lib.hid (show Blk w6 w5.heap.size 23 #[.int .i64 rn, .int .i64 rd] by rw [hw]; exact Blk.new _ _ _)
          rw [← hw]
          clear hw
          have F6x := Lib.hid (F5x.out.belowW HB6.out)
          have F6kx := Lib.hid (F5kx.out.belowW HB6.out)
          have F6r := Lib.hid (F5r.out.belowW HB6.out)
          have HL6 := Lib.hid (HL5.out.trans (HB6.out.mono HL5.out.size))
          clear pkx0 fkx0 pkx1 fkx1 pkx2 fkx2 pr0 fr0 pr1 fr1
          have pr0 : (w6).cell? ⟨w.heap.size + 1, 0, none⟩ = some (.int .i64 0) := F6r.out.cell 0
          have fr0 : (w6).frozen? ⟨w.heap.size + 1, 0, none⟩ = false := F6r.out.frozen 0
          have pr1 : (w6).cell? ⟨w.heap.size + 1, 1, none⟩ = some (.int .i64 0) := F6r.out.cell 1
          have fr1 : (w6).frozen? ⟨w.heap.size + 1, 1, none⟩ = false := F6r.out.frozen 1
          have pv0 : (w6).cell? ⟨w5.heap.size, 0, none⟩ = some (.int .i64 rn) := F6v.out.cell 0
          have fv0 : (w6).frozen? ⟨w5.heap.size, 0, none⟩ = false := F6v.out.frozen 0
          have pv1 : (w6).cell? ⟨w5.heap.size, 1, none⟩ = some (.int .i64 rd) := F6v.out.cell 1
          have fv1 : (w6).frozen? ⟨w5.heap.size, 1, none⟩ = false := F6v.out.frozen 1
          go_wp2_with fail
          refine bodyPost_ret (v := .tuple #[.agg #[.int .i64 rn, .int .i64 rd], .bool (re == 0)]) (by simp [results, Tryz.results41, go_sem, pr0, pr1]) rfl ?_
          rw [HR.out]
          exact ⟨rfl, Lib.hid (store2_below HL6.out F6r.out _ _ (by omega))⟩
        | false =>
          have em : wrap64 ((x.k : Int) * 2 ^ x.e.toNat) = M := by rw [← hM, hng]; exact wrap64_in (by have := M1; rw [← hM, hng] at this; exact this)
          have HM2 := Lib.hid (show make M 1 = (rn, rd, re) from HMK.out)
          rw [hng] at pkx0
          clear hM hK hng
          go_wp2_with fail
          refine (make_q M 1 w4 (by omega) (by omega) (by omega) (by omega)).mono ?_
          rw [HM2.out]
          rintro e w5 ⟨rfl, HB5⟩
          have F5x := Lib.hid (F4x.out.belowW HB5.out)
          have F5kx := Lib.hid (F4kx.out.belowW HB5.out)
          have F5r := Lib.hid (F4r.out.belowW HB5.out)
          have HL5 := Lib.hid (HL4.out.trans (HB5.out.mono HL4.out.size))
          go_upto_region 15 with (fail)
          obtain ⟨w6, hw⟩ : ∃ z9 : World, z9 = w5.alloc (.cells #[.int .i64 rn, .int .i64 rd] 23) := ⟨_, rfl⟩
          have HB6 := Lib.hid (show Below w5.heap.size w5 w6 by rw [hw]; exact below_a1 _ _)
          have F6v := Lib.hid (show Blk w6 w5.heap.size 23 #[.int .i64 rn, .int .i64 rd] by rw [hw]; exact Blk.new _ _ _)
          rw [← hw]
          clear hw
          have F6x := Lib.hid (F5x.out.belowW HB6.out)
          have F6kx := Lib.hid (F5kx.out.belowW HB6.out)
          have F6r := Lib.hid (F5r.out.belowW HB6.out)
          have HL6 := Lib.hid (HL5.out.trans (HB6.out.mono HL5.out.size))
          clear pkx0 fkx0 pkx1 fkx1 pkx2 fkx2 pr0 fr0 pr1 fr1
          have pr0 : (w6).cell? ⟨w.heap.size + 1, 0, none⟩ = some (.int .i64 0) := F6r.out.cell 0
          have fr0 : (w6).frozen? ⟨w.heap.size + 1, 0, none⟩ = false := F6r.out.frozen 0
          have pr1 : (w6).cell? ⟨w.heap.size + 1, 1, none⟩ = some (.int .i64 0) := F6r.out.cell 1
          have fr1 : (w6).frozen? ⟨w.heap.size + 1, 1, none⟩ = false := F6r.out.frozen 1
          have pv0 : (w6).cell? ⟨w5.heap.size, 0, none⟩ = some (.int .i64 rn) := F6v.out.cell 0
          have fv0 : (w6).frozen? ⟨w5.heap.size, 0, none⟩ = false := F6v.out.frozen 0
          have pv1 : (w6).cell? ⟨w5.heap.size, 1, none⟩ = some (.int .i64 rd) := F6v.out.cell 1
          have fv1 : (w6).frozen? ⟨w5.heap.size, 1, none⟩ = false := F6v.out.frozen 1
          go_wp2_with fail
          refine bodyPost_ret (v := .tuple #[.agg #[.int .i64 rn, .int .i64 rd], .bool (re == 0)]) (by simp [results, Tryz.results41, go_sem, pr0, pr1]) rfl ?_
          rw [HR.out]
          exact ⟨rfl, Lib.hid (store2_below HL6.out F6r.out _ _ (by omega))⟩
      · have de : decide (0 ≤ x.e) = false := decide_eq_false he0
        have ek : wrap64 (2 ^ (-x.e).toNat) = (K : Int) := by rw [← wrap64_nat K (by omega), ← hK, Int.natCast_pow]; rfl
        have ek3 : 0 ≤ -x.e := by omega
        have ek2 : IntKind.i64.wrap (-x.e) = -x.e := IntWalk.i64_in _ (by omega)
        cases hng : x.neg with
        | true =>
          have HM2 := Lib.hid (show make (-(x.k : Int)) K = (rn, rd, re) by rw [← HMK.out, ← hM, hng, show x.e.toNat = 0 by omega]; simp)
          rw [hng] at pkx0
          clear hM hK hng
          go_wp2_with fail
          refine (make_q (-(x.k : Int)) K w4 (by omega) (by omega) (by omega) (by omega)).mono ?_
          rw [HM2.out]
          rintro e w5 ⟨rfl, HB5⟩
          have F5x := Lib.hid (F4x.out.belowW HB5.out)
          have F5kx := Lib.hid (F4kx.out.belowW HB5.out)
          have F5r := Lib.hid (F4r.out.belowW HB5.out)
          have HL5 := Lib.hid (HL4.out.trans (HB5.out.mono HL4.out.size))
          go_upto_region 15 with (fail)
          obtain ⟨w6, hw⟩ : ∃ z9 : World, z9 = w5.alloc (.cells #[.int .i64 rn, .int .i64 rd] 23) := ⟨_, rfl⟩
          have HB6 := Lib.hid (show Below w5.heap.size w5 w6 by rw [hw]; exact below_a1 _ _)
          have F6v := Lib.hid (show Blk w6 w5.heap.size 23 #[.int .i64 rn, .int .i64 rd] by rw [hw]; exact Blk.new _ _ _)
          rw [← hw]
          clear hw
          have F6x := Lib.hid (F5x.out.belowW HB6.out)
          have F6kx := Lib.hid (F5kx.out.belowW HB6.out)
          have F6r := Lib.hid (F5r.out.belowW HB6.out)
          have HL6 := Lib.hid (HL5.out.trans (HB6.out.mono HL5.out.size))
          clear pkx0 fkx0 pkx1 fkx1 pkx2 fkx2 pr0 fr0 pr1 fr1
          have pr0 : (w6).cell? ⟨w.heap.size + 1, 0, none⟩ = some (.int .i64 0) := F6r.out.cell 0
          have fr0 : (w6).frozen? ⟨w.heap.size + 1, 0, none⟩ = false := F6r.out.frozen 0
          have pr1 : (w6).cell? ⟨w.heap.size + 1, 1, none⟩ = some (.int .i64 0) := F6r.out.cell 1
          have fr1 : (w6).frozen? ⟨w.heap.size + 1, 1, none⟩ = false := F6r.out.frozen 1
          have pv0 : (w6).cell? ⟨w5.heap.size, 0, none⟩ = some (.int .i64 rn) := F6v.out.cell 0
          have fv0 : (w6).frozen? ⟨w5.heap.size, 0, none⟩ = false := F6v.out.frozen 0
          have pv1 : (w6).cell? ⟨w5.heap.size, 1, none⟩ = some (.int .i64 rd) := F6v.out.cell 1
          have fv1 : (w6).frozen? ⟨w5.heap.size, 1, none⟩ = false := F6v.out.frozen 1
          go_wp2_with fail
          refine bodyPost_ret (v := .tuple #[.agg #[.int .i64 rn, .int .i64 rd], .bool (re == 0)]) (by simp [results, Tryz.results41, go_sem, pr0, pr1]) rfl ?_
          rw [HR.out]
          exact ⟨rfl, Lib.hid (store2_below HL6.out F6r.out _ _ (by omega))⟩
        | false =>
          have HM2 := Lib.hid (show make ((x.k : Int)) K = (rn, rd, re) by rw [← HMK.out, ← hM, hng, show x.e.toNat = 0 by omega]; simp)
          rw [hng] at pkx0
          clear hM hK hng
          go_wp2_with fail
          refine (make_q ((x.k : Int)) K w4 (by omega) (by omega) (by omega) (by omega)).mono ?_
          rw [HM2.out]
          rintro e w5 ⟨rfl, HB5⟩
          have F5x := Lib.hid (F4x.out.belowW HB5.out)
          have F5kx := Lib.hid (F4kx.out.belowW HB5.out)
          have F5r := Lib.hid (F4r.out.belowW HB5.out)
          have HL5 := Lib.hid (HL4.out.trans (HB5.out.mono HL4.out.size))
          go_upto_region 15 with (fail)
          obtain ⟨w6, hw⟩ : ∃ z9 : World, z9 = w5.alloc (.cells #[.int .i64 rn, .int .i64 rd] 23) := ⟨_, rfl⟩
          have HB6 := Lib.hid (show Below w5.heap.size w5 w6 by rw [hw]; exact below_a1 _ _)
          have F6v := Lib.hid (show Blk w6 w5.heap.size 23 #[.int .i64 rn, .int .i64 rd] by rw [hw]; exact Blk.new _ _ _)
          rw [← hw]
          clear hw
          have F6x := Lib.hid (F5x.out.belowW HB6.out)
          have F6kx := Lib.hid (F5kx.out.belowW HB6.out)
          have F6r := Lib.hid (F5r.out.belowW HB6.out)
          have HL6 := Lib.hid (HL5.out.trans (HB6.out.mono HL5.out.size))
          clear pkx0 fkx0 pkx1 fkx1 pkx2 fkx2 pr0 fr0 pr1 fr1
          have pr0 : (w6).cell? ⟨w.heap.size + 1, 0, none⟩ = some (.int .i64 0) := F6r.out.cell 0
          have fr0 : (w6).frozen? ⟨w.heap.size + 1, 0, none⟩ = false := F6r.out.frozen 0
          have pr1 : (w6).cell? ⟨w.heap.size + 1, 1, none⟩ = some (.int .i64 0) := F6r.out.cell 1
          have fr1 : (w6).frozen? ⟨w.heap.size + 1, 1, none⟩ = false := F6r.out.frozen 1
          have pv0 : (w6).cell? ⟨w5.heap.size, 0, none⟩ = some (.int .i64 rn) := F6v.out.cell 0
          have fv0 : (w6).frozen? ⟨w5.heap.size, 0, none⟩ = false := F6v.out.frozen 0
          have pv1 : (w6).cell? ⟨w5.heap.size, 1, none⟩ = some (.int .i64 rd) := F6v.out.cell 1
          have fv1 : (w6).frozen? ⟨w5.heap.size, 1, none⟩ = false := F6v.out.frozen 1
          go_wp2_with fail
          refine bodyPost_ret (v := .tuple #[.agg #[.int .i64 rn, .int .i64 rd], .bool (re == 0)]) (by simp [results, Tryz.results41, go_sem, pr0, pr1]) rfl ?_
          rw [HR.out]
          exact ⟨rfl, Lib.hid (store2_below HL6.out F6r.out _ _ (by omega))⟩

theorem of_any (ng : Bool) (A : Option Addr) (m c : Nat) (ex : Int) (l : List Nat) (w : World) (hx : Sl w A m c l) :
    Calls Tryz.prog 41 #[.agg #[.bool ng, .slice A m c, .int .i64 ex]] w (RtB (ofD ng l ex) w) := by
  cases hv : vldL ng l ex with
  | false =>
    have e : ofD ng l ex = (0, 0, false) := by unfold ofD; rw [hv]; rfl
    rw [e]
    exact of_no ng A m c ex l w hx hv
  | true =>
    have e : ofD ng l ex = ofV ⟨ng, val l, ex⟩ := by unfold ofD; rw [hv]; rfl
    rw [e]
    obtain ⟨h1, h2⟩ := vldL_iff.1 hv
    rw [h1] at hx
    exact of_yes ⟨ng, val l, ex⟩ A m c w hx h2
end Go.Proofs.YtnogfceojmnjiaaGreatDoor
namespace Go.Fl.Dy
open Go.Fl.Nm Go.Fl.Rt
theorem vB_neg (n d : Int) : vB (-n) d = vB n d := by
  unfold vB
  rw [decide_eq_decide]
  unfold valid
  rw [Int.natAbs_neg]
  omega
theorem iv_neg {x : D} (h : vld x) : iv (negD x) = -iv x := by
  unfold negD
  split
  · rename_i h0
    unfold iv
    rw [mg_zero h0]
    simp [mg]
  · unfold iv mg
    cases x.neg <;> simp
theorem cmpRD_neg {n d : Int} {x : D} (hd : 0 < d) (hx : vld x) : cmpRD (-n) d (negD x) = -cmpRD n d x := by
  rw [cmpRD_eq hd hx, cmpRD_eq hd (negD_vld hx), iv_neg hx, Int.neg_mul, Int.neg_mul, cmpI_neg]
theorem iv_eq {x : D} (h : vld x) : iv x = (if x.neg then -(x.k : Int) else x.k) * ((2 ^ (x.e + ZE).toNat : Nat) : Int) := by
  unfold iv mg
  cases x.neg
  · simp only [Bool.false_eq_true, if_false]; rw [Int.natCast_mul]
  · simp only [if_true]; rw [Int.natCast_mul, Int.neg_mul]
theorem of_val {x : D} {a b : Int} (hx : vld x) (h : ofV x = (a, b, true)) : valid a b ∧ iv x * b = a * Z16 := by
  unfold ofV at h
  split at h
  · simp only [Prod.mk.injEq, decide_eq_true_eq] at h
    obtain ⟨h1, h2, h3⟩ := h
    have hm : make ((if x.neg then -(x.k : Int) else x.k) * 2 ^ x.e.toNat) (2 ^ (-x.e).toNat) = (a, b, 0) := by rw [← h1, ← h2, ← h3]
    obtain ⟨v, hK, hc⟩ := make_ok hm
    refine ⟨v, ?_⟩
    have he := vld_e hx
    have hp : (x.e + ZE).toNat + (-x.e).toNat = x.e.toNat + ZE := by rw [ZE_eq]; omega
    have e1 : iv x * 2 ^ (-x.e).toNat = (if x.neg then -(x.k : Int) else x.k) * 2 ^ x.e.toNat * Z16 := by
      rw [iv_eq hx]
      have e2 : ((2 ^ (x.e + ZE).toNat : Nat) : Int) * 2 ^ (-x.e).toNat = 2 ^ x.e.toNat * (Z16 : Int) := by
        have e3 : 2 ^ (x.e + ZE).toNat * 2 ^ (-x.e).toNat = 2 ^ x.e.toNat * Z16 := by unfold Z16; rw [← Nat.pow_add, ← Nat.pow_add, hp]
        have e4 := congrArg (fun z : Nat => (z : Int)) e3
        simp only [Int.natCast_mul] at e4
        rw [show ((2 ^ (-x.e).toNat : Nat) : Int) = 2 ^ (-x.e).toNat by rw [Int.natCast_pow]; rfl, show ((2 ^ x.e.toNat : Nat) : Int) = 2 ^ x.e.toNat by rw [Int.natCast_pow]; rfl] at e4
        exact e4
      rw [Int.mul_assoc, e2, Int.mul_assoc]
    generalize (if x.neg then -(x.k : Int) else x.k) * 2 ^ x.e.toNat = M at *
    generalize ((2 : Int) ^ (-x.e).toNat) = K at *
    have e5 : (iv x * b) * K = (a * Z16) * K := by
      rw [Int.mul_right_comm, e1, Int.mul_right_comm, hc, Int.mul_right_comm]
    exact Int.eq_of_mul_eq_mul_right hK e5
  · simp at h
theorem of_cmp {n d a b : Int} {x : D} (hx : vld x) (hv : vB n d = true) (h : ofV x = (a, b, true)) : cmpE n d a b = cmpRD n d x := by
  obtain ⟨v, e⟩ := of_val hx h
  have vd := vB_bd hv
  have hb := valid_pos v
  rw [cmpRD_eq (by omega) hx]
  unfold cmpE
  rw [hv, vB_iff.2 v]
  show cmpR n d a b = _
  have h1 : cmpR n d a b = cmpI (n * b) (a * d) := rfl
  rw [h1, ← cmpI_mul (c := (Z16 : Int)) (by have := Z16_pos; omega), ← cmpI_mul (a := n * Z16) (c := b) hb]
  congr 1
  · rw [Int.mul_right_comm]
  · rw [Int.mul_right_comm a, ← e, Int.mul_right_comm]
end Go.Fl.Dy
namespace Go.Proofs.YtnogfceojmnjiaaGreatDoor
open Go.RowKit Go.Fl Go.Fl.Nm Go.Fl.Dy Go.Fl.Rt

set_option maxHeartbeats 2000000 in
theorem signs_out (an ad : Int) (ng : Bool) (A : Option Addr) (m c : Nat) (ex : Int) (l : List Nat) (w : World) (hT : RX w) (a1 : -9223372036854775808 ≤ an) (a2 : an ≤ 9223372036854775807) (a3 : -9223372036854775808 ≤ ad) (a4 : ad ≤ 9223372036854775807) (hx : Sl w A m c l) (hv : 130 < m ∨ vldL ng l ex = false ∨ vB an ad = false) :
    Calls Tryz.prog 10 #[.agg #[.int .i64 an, .int .i64 ad], .agg #[.bool ng, .slice A m c, .int .i64 ex]] w (Awk w) := by
  have HT := Lib.hid hT
  have HX := Lib.hid hx
  have hmx := hx.max
  unfold maxLen at hmx
  clear hT hx
  by_cases h1 : 130 < m
  · have d1 : decide (130 < (m : Int)) = true := decide_eq_true (by omega)
    clear hv
    go_enter Tryz.func10, Tryz.ntmps10
    go_wp2_with fail
    obtain ⟨w1, hw⟩ : ∃ z9 : World, z9 = ((w.alloc (.cells #[.int .i64 an, .int .i64 ad] 23)).alloc (.cells #[.bool ng, .slice A m c, .int .i64 ex] 28)) := ⟨_, rfl⟩
    have HB1 := Lib.hid (show Below w.heap.size w w1 by rw [hw]; exact below_a2 _ _ _)
    have F1t := Lib.hid (HT.out.belowW HB1.out)
    have F1x := Lib.hid (HX.out.belowW HB1.out)
    have F1ka := Lib.hid (show Blk w1 (w.heap.size) 23 #[.int .i64 an, .int .i64 ad] by rw [hw]; exact (Blk.new _ _ _).alloc _)
    have F1kx := Lib.hid (show Blk w1 (w.heap.size + 1) 28 #[.bool ng, .slice A m c, .int .i64 ex] by rw [hw]; exact Blk.new1 _ _ _ _)
    rw [← hw]
    clear hw
    refine (awake_any w1 F1t.out).mono ?_
    rintro e w2 ⟨rfl, HB2⟩
    have F2t := Lib.hid (F1t.out.belowW HB2.out)
    have F2x := Lib.hid (F1x.out.belowW HB2.out)
    have F2ka := Lib.hid (F1ka.out.belowW HB2.out)
    have F2kx := Lib.hid (F1kx.out.belowW HB2.out)
    have HL2 := Lib.hid (HB1.out.trans (HB2.out.mono HB1.out.size))
    have pka0 : (w2).cell? ⟨w.heap.size, 0, none⟩ = some (.int .i64 an) := F2ka.out.cell 0
    have fka0 : (w2).frozen? ⟨w.heap.size, 0, none⟩ = false := F2ka.out.frozen 0
    have pka1 : (w2).cell? ⟨w.heap.size, 1, none⟩ = some (.int .i64 ad) := F2ka.out.cell 1
    have fka1 : (w2).frozen? ⟨w.heap.size, 1, none⟩ = false := F2ka.out.frozen 1
    have pkx0 : (w2).cell? ⟨w.heap.size + 1, 0, none⟩ = some (.bool ng) := F2kx.out.cell 0
    have fkx0 : (w2).frozen? ⟨w.heap.size + 1, 0, none⟩ = false := F2kx.out.frozen 0
    have pkx1 : (w2).cell? ⟨w.heap.size + 1, 1, none⟩ = some (.slice A m c) := F2kx.out.cell 1
    have fkx1 : (w2).frozen? ⟨w.heap.size + 1, 1, none⟩ = false := F2kx.out.frozen 1
    have pkx2 : (w2).cell? ⟨w.heap.size + 1, 2, none⟩ = some (.int .i64 ex) := F2kx.out.cell 2
    have fkx2 : (w2).frozen? ⟨w.heap.size + 1, 2, none⟩ = false := F2kx.out.frozen 2
    go_wp2_with fail
    go_ret
    exact ⟨rfl, HL2⟩
  · have d1 : decide (130 < (m : Int)) = false := decide_eq_false (by omega)
    cases h2 : vldL ng l ex with
    | false =>
      have VX := Lib.hid h2
      clear hv h2 h1
      go_enter Tryz.func10, Tryz.ntmps10
      go_wp2_with fail
      obtain ⟨w1, hw⟩ : ∃ z9 : World, z9 = ((w.alloc (.cells #[.int .i64 an, .int .i64 ad] 23)).alloc (.cells #[.bool ng, .slice A m c, .int .i64 ex] 28)) := ⟨_, rfl⟩
      have HB1 := Lib.hid (show Below w.heap.size w w1 by rw [hw]; exact below_a2 _ _ _)
      have F1t := Lib.hid (HT.out.belowW HB1.out)
      have F1x := Lib.hid (HX.out.belowW HB1.out)
      have F1ka := Lib.hid (show Blk w1 (w.heap.size) 23 #[.int .i64 an, .int .i64 ad] by rw [hw]; exact (Blk.new _ _ _).alloc _)
      have F1kx := Lib.hid (show Blk w1 (w.heap.size + 1) 28 #[.bool ng, .slice A m c, .int .i64 ex] by rw [hw]; exact Blk.new1 _ _ _ _)
      rw [← hw]
      clear hw
      refine (awake_any w1 F1t.out).mono ?_
      rintro e w2 ⟨rfl, HB2⟩
      have F2t := Lib.hid (F1t.out.belowW HB2.out)
      have F2x := Lib.hid (F1x.out.belowW HB2.out)
      have F2ka := Lib.hid (F1ka.out.belowW HB2.out)
      have F2kx := Lib.hid (F1kx.out.belowW HB2.out)
      have HL2 := Lib.hid (HB1.out.trans (HB2.out.mono HB1.out.size))
      have pka0 : (w2).cell? ⟨w.heap.size, 0, none⟩ = some (.int .i64 an) := F2ka.out.cell 0
      have fka0 : (w2).frozen? ⟨w.heap.size, 0, none⟩ = false := F2ka.out.frozen 0
      have pka1 : (w2).cell? ⟨w.heap.size, 1, none⟩ = some (.int .i64 ad) := F2ka.out.cell 1
      have fka1 : (w2).frozen? ⟨w.heap.size, 1, none⟩ = false := F2ka.out.frozen 1
      have pkx0 : (w2).cell? ⟨w.heap.size + 1, 0, none⟩ = some (.bool ng) := F2kx.out.cell 0
      have fkx0 : (w2).frozen? ⟨w.heap.size + 1, 0, none⟩ = false := F2kx.out.frozen 0
      have pkx1 : (w2).cell? ⟨w.heap.size + 1, 1, none⟩ = some (.slice A m c) := F2kx.out.cell 1
      have fkx1 : (w2).frozen? ⟨w.heap.size + 1, 1, none⟩ = false := F2kx.out.frozen 1
      have pkx2 : (w2).cell? ⟨w.heap.size + 1, 2, none⟩ = some (.int .i64 ex) := F2kx.out.cell 2
      have fkx2 : (w2).frozen? ⟨w.heap.size + 1, 2, none⟩ = false := F2kx.out.frozen 2
      go_wp2_with fail
      refine (valid02_any ng A m c ex l w2 F2x.out).mono ?_
      rw [VX.out]
      rintro e w3 ⟨rfl, HB3⟩
      have F3t := Lib.hid (F2t.out.belowW HB3.out)
      have F3x := Lib.hid (F2x.out.belowW HB3.out)
      have F3ka := Lib.hid (F2ka.out.belowW HB3.out)
      have F3kx := Lib.hid (F2kx.out.belowW HB3.out)
      have HL3 := Lib.hid (HL2.out.trans (HB3.out.mono HL2.out.size))
      clear pka0 fka0 pka1 fka1 pkx0 fkx0 pkx1 fkx1 pkx2 fkx2
      have pka0 : (w3).cell? ⟨w.heap.size, 0, none⟩ = some (.int .i64 an) := F3ka.out.cell 0
      have fka0 : (w3).frozen? ⟨w.heap.size, 0, none⟩ = false := F3ka.out.frozen 0
      have pka1 : (w3).cell? ⟨w.heap.size, 1, none⟩ = some (.int .i64 ad) := F3ka.out.cell 1
      have fka1 : (w3).frozen? ⟨w.heap.size, 1, none⟩ = false := F3ka.out.frozen 1
      have pkx0 : (w3).cell? ⟨w.heap.size + 1, 0, none⟩ = some (.bool ng) := F3kx.out.cell 0
      have fkx0 : (w3).frozen? ⟨w.heap.size + 1, 0, none⟩ = false := F3kx.out.frozen 0
      have pkx1 : (w3).cell? ⟨w.heap.size + 1, 1, none⟩ = some (.slice A m c) := F3kx.out.cell 1
      have fkx1 : (w3).frozen? ⟨w.heap.size + 1, 1, none⟩ = false := F3kx.out.frozen 1
      have pkx2 : (w3).cell? ⟨w.heap.size + 1, 2, none⟩ = some (.int .i64 ex) := F3kx.out.cell 2
      have fkx2 : (w3).frozen? ⟨w.heap.size + 1, 2, none⟩ = false := F3kx.out.frozen 2
      go_wp2_with fail
      go_ret
      exact ⟨rfl, HL3⟩
    | true =>
      have VX := Lib.hid h2
      have VA := Lib.hid (show vB an ad = false by rcases hv with h | h | h; (exact absurd h h1); (rw [h2] at h; cases h); exact h)
      clear hv h2 h1
      go_enter Tryz.func10, Tryz.ntmps10
      go_wp2_with fail
      obtain ⟨w1, hw⟩ : ∃ z9 : World, z9 = ((w.alloc (.cells #[.int .i64 an, .int .i64 ad] 23)).alloc (.cells #[.bool ng, .slice A m c, .int .i64 ex] 28)) := ⟨_, rfl⟩
      have HB1 := Lib.hid (show Below w.heap.size w w1 by rw [hw]; exact below_a2 _ _ _)
      have F1t := Lib.hid (HT.out.belowW HB1.out)
      have F1x := Lib.hid (HX.out.belowW HB1.out)
      have F1ka := Lib.hid (show Blk w1 (w.heap.size) 23 #[.int .i64 an, .int .i64 ad] by rw [hw]; exact (Blk.new _ _ _).alloc _)
      have F1kx := Lib.hid (show Blk w1 (w.heap.size + 1) 28 #[.bool ng, .slice A m c, .int .i64 ex] by rw [hw]; exact Blk.new1 _ _ _ _)
      rw [← hw]
      clear hw
      refine (awake_any w1 F1t.out).mono ?_
      rintro e w2 ⟨rfl, HB2⟩
      have F2t := Lib.hid (F1t.out.belowW HB2.out)
      have F2x := Lib.hid (F1x.out.belowW HB2.out)
      have F2ka := Lib.hid (F1ka.out.belowW HB2.out)
      have F2kx := Lib.hid (F1kx.out.belowW HB2.out)
      have HL2 := Lib.hid (HB1.out.trans (HB2.out.mono HB1.out.size))
      have pka0 : (w2).cell? ⟨w.heap.size, 0, none⟩ = some (.int .i64 an) := F2ka.out.cell 0
      have fka0 : (w2).frozen? ⟨w.heap.size, 0, none⟩ = false := F2ka.out.frozen 0
      have pka1 : (w2).cell? ⟨w.heap.size, 1, none⟩ = some (.int .i64 ad) := F2ka.out.cell 1
      have fka1 : (w2).frozen? ⟨w.heap.size, 1, none⟩ = false := F2ka.out.frozen 1
      have pkx0 : (w2).cell? ⟨w.heap.size + 1, 0, none⟩ = some (.bool ng) := F2kx.out.cell 0
      have fkx0 : (w2).frozen? ⟨w.heap.size + 1, 0, none⟩ = false := F2kx.out.frozen 0
      have pkx1 : (w2).cell? ⟨w.heap.size + 1, 1, none⟩ = some (.slice A m c) := F2kx.out.cell 1
      have fkx1 : (w2).frozen? ⟨w.heap.size + 1, 1, none⟩ = false := F2kx.out.frozen 1
      have pkx2 : (w2).cell? ⟨w.heap.size + 1, 2, none⟩ = some (.int .i64 ex) := F2kx.out.cell 2
      have fkx2 : (w2).frozen? ⟨w.heap.size + 1, 2, none⟩ = false := F2kx.out.frozen 2
      go_wp2_with fail
      refine (valid02_any ng A m c ex l w2 F2x.out).mono ?_
      rw [VX.out]
      rintro e w3 ⟨rfl, HB3⟩
      have F3t := Lib.hid (F2t.out.belowW HB3.out)
      have F3x := Lib.hid (F2x.out.belowW HB3.out)
      have F3ka := Lib.hid (F2ka.out.belowW HB3.out)
      have F3kx := Lib.hid (F2kx.out.belowW HB3.out)
      have HL3 := Lib.hid (HL2.out.trans (HB3.out.mono HL2.out.size))
      clear pka0 fka0 pka1 fka1 pkx0 fkx0 pkx1 fkx1 pkx2 fkx2
      have pka0 : (w3).cell? ⟨w.heap.size, 0, none⟩ = some (.int .i64 an) := F3ka.out.cell 0
      have fka0 : (w3).frozen? ⟨w.heap.size, 0, none⟩ = false := F3ka.out.frozen 0
      have pka1 : (w3).cell? ⟨w.heap.size, 1, none⟩ = some (.int .i64 ad) := F3ka.out.cell 1
      have fka1 : (w3).frozen? ⟨w.heap.size, 1, none⟩ = false := F3ka.out.frozen 1
      have pkx0 : (w3).cell? ⟨w.heap.size + 1, 0, none⟩ = some (.bool ng) := F3kx.out.cell 0
      have fkx0 : (w3).frozen? ⟨w.heap.size + 1, 0, none⟩ = false := F3kx.out.frozen 0
      have pkx1 : (w3).cell? ⟨w.heap.size + 1, 1, none⟩ = some (.slice A m c) := F3kx.out.cell 1
      have fkx1 : (w3).frozen? ⟨w.heap.size + 1, 1, none⟩ = false := F3kx.out.frozen 1
      have pkx2 : (w3).cell? ⟨w.heap.size + 1, 2, none⟩ = some (.int .i64 ex) := F3kx.out.cell 2
      have fkx2 : (w3).frozen? ⟨w.heap.size + 1, 2, none⟩ = false := F3kx.out.frozen 2
      go_wp2_with fail
      refine (valid_q an ad w3 a1 a2 a3 a4).mono ?_
      rw [VA.out]
      rintro e w4 ⟨rfl, HB4⟩
      have F4t := Lib.hid (F3t.out.belowW HB4.out)
      have F4x := Lib.hid (F3x.out.belowW HB4.out)
      have F4ka := Lib.hid (F3ka.out.belowW HB4.out)
      have F4kx := Lib.hid (F3kx.out.belowW HB4.out)
      have HL4 := Lib.hid (HL3.out.trans (HB4.out.mono HL3.out.size))
      clear pka0 fka0 pka1 fka1 pkx0 fkx0 pkx1 fkx1 pkx2 fkx2
      have pka0 : (w4).cell? ⟨w.heap.size, 0, none⟩ = some (.int .i64 an) := F4ka.out.cell 0
      have fka0 : (w4).frozen? ⟨w.heap.size, 0, none⟩ = false := F4ka.out.frozen 0
      have pka1 : (w4).cell? ⟨w.heap.size, 1, none⟩ = some (.int .i64 ad) := F4ka.out.cell 1
      have fka1 : (w4).frozen? ⟨w.heap.size, 1, none⟩ = false := F4ka.out.frozen 1
      have pkx0 : (w4).cell? ⟨w.heap.size + 1, 0, none⟩ = some (.bool ng) := F4kx.out.cell 0
      have fkx0 : (w4).frozen? ⟨w.heap.size + 1, 0, none⟩ = false := F4kx.out.frozen 0
      have pkx1 : (w4).cell? ⟨w.heap.size + 1, 1, none⟩ = some (.slice A m c) := F4kx.out.cell 1
      have fkx1 : (w4).frozen? ⟨w.heap.size + 1, 1, none⟩ = false := F4kx.out.frozen 1
      have pkx2 : (w4).cell? ⟨w.heap.size + 1, 2, none⟩ = some (.int .i64 ex) := F4kx.out.cell 2
      have fkx2 : (w4).frozen? ⟨w.heap.size + 1, 2, none⟩ = false := F4kx.out.frozen 2
      go_wp2_with fail
      go_ret
      exact ⟨rfl, HL4⟩

theorem valid02_yes' (d : D) (A : Option Addr) (n c : Nat) (w : World) (h : Sl w A n c (limbs d.k)) (hv : vld d) : Calls Tryz.prog 39 #[.agg #[.bool d.neg, .slice A n c, .int .i64 d.e]] w (Ret (.bool true) w) := by
  have := valid02_any d.neg A n c d.e (limbs d.k) w h
  rwa [vldL_of hv] at this
set_option maxHeartbeats 4000000 in
theorem signs_in (an ad : Int) (x : D) (A : Option Addr) (m c : Nat) (w : World) (hT : RX w) (hx : Sl w A m c (limbs x.k)) (vx : vld x) (hv : vB an ad = true) (hm : m ≤ 130) :
    Calls Tryz.prog 10 #[.agg #[.int .i64 an, .int .i64 ad], .agg #[.bool x.neg, .slice A m c, .int .i64 x.e]] w (Awk w) := by
  have HT := Lib.hid hT
  have HX := Lib.hid hx
  have VX := Lib.hid vx
  have VA := Lib.hid hv
  have VN := Lib.hid (show vB (-an) ad = true by rw [vB_neg]; exact hv)
  have VXN := Lib.hid (negD_vld vx)
  obtain ⟨v1, v2, v3, v4⟩ := vB_bd hv
  have a1 : -9223372036854775808 ≤ an := by omega
  have a2 : an ≤ 9223372036854775807 := by omega
  have a3 : -9223372036854775808 ≤ ad := by omega
  have a4 : ad ≤ 9223372036854775807 := by omega
  have d1 : decide (130 < (m : Int)) = false := decide_eq_false (by omega)
  obtain ⟨z, hz⟩ : ∃ z, cmpRD an ad x = z := ⟨_, rfl⟩
  have HZ := Lib.hid hz
  have HZN := Lib.hid (show cmpRD (-an) ad (negD x) = -z by rw [cmpRD_neg (by omega) vx, hz])
  have z1 : -1 ≤ z ∧ z ≤ 1 := by
    rw [← hz, cmpRD_eq (by omega) vx]
    unfold cmpI
    split <;> (try split) <;> omega
  obtain ⟨rn, rd, ok, hof⟩ : ∃ a b c, ofV x = (a, b, c) := ⟨_, _, _, rfl⟩
  have HOF := Lib.hid hof
  have HC := Lib.hid (show ok = true → cmpE an ad rn rd = z from fun h => by rw [← hz]; exact of_cmp vx hv (by rw [hof, h]))
  have HBD := Lib.hid (show ok = true → 1 ≤ rd ∧ rd ≤ 1073741824 ∧ -1073741824 ≤ rn ∧ rn ≤ 1073741824 from fun h => vB_bd (vB_iff.2 (of_val vx (by rw [hof, h])).1))
  have en : IntKind.i64.wrap (-an) = -an := IntWalk.i64_in _ (by omega)
  clear hT hx vx hv hz hof
  go_enter Tryz.func10, Tryz.ntmps10
  go_wp2_with fail
  obtain ⟨w1, hw⟩ : ∃ z9 : World, z9 = ((w.alloc (.cells #[.int .i64 an, .int .i64 ad] 23)).alloc (.cells #[.bool x.neg, .slice A m c, .int .i64 x.e] 28)) := ⟨_, rfl⟩
  have HB1 := Lib.hid (show Below w.heap.size w w1 by rw [hw]; exact below_a2 _ _ _)
  have F1t := Lib.hid (HT.out.belowW HB1.out)
  have F1x := Lib.hid (HX.out.belowW HB1.out)
  have F1ka := Lib.hid (show Blk w1 (w.heap.size) 23 #[.int .i64 an, .int .i64 ad] by rw [hw]; exact (Blk.new _ _ _).alloc _)
  have F1kx := Lib.hid (show Blk w1 (w.heap.size + 1) 28 #[.bool x.neg, .slice A m c, .int .i64 x.e] by rw [hw]; exact Blk.new1 _ _ _ _)
  rw [← hw]
  clear hw
  refine (awake_any w1 F1t.out).mono ?_
  rintro e w2 ⟨rfl, HB2⟩
  have F2t := Lib.hid (F1t.out.belowW HB2.out)
  have F2x := Lib.hid (F1x.out.belowW HB2.out)
  have F2ka := Lib.hid (F1ka.out.belowW HB2.out)
  have F2kx := Lib.hid (F1kx.out.belowW HB2.out)
  have HL2 := Lib.hid (HB1.out.trans (HB2.out.mono HB1.out.size))
  have pka0 : (w2).cell? ⟨w.heap.size, 0, none⟩ = some (.int .i64 an) := F2ka.out.cell 0
  have fka0 : (w2).frozen? ⟨w.heap.size, 0, none⟩ = false := F2ka.out.frozen 0
  have pka1 : (w2).cell? ⟨w.heap.size, 1, none⟩ = some (.int .i64 ad) := F2ka.out.cell 1
  have fka1 : (w2).frozen? ⟨w.heap.size, 1, none⟩ = false := F2ka.out.frozen 1
  have pkx0 : (w2).cell? ⟨w.heap.size + 1, 0, none⟩ = some (.bool x.neg) := F2kx.out.cell 0
  have fkx0 : (w2).frozen? ⟨w.heap.size + 1, 0, none⟩ = false := F2kx.out.frozen 0
  have pkx1 : (w2).cell? ⟨w.heap.size + 1, 1, none⟩ = some (.slice A m c) := F2kx.out.cell 1
  have fkx1 : (w2).frozen? ⟨w.heap.size + 1, 1, none⟩ = false := F2kx.out.frozen 1
  have pkx2 : (w2).cell? ⟨w.heap.size + 1, 2, none⟩ = some (.int .i64 x.e) := F2kx.out.cell 2
  have fkx2 : (w2).frozen? ⟨w.heap.size + 1, 2, none⟩ = false := F2kx.out.frozen 2
  go_wp2_with fail
  refine (valid02_yes' x A m c w2 F2x.out VX.out).mono ?_
  rintro e w3 ⟨rfl, HB3⟩
  have F3t := Lib.hid (F2t.out.belowW HB3.out)
  have F3x := Lib.hid (F2x.out.belowW HB3.out)
  have F3ka := Lib.hid (F2ka.out.belowW HB3.out)
  have F3kx := Lib.hid (F2kx.out.belowW HB3.out)
  have HL3 := Lib.hid (HL2.out.trans (HB3.out.mono HL2.out.size))
  clear pka0 fka0 pka1 fka1 pkx0 fkx0 pkx1 fkx1 pkx2 fkx2
  have pka0 : (w3).cell? ⟨w.heap.size, 0, none⟩ = some (.int .i64 an) := F3ka.out.cell 0
  have fka0 : (w3).frozen? ⟨w.heap.size, 0, none⟩ = false := F3ka.out.frozen 0
  have pka1 : (w3).cell? ⟨w.heap.size, 1, none⟩ = some (.int .i64 ad) := F3ka.out.cell 1
  have fka1 : (w3).frozen? ⟨w.heap.size, 1, none⟩ = false := F3ka.out.frozen 1
  have pkx0 : (w3).cell? ⟨w.heap.size + 1, 0, none⟩ = some (.bool x.neg) := F3kx.out.cell 0
  have fkx0 : (w3).frozen? ⟨w.heap.size + 1, 0, none⟩ = false := F3kx.out.frozen 0
  have pkx1 : (w3).cell? ⟨w.heap.size + 1, 1, none⟩ = some (.slice A m c) := F3kx.out.cell 1
  have fkx1 : (w3).frozen? ⟨w.heap.size + 1, 1, none⟩ = false := F3kx.out.frozen 1
  have pkx2 : (w3).cell? ⟨w.heap.size + 1, 2, none⟩ = some (.int .i64 x.e) := F3kx.out.cell 2
  have fkx2 : (w3).frozen? ⟨w.heap.size + 1, 2, none⟩ = false := F3kx.out.frozen 2
  go_wp2_with fail
  refine (valid_q an ad w3 a1 a2 a3 a4).mono ?_
  rw [VA.out]
  rintro e w4 ⟨rfl, HB4⟩
  have F4t := Lib.hid (F3t.out.belowW HB4.out)
  have F4x := Lib.hid (F3x.out.belowW HB4.out)
  have F4ka := Lib.hid (F3ka.out.belowW HB4.out)
  have F4kx := Lib.hid (F3kx.out.belowW HB4.out)
  have HL4 := Lib.hid (HL3.out.trans (HB4.out.mono HL3.out.size))
  clear pka0 fka0 pka1 fka1 pkx0 fkx0 pkx1 fkx1 pkx2 fkx2
  have pka0 : (w4).cell? ⟨w.heap.size, 0, none⟩ = some (.int .i64 an) := F4ka.out.cell 0
  have fka0 : (w4).frozen? ⟨w.heap.size, 0, none⟩ = false := F4ka.out.frozen 0
  have pka1 : (w4).cell? ⟨w.heap.size, 1, none⟩ = some (.int .i64 ad) := F4ka.out.cell 1
  have fka1 : (w4).frozen? ⟨w.heap.size, 1, none⟩ = false := F4ka.out.frozen 1
  have pkx0 : (w4).cell? ⟨w.heap.size + 1, 0, none⟩ = some (.bool x.neg) := F4kx.out.cell 0
  have fkx0 : (w4).frozen? ⟨w.heap.size + 1, 0, none⟩ = false := F4kx.out.frozen 0
  have pkx1 : (w4).cell? ⟨w.heap.size + 1, 1, none⟩ = some (.slice A m c) := F4kx.out.cell 1
  have fkx1 : (w4).frozen? ⟨w.heap.size + 1, 1, none⟩ = false := F4kx.out.frozen 1
  have pkx2 : (w4).cell? ⟨w.heap.size + 1, 2, none⟩ = some (.int .i64 x.e) := F4kx.out.cell 2
  have fkx2 : (w4).frozen? ⟨w.heap.size + 1, 2, none⟩ = false := F4kx.out.frozen 2
  go_wp2_with fail
  refine (compare_yes an ad x A m c w4 F4x.out VX.out VA.out).mono ?_
  rw [HZ.out]
  rintro e w5 ⟨rfl, HB5⟩
  have F5t := Lib.hid (F4t.out.belowW HB5.out)
  have F5x := Lib.hid (F4x.out.belowW HB5.out)
  have F5ka := Lib.hid (F4ka.out.belowW HB5.out)
  have F5kx := Lib.hid (F4kx.out.belowW HB5.out)
  have HL5 := Lib.hid (HL4.out.trans (HB5.out.mono HL4.out.size))
  clear pka0 fka0 pka1 fka1 pkx0 fkx0 pkx1 fkx1 pkx2 fkx2
  have pka0 : (w5).cell? ⟨w.heap.size, 0, none⟩ = some (.int .i64 an) := F5ka.out.cell 0
  have fka0 : (w5).frozen? ⟨w.heap.size, 0, none⟩ = false := F5ka.out.frozen 0
  have pka1 : (w5).cell? ⟨w.heap.size, 1, none⟩ = some (.int .i64 ad) := F5ka.out.cell 1
  have fka1 : (w5).frozen? ⟨w.heap.size, 1, none⟩ = false := F5ka.out.frozen 1
  have pkx0 : (w5).cell? ⟨w.heap.size + 1, 0, none⟩ = some (.bool x.neg) := F5kx.out.cell 0
  have fkx0 : (w5).frozen? ⟨w.heap.size + 1, 0, none⟩ = false := F5kx.out.frozen 0
  have pkx1 : (w5).cell? ⟨w.heap.size + 1, 1, none⟩ = some (.slice A m c) := F5kx.out.cell 1
  have fkx1 : (w5).frozen? ⟨w.heap.size + 1, 1, none⟩ = false := F5kx.out.frozen 1
  have pkx2 : (w5).cell? ⟨w.heap.size + 1, 2, none⟩ = some (.int .i64 x.e) := F5kx.out.cell 2
  have fkx2 : (w5).frozen? ⟨w.heap.size + 1, 2, none⟩ = false := F5kx.out.frozen 2
  go_wp2_with fail
  have HR6 := Lib.hid (below_dr w5)
  have R6t := Lib.hid (F5t.out.belowW HR6.out)
  have R6x := Lib.hid (F5x.out.belowW HR6.out)
  have R6ka := Lib.hid (F5ka.out.belowW HR6.out)
  have R6kx := Lib.hid (F5kx.out.belowW HR6.out)
  have c6ka0 : w5.drew.cell? ⟨w.heap.size, 0, none⟩ = some (.int .i64 an) := R6ka.out.cell 0
  have c6ka1 : w5.drew.cell? ⟨w.heap.size, 1, none⟩ = some (.int .i64 ad) := R6ka.out.cell 1
  have c6kx0 : w5.drew.cell? ⟨w.heap.size + 1, 0, none⟩ = some (.bool x.neg) := R6kx.out.cell 0
  have c6kx1 : w5.drew.cell? ⟨w.heap.size + 1, 1, none⟩ = some (.slice A m c) := R6kx.out.cell 1
  have c6kx2 : w5.drew.cell? ⟨w.heap.size + 1, 2, none⟩ = some (.int .i64 x.e) := R6kx.out.cell 2
  go_region_held3 (fun w' => w'.cell? ⟨w.heap.size, 0, none⟩ = some (.int .i64 an) ∧ w'.cell? ⟨w.heap.size, 1, none⟩ = some (.int .i64 ad) ∧ w'.cell? ⟨w.heap.size + 1, 0, none⟩ = some (.bool x.neg) ∧ w'.cell? ⟨w.heap.size + 1, 1, none⟩ = some (.slice A m c) ∧ w'.cell? ⟨w.heap.size + 1, 2, none⟩ = some (.int .i64 x.e)) ((with_reducible refine ⟨?_, ?_, ?_, ?_, ?_⟩) <;> (with_reducible assumption)) (first
    | (go_at_call 40
       (with_reducible refine (neg_any x A m c _ R6x.out VX.out).mono ?_)
       rintro e w7 ⟨B, nb, cb, rfl, HSB, HC7⟩
       have R7t := Lib.hid (R6t.out.belowW HC7.out)
       have R7x := Lib.hid (R6x.out.belowW HC7.out)
       have R7ka := Lib.hid (R6ka.out.belowW HC7.out)
       have R7kx := Lib.hid (R6kx.out.belowW HC7.out)
       have HR7 := Lib.hid (HR6.out.trans (HC7.out.mono HR6.out.size))
       have R7b := Lib.hid (HSB.out)
       have c7ka0 : w7.cell? ⟨w.heap.size, 0, none⟩ = some (.int .i64 an) := R7ka.out.cell 0
       have c7ka1 : w7.cell? ⟨w.heap.size, 1, none⟩ = some (.int .i64 ad) := R7ka.out.cell 1
       have c7kx0 : w7.cell? ⟨w.heap.size + 1, 0, none⟩ = some (.bool x.neg) := R7kx.out.cell 0
       have c7kx1 : w7.cell? ⟨w.heap.size + 1, 1, none⟩ = some (.slice A m c) := R7kx.out.cell 1
       have c7kx2 : w7.cell? ⟨w.heap.size + 1, 2, none⟩ = some (.int .i64 x.e) := R7kx.out.cell 2)
    | (go_at_call 36
       (with_reducible refine (compare_yes (-an) ad (negD x) B nb cb _ R7b.out VXN.out VN.out).mono ?_)
       rw [HZN.out]
       rintro e w8 ⟨rfl, HC8⟩
       have R8t := Lib.hid (R7t.out.belowW HC8.out)
       have R8x := Lib.hid (R7x.out.belowW HC8.out)
       have R8ka := Lib.hid (R7ka.out.belowW HC8.out)
       have R8kx := Lib.hid (R7kx.out.belowW HC8.out)
       have R8b := Lib.hid (R7b.out.belowW HC8.out)
       have HR8 := Lib.hid (HR7.out.trans (HC8.out.mono HR7.out.size))
       have c8ka0 : w8.cell? ⟨w.heap.size, 0, none⟩ = some (.int .i64 an) := R8ka.out.cell 0
       have c8ka1 : w8.cell? ⟨w.heap.size, 1, none⟩ = some (.int .i64 ad) := R8ka.out.cell 1
       have c8kx0 : w8.cell? ⟨w.heap.size + 1, 0, none⟩ = some (.bool x.neg) := R8kx.out.cell 0
       have c8kx1 : w8.cell? ⟨w.heap.size + 1, 1, none⟩ = some (.slice A m c) := R8kx.out.cell 1
       have c8kx2 : w8.cell? ⟨w.heap.size + 1, 2, none⟩ = some (.int .i64 x.e) := R8kx.out.cell 2))
  have HL8 := Lib.hid (HL5.out.trans (HR8.out.mono HL5.out.size))
  clear pka0 fka0 pka1 fka1 pkx0 fkx0 pkx1 fkx1 pkx2 fkx2
  have pka0 : (w8).cell? ⟨w.heap.size, 0, none⟩ = some (.int .i64 an) := R8ka.out.cell 0
  have fka0 : (w8).frozen? ⟨w.heap.size, 0, none⟩ = false := R8ka.out.frozen 0
  have pka1 : (w8).cell? ⟨w.heap.size, 1, none⟩ = some (.int .i64 ad) := R8ka.out.cell 1
  have fka1 : (w8).frozen? ⟨w.heap.size, 1, none⟩ = false := R8ka.out.frozen 1
  have pkx0 : (w8).cell? ⟨w.heap.size + 1, 0, none⟩ = some (.bool x.neg) := R8kx.out.cell 0
  have fkx0 : (w8).frozen? ⟨w.heap.size + 1, 0, none⟩ = false := R8kx.out.frozen 0
  have pkx1 : (w8).cell? ⟨w.heap.size + 1, 1, none⟩ = some (.slice A m c) := R8kx.out.cell 1
  have fkx1 : (w8).frozen? ⟨w.heap.size + 1, 1, none⟩ = false := R8kx.out.frozen 1
  have pkx2 : (w8).cell? ⟨w.heap.size + 1, 2, none⟩ = some (.int .i64 x.e) := R8kx.out.cell 2
  have fkx2 : (w8).frozen? ⟨w.heap.size + 1, 2, none⟩ = false := R8kx.out.frozen 2
  go_wp2_with fail
  refine (of_yes x A m c w8 R8x.out VX.out).mono ?_
  rw [HOF.out]
  rintro e w9 ⟨rfl, HB9⟩
  have F9t := Lib.hid (R8t.out.belowW HB9.out)
  have F9x := Lib.hid (R8x.out.belowW HB9.out)
  have F9ka := Lib.hid (R8ka.out.belowW HB9.out)
  have F9kx := Lib.hid (R8kx.out.belowW HB9.out)
  have F9b := Lib.hid (R8b.out.belowW HB9.out)
  have HL9 := Lib.hid (HL8.out.trans (HB9.out.mono HL8.out.size))
  go_upto_region 10 with (fail)
  obtain ⟨w10, hw⟩ : ∃ z9 : World, z9 = w9.alloc (.cells #[.int .i64 rn, .int .i64 rd] 23) := ⟨_, rfl⟩
  have HB10 := Lib.hid (show Below w9.heap.size w9 w10 by rw [hw]; exact below_a1 _ _)
  have F10q := Lib.hid (show Blk w10 w9.heap.size 23 #[.int .i64 rn, .int .i64 rd] by rw [hw]; exact Blk.new _ _ _)
  rw [← hw]
  clear hw
  have F10t := Lib.hid (F9t.out.belowW HB10.out)
  have F10x := Lib.hid (F9x.out.belowW HB10.out)
  have F10ka := Lib.hid (F9ka.out.belowW HB10.out)
  have F10kx := Lib.hid (F9kx.out.belowW HB10.out)
  have F10b := Lib.hid (F9b.out.belowW HB10.out)
  have HL10 := Lib.hid (HL9.out.trans (HB10.out.mono HL9.out.size))
  clear pka0 fka0 pka1 fka1 pkx0 fkx0 pkx1 fkx1 pkx2 fkx2
  have pka0 : (w10).cell? ⟨w.heap.size, 0, none⟩ = some (.int .i64 an) := F10ka.out.cell 0
  have fka0 : (w10).frozen? ⟨w.heap.size, 0, none⟩ = false := F10ka.out.frozen 0
  have pka1 : (w10).cell? ⟨w.heap.size, 1, none⟩ = some (.int .i64 ad) := F10ka.out.cell 1
  have fka1 : (w10).frozen? ⟨w.heap.size, 1, none⟩ = false := F10ka.out.frozen 1
  have pkx0 : (w10).cell? ⟨w.heap.size + 1, 0, none⟩ = some (.bool x.neg) := F10kx.out.cell 0
  have fkx0 : (w10).frozen? ⟨w.heap.size + 1, 0, none⟩ = false := F10kx.out.frozen 0
  have pkx1 : (w10).cell? ⟨w.heap.size + 1, 1, none⟩ = some (.slice A m c) := F10kx.out.cell 1
  have fkx1 : (w10).frozen? ⟨w.heap.size + 1, 1, none⟩ = false := F10kx.out.frozen 1
  have pkx2 : (w10).cell? ⟨w.heap.size + 1, 2, none⟩ = some (.int .i64 x.e) := F10kx.out.cell 2
  have fkx2 : (w10).frozen? ⟨w.heap.size + 1, 2, none⟩ = false := F10kx.out.frozen 2
  have pq0 : (w10).cell? ⟨w9.heap.size, 0, none⟩ = some (.int .i64 rn) := F10q.out.cell 0
  have fq0 : (w10).frozen? ⟨w9.heap.size, 0, none⟩ = false := F10q.out.frozen 0
  have pq1 : (w10).cell? ⟨w9.heap.size, 1, none⟩ = some (.int .i64 rd) := F10q.out.cell 1
  have fq1 : (w10).frozen? ⟨w9.heap.size, 1, none⟩ = false := F10q.out.frozen 1
  cases ok with
  | false =>
    clear HC HBD
    go_wp2_with fail
    go_ret
    exact ⟨rfl, HL10⟩
  | true =>
    have HC2 := Lib.hid (HC.out rfl)
    obtain ⟨q1, q2, q3, q4⟩ := HBD.out rfl
    clear HC HBD
    go_wp2_with fail
    refine (qCmp an ad rn rd w10 a1 a2 a3 a4 (by omega) (by omega) (by omega) (by omega)).mono ?_
    rw [HC2.out]
    rintro e w11 ⟨rfl, HB11⟩
    have F11t := Lib.hid (F10t.out.belowW HB11.out)
    have F11x := Lib.hid (F10x.out.belowW HB11.out)
    have F11ka := Lib.hid (F10ka.out.belowW HB11.out)
    have F11kx := Lib.hid (F10kx.out.belowW HB11.out)
    have F11b := Lib.hid (F10b.out.belowW HB11.out)
    have F11q := Lib.hid (F10q.out.belowW HB11.out)
    have HL11 := Lib.hid (HL10.out.trans (HB11.out.mono HL10.out.size))
    go_wp2_with fail
    go_ret
    exact ⟨by simp, HL11⟩

theorem ratioSigns_any (an ad : Int) (ng : Bool) (A : Option Addr) (m c : Nat) (ex : Int) (l : List Nat) (w : World) (hT : RX w) (a1 : -9223372036854775808 ≤ an) (a2 : an ≤ 9223372036854775807) (a3 : -9223372036854775808 ≤ ad) (a4 : ad ≤ 9223372036854775807) (hx : Sl w A m c l) (x1 : -9223372036854775808 ≤ ex) (x2 : ex ≤ 9223372036854775807) :
    Calls Tryz.prog 10 #[.agg #[.int .i64 an, .int .i64 ad], .agg #[.bool ng, .slice A m c, .int .i64 ex]] w (Awk w) := by
  by_cases h : 130 < m ∨ vldL ng l ex = false ∨ vB an ad = false
  · exact signs_out an ad ng A m c ex l w hT a1 a2 a3 a4 hx h
  · simp only [not_or, Bool.not_eq_false] at h
    obtain ⟨h1, h2⟩ := vldL_iff.1 h.2.1
    rw [h1] at hx
    exact signs_in an ad ⟨ng, val l, ex⟩ A m c w hT hx h2 h.2.2 (by omega)
end Go.Proofs.YtnogfceojmnjiaaGreatDoor
