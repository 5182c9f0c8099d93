/-
  The walks of flowpiperef02.bits and Valid.
-/
import Derived.Test.YtoogeihbhhcpaaaGreatDoorPkG
set_option linter.unusedVariables false
namespace Go.Fl.Dy
open Go.Fl.Nm
theorem blen_half {x : Nat} (h : x ≠ 0) : blen x = blen (x / 2) + 1 := by
  by_cases h2 : x / 2 = 0
  · obtain rfl : x = 1 := by omega
    rfl
  · have e := blen_mul (x := x / 2) (k := 1) (r := x % 2) h2 (by omega)
    rw [show 2 ^ 1 * (x / 2) + x % 2 = x by omega] at e
    omega
theorem blen_top {l : List Nat} {y : Nat} (h : ok l) (hn : l ≠ []) (hy : l[l.length - 1]? = some y) (h0 : y ≠ 0) : blen (val l) = 32 * (l.length - 1) + blen y := by
  have hp : 0 < l.length := by cases l with | nil => exact absurd rfl hn | cons a t => simp
  have ht : tl l = l.length := tl_unique (Nat.le_refl _) (by simp) (fun x _ hx => by rw [hy] at hx; injection hx with hx; rw [← hx]; exact h0)
  have := blen_val (x := y) h (by omega) (by rw [ht]; exact hy)
  rw [ht] at this
  exact this
theorem and_one32 (x : Nat) (h : x < 4294967296) : Go.bits .and .u32 (x : Int) 1 = ((x % 2 : Nat) : Int) := by
  have e := bv_and (BitVec.ofNat 32 x) 1#32
  have h1 : ((BitVec.ofNat 32 x).toNat : Int) = (x : Int) := by rw [BitVec.toNat_ofNat, Nat.mod_eq_of_lt (by omega)]
  rw [h1] at e
  refine Eq.trans e ?_
  rw [BitVec.toNat_and, BitVec.toNat_ofNat, Nat.mod_eq_of_lt (by omega)]
  show ((x &&& 1 : Nat) : Int) = _
  rw [Nat.and_one_is_mod]
end Go.Fl.Dy
namespace Go.Proofs.YtoogeihbhhcpaaaGreatDoor
open Go.RowKit Go.Fl Go.Fl.Nm Go.Fl.Dy
set_option maxHeartbeats 1000000 in
theorem bits02_any (b off n c y : Nat) (w : World) (hn : 0 < n) (hn2 : n ≤ 256) (hy : w.cell? ⟨b, off + (n - 1), none⟩ = some (.int .u32 (y : Int))) (hyB : y < 4294967296) :
    Calls Tryz.prog 106 #[.slice (some ⟨b, off, none⟩) n c] w fun e w' => e = .returned (.int .i64 ((32 * (n - 1) + blen y : Nat) : Int)) ∧ w = w' := by
  have dn0 : ((n : Int) == 0) = false := by rw [beq_eq_false_iff_ne]; omega
  have b0 : (0 : Int) ≤ (n : Int) - 1 := by omega
  have b1 : (n : Int) - 1 < n := by omega
  have b2 : ((n : Int) - 1).toNat = n - 1 := by omega
  go_enter Tryz.func106, Tryz.ntmps106
  go_wp2_with fail
  go_loop [3, 4] (fun s x => ∃ (X j : Nat), s = .int .i64 ((32 * (n - 1) + j : Nat) : Int) ∧ x = .int .u32 X ∧ X ≤ y ∧ j ≤ 32 ∧ Hid (blen X + j = blen y)) (fun _ x => (intOf x).toNat)
  case atStart => exact ⟨y, 0, by go_num, rfl, Nat.le_refl _, by omega, Lib.hid (Nat.add_zero _)⟩
  case round =>
    obtain ⟨X, j, rfl, rfl, hX, hj, HJ⟩ := hrel
    by_cases h0 : X = 0
    · subst h0
      have HE := Lib.hid (show j = blen y by rw [← HJ.out, blen_zero, Nat.zero_add])
      go_wp2_with fail
      go_ret
      exact ⟨ret_int (by rw [← HE.out]), rfl⟩
    · have d0 : decide (0 < (X : Int)) = true := decide_eq_true (by omega)
      have HN := Lib.hid (show blen (X / 2) + (j + 1) = blen y by have h1 := HJ.out; have h2 := blen_half h0; omega)
      have hj2 : j + 1 ≤ 32 := by have h1 := HN.out; have h2 : blen y ≤ 32 := blen_le hyB; omega
      go_wp2_with fail
      refine ⟨⟨X / 2, j + 1, ?_, ?_, by omega, hj2, HN⟩, ?_⟩
      · go_num
      · go_num
      · simp [intOf]; omega

set_option maxHeartbeats 2000000 in
theorem valid02_any (ng : Bool) (A : Option Addr) (n c : Nat) (ex : Int) (l : List Nat) (w : World) (h : Sl w A n c l) :
    Calls Tryz.prog 70 #[.agg #[.bool ng, .slice A n c, .int .i64 ex]] w (Ret (.bool (vldL ng l ex)) w) := by
  have H := Lib.hid h
  have hmx := h.max
  unfold maxLen at hmx
  have HLN := Lib.hid h.len
  have HOK := Lib.hid h.ok
  clear h
  by_cases hn0 : n = 0
  · subst hn0
    have HL0 := Lib.hid (List.eq_nil_of_length_eq_zero HLN.out)
    have HR := Lib.hid (show vldL ng l ex = (!ng && decide (ex = 0)) by rw [HL0.out]; exact vldL_nil ng ex)
    cases ng with
    | true =>
      go_enter Tryz.func70, Tryz.ntmps70
      go_wp2_with fail
      obtain ⟨w1, hw⟩ : ∃ z9 : World, z9 = (w.alloc (.cells #[.bool true, .slice A 0 c, .int .i64 ex] 40)) := ⟨_, rfl⟩
      have HB1 := Lib.hid (show Below w.heap.size w w1 by rw [hw]; exact below_a1 _ _)
      have F1a := Lib.hid (H.out.belowW HB1.out)
      have F1d := Lib.hid (show Blk w1 (w.heap.size) 40 #[.bool true, .slice A 0 c, .int .i64 ex] by rw [hw]; exact Blk.new _ _ _)
      rw [← hw]
      clear hw
      have pd0 : (w1).cell? ⟨w.heap.size, 0, none⟩ = some (.bool true) := F1d.out.cell 0
      have fd0 : (w1).frozen? ⟨w.heap.size, 0, none⟩ = false := F1d.out.frozen 0
      have pd1 : (w1).cell? ⟨w.heap.size, 1, none⟩ = some (.slice A 0 c) := F1d.out.cell 1
      have fd1 : (w1).frozen? ⟨w.heap.size, 1, none⟩ = false := F1d.out.frozen 1
      have pd2 : (w1).cell? ⟨w.heap.size, 2, none⟩ = some (.int .i64 ex) := F1d.out.cell 2
      have fd2 : (w1).frozen? ⟨w.heap.size, 2, none⟩ = false := F1d.out.frozen 2
      go_wp2_with fail
      go_ret
      exact ⟨ret_bool (by rw [HR.out]; rfl), HB1⟩
    | false =>
      by_cases he : ex = 0
      · have de : (ex == 0) = true := by simp [he]
        have HR2 := Lib.hid (show vldL false l ex = true by rw [HR.out]; simp [he])
        clear he
        go_enter Tryz.func70, Tryz.ntmps70
        go_wp2_with fail
        obtain ⟨w1, hw⟩ : ∃ z9 : World, z9 = (w.alloc (.cells #[.bool false, .slice A 0 c, .int .i64 ex] 40)) := ⟨_, rfl⟩
        have HB1 := Lib.hid (show Below w.heap.size w w1 by rw [hw]; exact below_a1 _ _)
        have F1a := Lib.hid (H.out.belowW HB1.out)
        have F1d := Lib.hid (show Blk w1 (w.heap.size) 40 #[.bool false, .slice A 0 c, .int .i64 ex] by rw [hw]; exact Blk.new _ _ _)
        rw [← hw]
        clear hw
        have pd0 : (w1).cell? ⟨w.heap.size, 0, none⟩ = some (.bool false) := F1d.out.cell 0
        have fd0 : (w1).frozen? ⟨w.heap.size, 0, none⟩ = false := F1d.out.frozen 0
        have pd1 : (w1).cell? ⟨w.heap.size, 1, none⟩ = some (.slice A 0 c) := F1d.out.cell 1
        have fd1 : (w1).frozen? ⟨w.heap.size, 1, none⟩ = false := F1d.out.frozen 1
        have pd2 : (w1).cell? ⟨w.heap.size, 2, none⟩ = some (.int .i64 ex) := F1d.out.cell 2
        have fd2 : (w1).frozen? ⟨w.heap.size, 2, none⟩ = false := F1d.out.frozen 2
        go_wp2_with fail
        go_ret
        exact ⟨ret_bool (by rw [HR2.out]), HB1⟩
      · have de : (ex == 0) = false := by simp [he]
        have HR2 := Lib.hid (show vldL false l ex = false by rw [HR.out]; simp [he])
        clear he
        go_enter Tryz.func70, Tryz.ntmps70
        go_wp2_with fail
        obtain ⟨w1, hw⟩ : ∃ z9 : World, z9 = (w.alloc (.cells #[.bool false, .slice A 0 c, .int .i64 ex] 40)) := ⟨_, rfl⟩
        have HB1 := Lib.hid (show Below w.heap.size w w1 by rw [hw]; exact below_a1 _ _)
        have F1a := Lib.hid (H.out.belowW HB1.out)
        have F1d := Lib.hid (show Blk w1 (w.heap.size) 40 #[.bool false, .slice A 0 c, .int .i64 ex] by rw [hw]; exact Blk.new _ _ _)
        rw [← hw]
        clear hw
        have pd0 : (w1).cell? ⟨w.heap.size, 0, none⟩ = some (.bool false) := F1d.out.cell 0
        have fd0 : (w1).frozen? ⟨w.heap.size, 0, none⟩ = false := F1d.out.frozen 0
        have pd1 : (w1).cell? ⟨w.heap.size, 1, none⟩ = some (.slice A 0 c) := F1d.out.cell 1
        have fd1 : (w1).frozen? ⟨w.heap.size, 1, none⟩ = false := F1d.out.frozen 1
        have pd2 : (w1).cell? ⟨w.heap.size, 2, none⟩ = some (.int .i64 ex) := F1d.out.cell 2
        have fd2 : (w1).frozen? ⟨w.heap.size, 2, none⟩ = false := F1d.out.frozen 2
        go_wp2_with fail
        go_ret
        exact ⟨ret_bool (by rw [HR2.out]), HB1⟩
  · have dn0 : ((n : Int) == 0) = false := by rw [beq_eq_false_iff_ne]; omega
    obtain ⟨b, off, x, hA, hb, hx, hxB, hx0⟩ := H.out.at_ (i := 0) (by omega)
    obtain ⟨b', off', y, hA', hb', hy, hyB, hy0⟩ := H.out.at_ (i := n - 1) (by omega)
    rw [hA] at hA'
    injection hA' with hA'
    injection hA' with e1 e2
    subst e1 e2 hA
    have HV := Lib.hid (vldL_pos (neg := ng) (e := ex) HOK.out hx (by rw [HLN.out]; exact hy))
    have HT := Lib.hid (fun h0 : y ≠ 0 => blen_top HOK.out (fun e => by have := HLN.out; rw [e] at this; simp at this; omega) (by rw [HLN.out]; exact hy) h0)
    have HZ := Lib.hid (fun h0 : y ≠ 0 => show val l ≠ 0 from fun e => by have h1 := HT.out h0; rw [e, blen_zero] at h1; have := blen_pos h0; omega)
    rw [HLN.out] at HV HT
    clear hx hy hb'
    unfold BB at hxB hyB
    rw [Nat.add_zero] at hx0
    have b0 : (0 : Int) ≤ (n : Int) - 1 := by omega
    have b1 : (n : Int) - 1 < n := by omega
    have b2 : ((n : Int) - 1).toNat = n - 1 := by omega
    by_cases t1 : n ≤ 256
    case neg =>
      have d1 : decide (256 < (n : Int)) = true := decide_eq_true (by omega)
      have HR := Lib.hid (show vldL ng l ex = false by rw [HV.out]; rw [decide_eq_false t1]; rfl)

      go_enter Tryz.func70, Tryz.ntmps70
      go_wp2_with fail
      obtain ⟨w1, hw⟩ : ∃ z9 : World, z9 = (w.alloc (.cells #[.bool ng, .slice (some ⟨b, off, none⟩) n c, .int .i64 ex] 40)) := ⟨_, rfl⟩
      have HB1 := Lib.hid (show Below w.heap.size w w1 by rw [hw]; exact below_a1 _ _)
      have F1a := Lib.hid (H.out.belowW HB1.out)
      have F1d := Lib.hid (show Blk w1 (w.heap.size) 40 #[.bool ng, .slice (some ⟨b, off, none⟩) n c, .int .i64 ex] by rw [hw]; exact Blk.new _ _ _)
      rw [← hw]
      clear hw
      have pd0 : (w1).cell? ⟨w.heap.size, 0, none⟩ = some (.bool ng) := F1d.out.cell 0
      have fd0 : (w1).frozen? ⟨w.heap.size, 0, none⟩ = false := F1d.out.frozen 0
      have pd1 : (w1).cell? ⟨w.heap.size, 1, none⟩ = some (.slice (some ⟨b, off, none⟩) n c) := F1d.out.cell 1
      have fd1 : (w1).frozen? ⟨w.heap.size, 1, none⟩ = false := F1d.out.frozen 1
      have pd2 : (w1).cell? ⟨w.heap.size, 2, none⟩ = some (.int .i64 ex) := F1d.out.cell 2
      have fd2 : (w1).frozen? ⟨w.heap.size, 2, none⟩ = false := F1d.out.frozen 2
      have c0 : w1.cell? ⟨b, off, none⟩ = some (.int .u32 x) := HB1.out.cell (p := ⟨b, off, none⟩) hb ▸ hx0
      have c1 : w1.cell? ⟨b, off + (n - 1), none⟩ = some (.int .u32 y) := HB1.out.cell (p := ⟨b, off + (n - 1), none⟩) hb ▸ hy0
      go_wp2_with fail
      go_ret
      exact ⟨ret_bool (by rw [HR.out]), HB1⟩
    have d1 : decide (256 < (n : Int)) = false := decide_eq_false (by omega)
    by_cases t2 : y ≠ 0
    case neg =>
      have d2 : ((y : Int) == 0) = true := by rw [beq_iff_eq]; omega
      have HR := Lib.hid (show vldL ng l ex = false by rw [HV.out]; rw [decide_eq_false t2]; simp)

      go_enter Tryz.func70, Tryz.ntmps70
      go_wp2_with fail
      obtain ⟨w1, hw⟩ : ∃ z9 : World, z9 = (w.alloc (.cells #[.bool ng, .slice (some ⟨b, off, none⟩) n c, .int .i64 ex] 40)) := ⟨_, rfl⟩
      have HB1 := Lib.hid (show Below w.heap.size w w1 by rw [hw]; exact below_a1 _ _)
      have F1a := Lib.hid (H.out.belowW HB1.out)
      have F1d := Lib.hid (show Blk w1 (w.heap.size) 40 #[.bool ng, .slice (some ⟨b, off, none⟩) n c, .int .i64 ex] by rw [hw]; exact Blk.new _ _ _)
      rw [← hw]
      clear hw
      have pd0 : (w1).cell? ⟨w.heap.size, 0, none⟩ = some (.bool ng) := F1d.out.cell 0
      have fd0 : (w1).frozen? ⟨w.heap.size, 0, none⟩ = false := F1d.out.frozen 0
      have pd1 : (w1).cell? ⟨w.heap.size, 1, none⟩ = some (.slice (some ⟨b, off, none⟩) n c) := F1d.out.cell 1
      have fd1 : (w1).frozen? ⟨w.heap.size, 1, none⟩ = false := F1d.out.frozen 1
      have pd2 : (w1).cell? ⟨w.heap.size, 2, none⟩ = some (.int .i64 ex) := F1d.out.cell 2
      have fd2 : (w1).frozen? ⟨w.heap.size, 2, none⟩ = false := F1d.out.frozen 2
      have c0 : w1.cell? ⟨b, off, none⟩ = some (.int .u32 x) := HB1.out.cell (p := ⟨b, off, none⟩) hb ▸ hx0
      have c1 : w1.cell? ⟨b, off + (n - 1), none⟩ = some (.int .u32 y) := HB1.out.cell (p := ⟨b, off + (n - 1), none⟩) hb ▸ hy0
      go_wp2_with fail
      go_ret
      exact ⟨ret_bool (by rw [HR.out]), HB1⟩
    have d2 : ((y : Int) == 0) = false := by rw [beq_eq_false_iff_ne]; omega
    have HA1 := Lib.hid (and_one32 x hxB)
    by_cases t3 : x % 2 = 1
    case neg =>
      have d3 : bits .and .u32 (x : Int) 1 = 0 := by rw [HA1.out]; omega
      have HR := Lib.hid (show vldL ng l ex = false by rw [HV.out]; rw [decide_eq_false t3]; simp)

      go_enter Tryz.func70, Tryz.ntmps70
      go_wp2_with fail
      obtain ⟨w1, hw⟩ : ∃ z9 : World, z9 = (w.alloc (.cells #[.bool ng, .slice (some ⟨b, off, none⟩) n c, .int .i64 ex] 40)) := ⟨_, rfl⟩
      have HB1 := Lib.hid (show Below w.heap.size w w1 by rw [hw]; exact below_a1 _ _)
      have F1a := Lib.hid (H.out.belowW HB1.out)
      have F1d := Lib.hid (show Blk w1 (w.heap.size) 40 #[.bool ng, .slice (some ⟨b, off, none⟩) n c, .int .i64 ex] by rw [hw]; exact Blk.new _ _ _)
      rw [← hw]
      clear hw
      have pd0 : (w1).cell? ⟨w.heap.size, 0, none⟩ = some (.bool ng) := F1d.out.cell 0
      have fd0 : (w1).frozen? ⟨w.heap.size, 0, none⟩ = false := F1d.out.frozen 0
      have pd1 : (w1).cell? ⟨w.heap.size, 1, none⟩ = some (.slice (some ⟨b, off, none⟩) n c) := F1d.out.cell 1
      have fd1 : (w1).frozen? ⟨w.heap.size, 1, none⟩ = false := F1d.out.frozen 1
      have pd2 : (w1).cell? ⟨w.heap.size, 2, none⟩ = some (.int .i64 ex) := F1d.out.cell 2
      have fd2 : (w1).frozen? ⟨w.heap.size, 2, none⟩ = false := F1d.out.frozen 2
      have c0 : w1.cell? ⟨b, off, none⟩ = some (.int .u32 x) := HB1.out.cell (p := ⟨b, off, none⟩) hb ▸ hx0
      have c1 : w1.cell? ⟨b, off + (n - 1), none⟩ = some (.int .u32 y) := HB1.out.cell (p := ⟨b, off + (n - 1), none⟩) hb ▸ hy0
      go_wp2_with fail
      go_ret
      exact ⟨ret_bool (by rw [HR.out]), HB1⟩
    have d3 : bits .and .u32 (x : Int) 1 = 1 := by rw [HA1.out]; omega
    have HI := Lib.hid (show vldL ng l ex = inR (val l) ex by rw [HV.out, decide_eq_true t1, decide_eq_true t2, decide_eq_true t3]; rfl)
    have HI2 := Lib.hid (inR_iff (e := ex) (HZ.out t2))
    by_cases t4 : ex < -16384
    case pos =>
      have d4 : decide (ex < -16384) = true := decide_eq_true t4
      have HR := Lib.hid (show vldL ng l ex = false by rw [HI.out, Bool.eq_false_iff]; intro h; have := HI2.out.1 h; omega)

      go_enter Tryz.func70, Tryz.ntmps70
      go_wp2_with fail
      obtain ⟨w1, hw⟩ : ∃ z9 : World, z9 = (w.alloc (.cells #[.bool ng, .slice (some ⟨b, off, none⟩) n c, .int .i64 ex] 40)) := ⟨_, rfl⟩
      have HB1 := Lib.hid (show Below w.heap.size w w1 by rw [hw]; exact below_a1 _ _)
      have F1a := Lib.hid (H.out.belowW HB1.out)
      have F1d := Lib.hid (show Blk w1 (w.heap.size) 40 #[.bool ng, .slice (some ⟨b, off, none⟩) n c, .int .i64 ex] by rw [hw]; exact Blk.new _ _ _)
      rw [← hw]
      clear hw
      have pd0 : (w1).cell? ⟨w.heap.size, 0, none⟩ = some (.bool ng) := F1d.out.cell 0
      have fd0 : (w1).frozen? ⟨w.heap.size, 0, none⟩ = false := F1d.out.frozen 0
      have pd1 : (w1).cell? ⟨w.heap.size, 1, none⟩ = some (.slice (some ⟨b, off, none⟩) n c) := F1d.out.cell 1
      have fd1 : (w1).frozen? ⟨w.heap.size, 1, none⟩ = false := F1d.out.frozen 1
      have pd2 : (w1).cell? ⟨w.heap.size, 2, none⟩ = some (.int .i64 ex) := F1d.out.cell 2
      have fd2 : (w1).frozen? ⟨w.heap.size, 2, none⟩ = false := F1d.out.frozen 2
      have c0 : w1.cell? ⟨b, off, none⟩ = some (.int .u32 x) := HB1.out.cell (p := ⟨b, off, none⟩) hb ▸ hx0
      have c1 : w1.cell? ⟨b, off + (n - 1), none⟩ = some (.int .u32 y) := HB1.out.cell (p := ⟨b, off + (n - 1), none⟩) hb ▸ hy0
      go_wp2_with fail
      go_ret
      exact ⟨ret_bool (by rw [HR.out]), HB1⟩
    have d4 : decide (ex < -16384) = false := decide_eq_false t4
    by_cases t5 : 16384 < ex
    case pos =>
      have d5 : decide (16384 < ex) = true := decide_eq_true t5
      have HR := Lib.hid (show vldL ng l ex = false by rw [HI.out, Bool.eq_false_iff]; intro h; have := HI2.out.1 h; omega)

      go_enter Tryz.func70, Tryz.ntmps70
      go_wp2_with fail
      obtain ⟨w1, hw⟩ : ∃ z9 : World, z9 = (w.alloc (.cells #[.bool ng, .slice (some ⟨b, off, none⟩) n c, .int .i64 ex] 40)) := ⟨_, rfl⟩
      have HB1 := Lib.hid (show Below w.heap.size w w1 by rw [hw]; exact below_a1 _ _)
      have F1a := Lib.hid (H.out.belowW HB1.out)
      have F1d := Lib.hid (show Blk w1 (w.heap.size) 40 #[.bool ng, .slice (some ⟨b, off, none⟩) n c, .int .i64 ex] by rw [hw]; exact Blk.new _ _ _)
      rw [← hw]
      clear hw
      have pd0 : (w1).cell? ⟨w.heap.size, 0, none⟩ = some (.bool ng) := F1d.out.cell 0
      have fd0 : (w1).frozen? ⟨w.heap.size, 0, none⟩ = false := F1d.out.frozen 0
      have pd1 : (w1).cell? ⟨w.heap.size, 1, none⟩ = some (.slice (some ⟨b, off, none⟩) n c) := F1d.out.cell 1
      have fd1 : (w1).frozen? ⟨w.heap.size, 1, none⟩ = false := F1d.out.frozen 1
      have pd2 : (w1).cell? ⟨w.heap.size, 2, none⟩ = some (.int .i64 ex) := F1d.out.cell 2
      have fd2 : (w1).frozen? ⟨w.heap.size, 2, none⟩ = false := F1d.out.frozen 2
      have c0 : w1.cell? ⟨b, off, none⟩ = some (.int .u32 x) := HB1.out.cell (p := ⟨b, off, none⟩) hb ▸ hx0
      have c1 : w1.cell? ⟨b, off + (n - 1), none⟩ = some (.int .u32 y) := HB1.out.cell (p := ⟨b, off + (n - 1), none⟩) hb ▸ hy0
      go_wp2_with fail
      go_ret
      exact ⟨ret_bool (by rw [HR.out]), HB1⟩
    have d5 : decide (16384 < ex) = false := decide_eq_false t5
    obtain ⟨B, hB⟩ : ∃ B, blen (val l) = B := ⟨_, rfl⟩
    rw [hB] at HI2 HT
    have B1 : B ≤ 8192 := by rw [HT.out t2]; have h2 : blen y ≤ 32 := blen_le hyB; omega
    clear hB
    by_cases t6 : B ≤ 4096
    case neg =>
      have d6 : decide (B ≤ 4096) = false := decide_eq_false t6
      have d6' : decide ((B : Int) ≤ 4096) = false := decide_eq_false (by omega)
      have HR := Lib.hid (show vldL ng l ex = false by rw [HI.out, Bool.eq_false_iff]; intro h; have := HI2.out.1 h; omega)

      go_enter Tryz.func70, Tryz.ntmps70
      go_wp2_with fail
      obtain ⟨w1, hw⟩ : ∃ z9 : World, z9 = (w.alloc (.cells #[.bool ng, .slice (some ⟨b, off, none⟩) n c, .int .i64 ex] 40)) := ⟨_, rfl⟩
      have HB1 := Lib.hid (show Below w.heap.size w w1 by rw [hw]; exact below_a1 _ _)
      have F1a := Lib.hid (H.out.belowW HB1.out)
      have F1d := Lib.hid (show Blk w1 (w.heap.size) 40 #[.bool ng, .slice (some ⟨b, off, none⟩) n c, .int .i64 ex] by rw [hw]; exact Blk.new _ _ _)
      rw [← hw]
      clear hw
      have pd0 : (w1).cell? ⟨w.heap.size, 0, none⟩ = some (.bool ng) := F1d.out.cell 0
      have fd0 : (w1).frozen? ⟨w.heap.size, 0, none⟩ = false := F1d.out.frozen 0
      have pd1 : (w1).cell? ⟨w.heap.size, 1, none⟩ = some (.slice (some ⟨b, off, none⟩) n c) := F1d.out.cell 1
      have fd1 : (w1).frozen? ⟨w.heap.size, 1, none⟩ = false := F1d.out.frozen 1
      have pd2 : (w1).cell? ⟨w.heap.size, 2, none⟩ = some (.int .i64 ex) := F1d.out.cell 2
      have fd2 : (w1).frozen? ⟨w.heap.size, 2, none⟩ = false := F1d.out.frozen 2
      have c0 : w1.cell? ⟨b, off, none⟩ = some (.int .u32 x) := HB1.out.cell (p := ⟨b, off, none⟩) hb ▸ hx0
      have c1 : w1.cell? ⟨b, off + (n - 1), none⟩ = some (.int .u32 y) := HB1.out.cell (p := ⟨b, off + (n - 1), none⟩) hb ▸ hy0
      go_wp2_with fail
      refine (bits02_any b off n c y w1 (by omega) t1 c1 hyB).mono ?_
      rw [← HT.out t2]
      rintro e w' ⟨rfl, rfl⟩
      go_wp2_with fail
      go_ret
      exact ⟨ret_bool (by rw [HR.out]), HB1⟩
    have d6 : decide (B ≤ 4096) = true := decide_eq_true t6
    have d6' : decide ((B : Int) ≤ 4096) = true := decide_eq_true (by omega)
    by_cases t7 : (B : Int) + ex ≤ 16384
    case neg =>
      have d7 : decide ((B : Int) + ex ≤ 16384) = false := decide_eq_false t7
      have HR := Lib.hid (show vldL ng l ex = false by rw [HI.out, Bool.eq_false_iff]; intro h; have := HI2.out.1 h; omega)

      go_enter Tryz.func70, Tryz.ntmps70
      go_wp2_with fail
      obtain ⟨w1, hw⟩ : ∃ z9 : World, z9 = (w.alloc (.cells #[.bool ng, .slice (some ⟨b, off, none⟩) n c, .int .i64 ex] 40)) := ⟨_, rfl⟩
      have HB1 := Lib.hid (show Below w.heap.size w w1 by rw [hw]; exact below_a1 _ _)
      have F1a := Lib.hid (H.out.belowW HB1.out)
      have F1d := Lib.hid (show Blk w1 (w.heap.size) 40 #[.bool ng, .slice (some ⟨b, off, none⟩) n c, .int .i64 ex] by rw [hw]; exact Blk.new _ _ _)
      rw [← hw]
      clear hw
      have pd0 : (w1).cell? ⟨w.heap.size, 0, none⟩ = some (.bool ng) := F1d.out.cell 0
      have fd0 : (w1).frozen? ⟨w.heap.size, 0, none⟩ = false := F1d.out.frozen 0
      have pd1 : (w1).cell? ⟨w.heap.size, 1, none⟩ = some (.slice (some ⟨b, off, none⟩) n c) := F1d.out.cell 1
      have fd1 : (w1).frozen? ⟨w.heap.size, 1, none⟩ = false := F1d.out.frozen 1
      have pd2 : (w1).cell? ⟨w.heap.size, 2, none⟩ = some (.int .i64 ex) := F1d.out.cell 2
      have fd2 : (w1).frozen? ⟨w.heap.size, 2, none⟩ = false := F1d.out.frozen 2
      have c0 : w1.cell? ⟨b, off, none⟩ = some (.int .u32 x) := HB1.out.cell (p := ⟨b, off, none⟩) hb ▸ hx0
      have c1 : w1.cell? ⟨b, off + (n - 1), none⟩ = some (.int .u32 y) := HB1.out.cell (p := ⟨b, off + (n - 1), none⟩) hb ▸ hy0
      go_wp2_with fail
      refine (bits02_any b off n c y w1 (by omega) t1 c1 hyB).mono ?_
      rw [← HT.out t2]
      rintro e w' ⟨rfl, rfl⟩
      go_wp2_with fail
      go_ret
      exact ⟨ret_bool (by rw [HR.out]), HB1⟩
    have d7 : decide ((B : Int) + ex ≤ 16384) = true := decide_eq_true t7
    have HR := Lib.hid (show vldL ng l ex = true by rw [HI.out]; exact HI2.out.2 ⟨t6, by omega, by omega, t7⟩)

    go_enter Tryz.func70, Tryz.ntmps70
    go_wp2_with fail
    obtain ⟨w1, hw⟩ : ∃ z9 : World, z9 = (w.alloc (.cells #[.bool ng, .slice (some ⟨b, off, none⟩) n c, .int .i64 ex] 40)) := ⟨_, rfl⟩
    have HB1 := Lib.hid (show Below w.heap.size w w1 by rw [hw]; exact below_a1 _ _)
    have F1a := Lib.hid (H.out.belowW HB1.out)
    have F1d := Lib.hid (show Blk w1 (w.heap.size) 40 #[.bool ng, .slice (some ⟨b, off, none⟩) n c, .int .i64 ex] by rw [hw]; exact Blk.new _ _ _)
    rw [← hw]
    clear hw
    have pd0 : (w1).cell? ⟨w.heap.size, 0, none⟩ = some (.bool ng) := F1d.out.cell 0
    have fd0 : (w1).frozen? ⟨w.heap.size, 0, none⟩ = false := F1d.out.frozen 0
    have pd1 : (w1).cell? ⟨w.heap.size, 1, none⟩ = some (.slice (some ⟨b, off, none⟩) n c) := F1d.out.cell 1
    have fd1 : (w1).frozen? ⟨w.heap.size, 1, none⟩ = false := F1d.out.frozen 1
    have pd2 : (w1).cell? ⟨w.heap.size, 2, none⟩ = some (.int .i64 ex) := F1d.out.cell 2
    have fd2 : (w1).frozen? ⟨w.heap.size, 2, none⟩ = false := F1d.out.frozen 2
    have c0 : w1.cell? ⟨b, off, none⟩ = some (.int .u32 x) := HB1.out.cell (p := ⟨b, off, none⟩) hb ▸ hx0
    have c1 : w1.cell? ⟨b, off + (n - 1), none⟩ = some (.int .u32 y) := HB1.out.cell (p := ⟨b, off + (n - 1), none⟩) hb ▸ hy0
    go_wp2_with fail
    refine (bits02_any b off n c y w1 (by omega) t1 c1 hyB).mono ?_
    rw [← HT.out t2]
    rintro e w' ⟨rfl, rfl⟩
    go_wp2_with fail
    go_ret
    exact ⟨ret_bool (by rw [HR.out]), HB1⟩
end Go.Proofs.YtoogeihbhhcpaaaGreatDoor
