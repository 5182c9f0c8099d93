/-
  The walks of the reference's intervals: zero, Valid; of its decimals: Writable, ten.
-/
import Derived.Test.YtoogeihbhhcpaaaGreatDoorDecS
set_option linter.unusedVariables false
namespace Go.Proofs.YtoogeihbhhcpaaaGreatDoor
open Go.RowKit Go.Fl Go.Fl.Nm Go.Fl.Dy
set_option maxHeartbeats 1000000 in
theorem zero05_any (ng : Bool) (A : Option Addr) (n c : Nat) (ex : Int) (w : World) (hn : n ≤ maxLen) :
    Calls Tryz.prog 69 #[.agg #[.bool ng, .slice A n c, .int .i64 ex]] w (Ret (.bool (zeroB ng n ex)) w) := by
  unfold maxLen at hn
  cases ng with
  | true =>
    go_enter Tryz.func69, Tryz.ntmps69
    go_wp2_with fail
    obtain ⟨w1, hw⟩ : ∃ z9 : World, z9 = (w.alloc (.cells #[.bool true, .slice A n c, .int .i64 ex] 40)) := ⟨_, rfl⟩
    have HB1 := Lib.hid (show Below w.heap.size w w1 by rw [hw]; exact below_a1 _ _)
    have F1d := Lib.hid (show Blk w1 (w.heap.size) 40 #[.bool true, .slice A n c, .int .i64 ex] by rw [hw]; exact Blk.new _ _ _)
    rw [← hw]
    clear hw
    have pd0 : (w1).cell? ⟨w.heap.size, 0, none⟩ = some (.bool true) := F1d.out.cell 0
    have fd0 : (w1).frozen? ⟨w.heap.size, 0, none⟩ = false := F1d.out.frozen 0
    have pd1 : (w1).cell? ⟨w.heap.size, 1, none⟩ = some (.slice A n c) := F1d.out.cell 1
    have fd1 : (w1).frozen? ⟨w.heap.size, 1, none⟩ = false := F1d.out.frozen 1
    have pd2 : (w1).cell? ⟨w.heap.size, 2, none⟩ = some (.int .i64 ex) := F1d.out.cell 2
    have fd2 : (w1).frozen? ⟨w.heap.size, 2, none⟩ = false := F1d.out.frozen 2
    go_wp2_with fail
    go_ret
    exact ⟨ret_bool (rfl), HB1⟩
  | false =>
    by_cases h1 : n = 0
    case neg =>
      have d1 : ((n : Int) == 0) = false := by rw [beq_eq_false_iff_ne]; omega
      have HR := Lib.hid (show zeroB false n ex = false by unfold zeroB; rw [decide_eq_false h1]; rfl)
      clear h1
      go_enter Tryz.func69, Tryz.ntmps69
      go_wp2_with fail
      obtain ⟨w1, hw⟩ : ∃ z9 : World, z9 = (w.alloc (.cells #[.bool false, .slice A n c, .int .i64 ex] 40)) := ⟨_, rfl⟩
      have HB1 := Lib.hid (show Below w.heap.size w w1 by rw [hw]; exact below_a1 _ _)
      have F1d := Lib.hid (show Blk w1 (w.heap.size) 40 #[.bool false, .slice A n c, .int .i64 ex] by rw [hw]; exact Blk.new _ _ _)
      rw [← hw]
      clear hw
      have pd0 : (w1).cell? ⟨w.heap.size, 0, none⟩ = some (.bool false) := F1d.out.cell 0
      have fd0 : (w1).frozen? ⟨w.heap.size, 0, none⟩ = false := F1d.out.frozen 0
      have pd1 : (w1).cell? ⟨w.heap.size, 1, none⟩ = some (.slice A n c) := F1d.out.cell 1
      have fd1 : (w1).frozen? ⟨w.heap.size, 1, none⟩ = false := F1d.out.frozen 1
      have pd2 : (w1).cell? ⟨w.heap.size, 2, none⟩ = some (.int .i64 ex) := F1d.out.cell 2
      have fd2 : (w1).frozen? ⟨w.heap.size, 2, none⟩ = false := F1d.out.frozen 2
      go_wp2_with fail
      go_ret
      exact ⟨ret_bool (by rw [HR.out]), HB1⟩
    subst h1
    by_cases h2 : ex = 0
    case neg =>
      have d2 : (ex == 0) = false := by rw [beq_eq_false_iff_ne]; exact h2
      have HR := Lib.hid (show zeroB false 0 ex = false by unfold zeroB; rw [decide_eq_false h2]; rfl)
      clear h2
      go_enter Tryz.func69, Tryz.ntmps69
      go_wp2_with fail
      obtain ⟨w1, hw⟩ : ∃ z9 : World, z9 = (w.alloc (.cells #[.bool false, .slice A 0 c, .int .i64 ex] 40)) := ⟨_, rfl⟩
      have HB1 := Lib.hid (show Below w.heap.size w w1 by rw [hw]; exact below_a1 _ _)
      have F1d := Lib.hid (show Blk w1 (w.heap.size) 40 #[.bool false, .slice A 0 c, .int .i64 ex] by rw [hw]; exact Blk.new _ _ _)
      rw [← hw]
      clear hw
      have pd0 : (w1).cell? ⟨w.heap.size, 0, none⟩ = some (.bool false) := F1d.out.cell 0
      have fd0 : (w1).frozen? ⟨w.heap.size, 0, none⟩ = false := F1d.out.frozen 0
      have pd1 : (w1).cell? ⟨w.heap.size, 1, none⟩ = some (.slice A 0 c) := F1d.out.cell 1
      have fd1 : (w1).frozen? ⟨w.heap.size, 1, none⟩ = false := F1d.out.frozen 1
      have pd2 : (w1).cell? ⟨w.heap.size, 2, none⟩ = some (.int .i64 ex) := F1d.out.cell 2
      have fd2 : (w1).frozen? ⟨w.heap.size, 2, none⟩ = false := F1d.out.frozen 2
      go_wp2_with fail
      go_ret
      exact ⟨ret_bool (by rw [HR.out]), HB1⟩
    subst h2
    have HR := Lib.hid (show zeroB false 0 0 = true from rfl)
    go_enter Tryz.func69, Tryz.ntmps69
    go_wp2_with fail
    obtain ⟨w1, hw⟩ : ∃ z9 : World, z9 = (w.alloc (.cells #[.bool false, .slice A 0 c, .int .i64 0] 40)) := ⟨_, rfl⟩
    have HB1 := Lib.hid (show Below w.heap.size w w1 by rw [hw]; exact below_a1 _ _)
    have F1d := Lib.hid (show Blk w1 (w.heap.size) 40 #[.bool false, .slice A 0 c, .int .i64 0] by rw [hw]; exact Blk.new _ _ _)
    rw [← hw]
    clear hw
    have pd0 : (w1).cell? ⟨w.heap.size, 0, none⟩ = some (.bool false) := F1d.out.cell 0
    have fd0 : (w1).frozen? ⟨w.heap.size, 0, none⟩ = false := F1d.out.frozen 0
    have pd1 : (w1).cell? ⟨w.heap.size, 1, none⟩ = some (.slice A 0 c) := F1d.out.cell 1
    have fd1 : (w1).frozen? ⟨w.heap.size, 1, none⟩ = false := F1d.out.frozen 1
    have pd2 : (w1).cell? ⟨w.heap.size, 2, none⟩ = some (.int .i64 0) := F1d.out.cell 2
    have fd2 : (w1).frozen? ⟨w.heap.size, 2, none⟩ = false := F1d.out.frozen 2
    go_wp2_with fail
    go_ret
    exact ⟨ret_bool (by rw [HR.out]), HB1⟩
set_option maxHeartbeats 2000000 in
theorem ivalid05_any (ng : Bool) (A : Option Addr) (n c : Nat) (ex : Int) (l : List Nat) (ng' : Bool) (B : Option Addr) (m c' : Nat) (ex' : Int) (l' : List Nat) (all : Bool) (w : World) (h : Sl w A n c l) (h' : Sl w B m c' l') :
    Calls Tryz.prog 34 #[.agg #[.bool ng, .slice A n c, .int .i64 ex, .bool ng', .slice B m c', .int .i64 ex', .bool all]] w (Ret (.bool (vldIB ng l ex ng' l' ex' all)) w) := by
  have H := Lib.hid h
  have H' := Lib.hid h'
  have hm := h.max
  have hm' := h'.max
  have HN := Lib.hid h.len
  have HN' := Lib.hid h'.len
  clear h h'
  cases all with
  | true =>
    obtain ⟨z1, hz1⟩ : ∃ z, zeroB ng n ex = z := ⟨_, rfl⟩
    obtain ⟨z2, hz2⟩ : ∃ z, zeroB ng' m ex' = z := ⟨_, rfl⟩
    have HZ1 := Lib.hid hz1
    have HZ2 := Lib.hid hz2
    have HR := Lib.hid (show vldIB ng l ex ng' l' ex' true = (z1 && z2) by unfold vldIB; rw [if_pos rfl, HN.out, HN'.out, hz1, hz2])
    clear hz1 hz2
    go_enter Tryz.func34, Tryz.ntmps34
    go_wp2_with fail
    obtain ⟨w1, hw⟩ : ∃ z9 : World, z9 = (w.alloc (.cells #[.bool ng, .slice A n c, .int .i64 ex, .bool ng', .slice B m c', .int .i64 ex', .bool true] 42)) := ⟨_, rfl⟩
    have HB1 := Lib.hid (show Below w.heap.size w w1 by rw [hw]; exact below_a1 _ _)
    have F1a := Lib.hid (H.out.belowW HB1.out)
    have F1b := Lib.hid (H'.out.belowW HB1.out)
    have F1x := Lib.hid (show Blk w1 (w.heap.size) 42 #[.bool ng, .slice A n c, .int .i64 ex, .bool ng', .slice B m c', .int .i64 ex', .bool true] by rw [hw]; exact Blk.new _ _ _)
    rw [← hw]
    clear hw
    have px0 : (w1).cell? ⟨w.heap.size, 0, none⟩ = some (.bool ng) := F1x.out.cell 0
    have fx0 : (w1).frozen? ⟨w.heap.size, 0, none⟩ = false := F1x.out.frozen 0
    have px1 : (w1).cell? ⟨w.heap.size, 1, none⟩ = some (.slice A n c) := F1x.out.cell 1
    have fx1 : (w1).frozen? ⟨w.heap.size, 1, none⟩ = false := F1x.out.frozen 1
    have px2 : (w1).cell? ⟨w.heap.size, 2, none⟩ = some (.int .i64 ex) := F1x.out.cell 2
    have fx2 : (w1).frozen? ⟨w.heap.size, 2, none⟩ = false := F1x.out.frozen 2
    have px3 : (w1).cell? ⟨w.heap.size, 3, none⟩ = some (.bool ng') := F1x.out.cell 3
    have fx3 : (w1).frozen? ⟨w.heap.size, 3, none⟩ = false := F1x.out.frozen 3
    have px4 : (w1).cell? ⟨w.heap.size, 4, none⟩ = some (.slice B m c') := F1x.out.cell 4
    have fx4 : (w1).frozen? ⟨w.heap.size, 4, none⟩ = false := F1x.out.frozen 4
    have px5 : (w1).cell? ⟨w.heap.size, 5, none⟩ = some (.int .i64 ex') := F1x.out.cell 5
    have fx5 : (w1).frozen? ⟨w.heap.size, 5, none⟩ = false := F1x.out.frozen 5
    have px6 : (w1).cell? ⟨w.heap.size, 6, none⟩ = some (.bool true) := F1x.out.cell 6
    have fx6 : (w1).frozen? ⟨w.heap.size, 6, none⟩ = false := F1x.out.frozen 6
    go_wp2_with fail
    refine (zero05_any ng A n c ex w1 hm).mono ?_
    rw [HZ1.out]
    rintro e w2 ⟨rfl, HB2⟩
    have F2a := Lib.hid (F1a.out.belowW HB2.out)
    have F2b := Lib.hid (F1b.out.belowW HB2.out)
    have F2x := Lib.hid (F1x.out.belowW HB2.out)
    have HL2 := Lib.hid (HB1.out.trans (HB2.out.mono HB1.out.size))
    clear px0 fx0 px1 fx1 px2 fx2 px3 fx3 px4 fx4 px5 fx5 px6 fx6
    have px0 : (w2).cell? ⟨w.heap.size, 0, none⟩ = some (.bool ng) := F2x.out.cell 0
    have fx0 : (w2).frozen? ⟨w.heap.size, 0, none⟩ = false := F2x.out.frozen 0
    have px1 : (w2).cell? ⟨w.heap.size, 1, none⟩ = some (.slice A n c) := F2x.out.cell 1
    have fx1 : (w2).frozen? ⟨w.heap.size, 1, none⟩ = false := F2x.out.frozen 1
    have px2 : (w2).cell? ⟨w.heap.size, 2, none⟩ = some (.int .i64 ex) := F2x.out.cell 2
    have fx2 : (w2).frozen? ⟨w.heap.size, 2, none⟩ = false := F2x.out.frozen 2
    have px3 : (w2).cell? ⟨w.heap.size, 3, none⟩ = some (.bool ng') := F2x.out.cell 3
    have fx3 : (w2).frozen? ⟨w.heap.size, 3, none⟩ = false := F2x.out.frozen 3
    have px4 : (w2).cell? ⟨w.heap.size, 4, none⟩ = some (.slice B m c') := F2x.out.cell 4
    have fx4 : (w2).frozen? ⟨w.heap.size, 4, none⟩ = false := F2x.out.frozen 4
    have px5 : (w2).cell? ⟨w.heap.size, 5, none⟩ = some (.int .i64 ex') := F2x.out.cell 5
    have fx5 : (w2).frozen? ⟨w.heap.size, 5, none⟩ = false := F2x.out.frozen 5
    have px6 : (w2).cell? ⟨w.heap.size, 6, none⟩ = some (.bool true) := F2x.out.cell 6
    have fx6 : (w2).frozen? ⟨w.heap.size, 6, none⟩ = false := F2x.out.frozen 6
    cases z1 with
    | false =>
      go_wp2_with fail
      go_ret
      exact ⟨ret_bool (by rw [HR.out]; rfl), HL2⟩
    | true =>
      go_wp2_with fail
      refine (zero05_any ng' B m c' ex' w2 hm').mono ?_
      rw [HZ2.out]
      rintro e w3 ⟨rfl, HB3⟩
      have F3a := Lib.hid (F2a.out.belowW HB3.out)
      have F3b := Lib.hid (F2b.out.belowW HB3.out)
      have F3x := Lib.hid (F2x.out.belowW HB3.out)
      have HL3 := Lib.hid (HL2.out.trans (HB3.out.mono HL2.out.size))
      go_wp2_with fail
      go_ret
      exact ⟨ret_bool (by rw [HR.out, Bool.true_and]), HL3⟩
  | false =>
    obtain ⟨z1, hz1⟩ : ∃ z, vldL ng l ex = z := ⟨_, rfl⟩
    obtain ⟨z2, hz2⟩ : ∃ z, vldL ng' l' ex' = z := ⟨_, rfl⟩
    obtain ⟨cz, hcz⟩ : ∃ z, cmpD ⟨ng, val l, ex⟩ ⟨ng', val l', ex'⟩ = z := ⟨_, rfl⟩
    have HZ1 := Lib.hid hz1
    have HZ2 := Lib.hid hz2
    have HCZ := Lib.hid hcz
    have HR := Lib.hid (show vldIB ng l ex ng' l' ex' false = (z1 && z2 && decide (cz ≤ 0)) by unfold vldIB; rw [if_neg (by decide), hz1, hz2, hcz])
    clear hz1 hz2 hcz
    go_enter Tryz.func34, Tryz.ntmps34
    go_wp2_with fail
    obtain ⟨w1, hw⟩ : ∃ z9 : World, z9 = (w.alloc (.cells #[.bool ng, .slice A n c, .int .i64 ex, .bool ng', .slice B m c', .int .i64 ex', .bool false] 42)) := ⟨_, rfl⟩
    have HB1 := Lib.hid (show Below w.heap.size w w1 by rw [hw]; exact below_a1 _ _)
    have F1a := Lib.hid (H.out.belowW HB1.out)
    have F1b := Lib.hid (H'.out.belowW HB1.out)
    have F1x := Lib.hid (show Blk w1 (w.heap.size) 42 #[.bool ng, .slice A n c, .int .i64 ex, .bool ng', .slice B m c', .int .i64 ex', .bool false] by rw [hw]; exact Blk.new _ _ _)
    rw [← hw]
    clear hw
    have px0 : (w1).cell? ⟨w.heap.size, 0, none⟩ = some (.bool ng) := F1x.out.cell 0
    have fx0 : (w1).frozen? ⟨w.heap.size, 0, none⟩ = false := F1x.out.frozen 0
    have px1 : (w1).cell? ⟨w.heap.size, 1, none⟩ = some (.slice A n c) := F1x.out.cell 1
    have fx1 : (w1).frozen? ⟨w.heap.size, 1, none⟩ = false := F1x.out.frozen 1
    have px2 : (w1).cell? ⟨w.heap.size, 2, none⟩ = some (.int .i64 ex) := F1x.out.cell 2
    have fx2 : (w1).frozen? ⟨w.heap.size, 2, none⟩ = false := F1x.out.frozen 2
    have px3 : (w1).cell? ⟨w.heap.size, 3, none⟩ = some (.bool ng') := F1x.out.cell 3
    have fx3 : (w1).frozen? ⟨w.heap.size, 3, none⟩ = false := F1x.out.frozen 3
    have px4 : (w1).cell? ⟨w.heap.size, 4, none⟩ = some (.slice B m c') := F1x.out.cell 4
    have fx4 : (w1).frozen? ⟨w.heap.size, 4, none⟩ = false := F1x.out.frozen 4
    have px5 : (w1).cell? ⟨w.heap.size, 5, none⟩ = some (.int .i64 ex') := F1x.out.cell 5
    have fx5 : (w1).frozen? ⟨w.heap.size, 5, none⟩ = false := F1x.out.frozen 5
    have px6 : (w1).cell? ⟨w.heap.size, 6, none⟩ = some (.bool false) := F1x.out.cell 6
    have fx6 : (w1).frozen? ⟨w.heap.size, 6, none⟩ = false := F1x.out.frozen 6
    go_wp2_with fail
    refine (valid02_any ng A n c ex l w1 F1a.out).mono ?_
    rw [HZ1.out]
    rintro e w2 ⟨rfl, HB2⟩
    have F2a := Lib.hid (F1a.out.belowW HB2.out)
    have F2b := Lib.hid (F1b.out.belowW HB2.out)
    have F2x := Lib.hid (F1x.out.belowW HB2.out)
    have HL2 := Lib.hid (HB1.out.trans (HB2.out.mono HB1.out.size))
    clear px0 fx0 px1 fx1 px2 fx2 px3 fx3 px4 fx4 px5 fx5 px6 fx6
    have px0 : (w2).cell? ⟨w.heap.size, 0, none⟩ = some (.bool ng) := F2x.out.cell 0
    have fx0 : (w2).frozen? ⟨w.heap.size, 0, none⟩ = false := F2x.out.frozen 0
    have px1 : (w2).cell? ⟨w.heap.size, 1, none⟩ = some (.slice A n c) := F2x.out.cell 1
    have fx1 : (w2).frozen? ⟨w.heap.size, 1, none⟩ = false := F2x.out.frozen 1
    have px2 : (w2).cell? ⟨w.heap.size, 2, none⟩ = some (.int .i64 ex) := F2x.out.cell 2
    have fx2 : (w2).frozen? ⟨w.heap.size, 2, none⟩ = false := F2x.out.frozen 2
    have px3 : (w2).cell? ⟨w.heap.size, 3, none⟩ = some (.bool ng') := F2x.out.cell 3
    have fx3 : (w2).frozen? ⟨w.heap.size, 3, none⟩ = false := F2x.out.frozen 3
    have px4 : (w2).cell? ⟨w.heap.size, 4, none⟩ = some (.slice B m c') := F2x.out.cell 4
    have fx4 : (w2).frozen? ⟨w.heap.size, 4, none⟩ = false := F2x.out.frozen 4
    have px5 : (w2).cell? ⟨w.heap.size, 5, none⟩ = some (.int .i64 ex') := F2x.out.cell 5
    have fx5 : (w2).frozen? ⟨w.heap.size, 5, none⟩ = false := F2x.out.frozen 5
    have px6 : (w2).cell? ⟨w.heap.size, 6, none⟩ = some (.bool false) := F2x.out.cell 6
    have fx6 : (w2).frozen? ⟨w.heap.size, 6, none⟩ = false := F2x.out.frozen 6
    cases z1 with
    | false =>
      go_wp2_with fail
      go_ret
      exact ⟨ret_bool (by rw [HR.out]; rfl), HL2⟩
    | true =>
      go_wp2_with fail
      refine (valid02_any ng' B m c' ex' l' w2 F2b.out).mono ?_
      rw [HZ2.out]
      rintro e w3 ⟨rfl, HB3⟩
      have F3a := Lib.hid (F2a.out.belowW HB3.out)
      have F3b := Lib.hid (F2b.out.belowW HB3.out)
      have F3x := Lib.hid (F2x.out.belowW HB3.out)
      have HL3 := Lib.hid (HL2.out.trans (HB3.out.mono HL2.out.size))
      clear px0 fx0 px1 fx1 px2 fx2 px3 fx3 px4 fx4 px5 fx5 px6 fx6
      have px0 : (w3).cell? ⟨w.heap.size, 0, none⟩ = some (.bool ng) := F3x.out.cell 0
      have fx0 : (w3).frozen? ⟨w.heap.size, 0, none⟩ = false := F3x.out.frozen 0
      have px1 : (w3).cell? ⟨w.heap.size, 1, none⟩ = some (.slice A n c) := F3x.out.cell 1
      have fx1 : (w3).frozen? ⟨w.heap.size, 1, none⟩ = false := F3x.out.frozen 1
      have px2 : (w3).cell? ⟨w.heap.size, 2, none⟩ = some (.int .i64 ex) := F3x.out.cell 2
      have fx2 : (w3).frozen? ⟨w.heap.size, 2, none⟩ = false := F3x.out.frozen 2
      have px3 : (w3).cell? ⟨w.heap.size, 3, none⟩ = some (.bool ng') := F3x.out.cell 3
      have fx3 : (w3).frozen? ⟨w.heap.size, 3, none⟩ = false := F3x.out.frozen 3
      have px4 : (w3).cell? ⟨w.heap.size, 4, none⟩ = some (.slice B m c') := F3x.out.cell 4
      have fx4 : (w3).frozen? ⟨w.heap.size, 4, none⟩ = false := F3x.out.frozen 4
      have px5 : (w3).cell? ⟨w.heap.size, 5, none⟩ = some (.int .i64 ex') := F3x.out.cell 5
      have fx5 : (w3).frozen? ⟨w.heap.size, 5, none⟩ = false := F3x.out.frozen 5
      have px6 : (w3).cell? ⟨w.heap.size, 6, none⟩ = some (.bool false) := F3x.out.cell 6
      have fx6 : (w3).frozen? ⟨w.heap.size, 6, none⟩ = false := F3x.out.frozen 6
      cases z2 with
      | false =>
        go_wp2_with fail
        go_ret
        exact ⟨ret_bool (by rw [HR.out]; rfl), HL3⟩
      | true =>
        go_wp2_with fail
        obtain ⟨hl1, hv1⟩ := vldL_iff.1 HZ1.out
        obtain ⟨hl2, hv2⟩ := vldL_iff.1 HZ2.out
        have G1 := Lib.hid (show Sl w3 A n c (limbs (val l)) by rw [← hl1]; exact F3a.out)
        have G2 := Lib.hid (show Sl w3 B m c' (limbs (val l')) by rw [← hl2]; exact F3b.out)
        have V1 := Lib.hid hv1
        have V2 := Lib.hid hv2
        clear hl1 hv1 hl2 hv2
        refine (uCmp ⟨ng, val l, ex⟩ ⟨ng', val l', ex'⟩ A B n c m c' w3 G1.out G2.out V1.out V2.out).mono ?_
        rw [HCZ.out]
        rintro e w4 ⟨rfl, HB4⟩
        have F4a := Lib.hid (F3a.out.belowW HB4.out)
        have F4b := Lib.hid (F3b.out.belowW HB4.out)
        have F4x := Lib.hid (F3x.out.belowW HB4.out)
        have HL4 := Lib.hid (HL3.out.trans (HB4.out.mono HL3.out.size))
        go_wp2_with fail
        go_ret
        exact ⟨ret_bool (by rw [HR.out]; rfl), HL4⟩

set_option maxHeartbeats 1000000 in
theorem writable11 (d : D) (A : Option Addr) (n c : Nat) (w : World) (h : Sl w A n c (limbs d.k)) (hv : vld d) : Calls Tryz.prog 72 #[.agg #[.bool d.neg, .slice A n c, .int .i64 d.e]] w (Ret (.bool (decide (topB d ≤ 1000))) w) := by
  have H := Lib.hid h
  have HV := Lib.hid hv
  have HVL := Lib.hid (vldL_of hv)
  obtain ⟨t, ht⟩ : ∃ t, topB d = t := ⟨_, rfl⟩
  have HT := Lib.hid ht
  clear h hv ht
  go_enter Tryz.func72, Tryz.ntmps72
  go_wp2_with fail
  obtain ⟨w1, hw⟩ : ∃ z9 : World, z9 = (w.alloc (.cells #[.bool d.neg, .slice A n c, .int .i64 d.e] 40)) := ⟨_, rfl⟩
  have HB1 := Lib.hid (show Below w.heap.size w w1 by rw [hw]; exact below_a1 _ _)
  have F1a := Lib.hid (H.out.belowW HB1.out)
  have F1d := Lib.hid (show Blk w1 (w.heap.size) 40 #[.bool d.neg, .slice A n c, .int .i64 d.e] by rw [hw]; exact Blk.new _ _ _)
  rw [← hw]
  clear hw
  have pd0 : (w1).cell? ⟨w.heap.size, 0, none⟩ = some (.bool d.neg) := F1d.out.cell 0
  have fd0 : (w1).frozen? ⟨w.heap.size, 0, none⟩ = false := F1d.out.frozen 0
  have pd1 : (w1).cell? ⟨w.heap.size, 1, none⟩ = some (.slice A n c) := F1d.out.cell 1
  have fd1 : (w1).frozen? ⟨w.heap.size, 1, none⟩ = false := F1d.out.frozen 1
  have pd2 : (w1).cell? ⟨w.heap.size, 2, none⟩ = some (.int .i64 d.e) := F1d.out.cell 2
  have fd2 : (w1).frozen? ⟨w.heap.size, 2, none⟩ = false := F1d.out.frozen 2
  go_wp2_with fail
  refine (valid02_any d.neg A n c d.e (limbs d.k) w1 F1a.out).mono ?_
  rw [HVL.out]
  rintro e w2 ⟨rfl, HB2⟩
  have F2a := Lib.hid (F1a.out.belowW HB2.out)
  have F2d := Lib.hid (F1d.out.belowW HB2.out)
  have HL2 := Lib.hid (HB1.out.trans (HB2.out.mono HB1.out.size))
  clear pd0 fd0 pd1 fd1 pd2 fd2
  have pd0 : (w2).cell? ⟨w.heap.size, 0, none⟩ = some (.bool d.neg) := F2d.out.cell 0
  have fd0 : (w2).frozen? ⟨w.heap.size, 0, none⟩ = false := F2d.out.frozen 0
  have pd1 : (w2).cell? ⟨w.heap.size, 1, none⟩ = some (.slice A n c) := F2d.out.cell 1
  have fd1 : (w2).frozen? ⟨w.heap.size, 1, none⟩ = false := F2d.out.frozen 1
  have pd2 : (w2).cell? ⟨w.heap.size, 2, none⟩ = some (.int .i64 d.e) := F2d.out.cell 2
  have fd2 : (w2).frozen? ⟨w.heap.size, 2, none⟩ = false := F2d.out.frozen 2
  go_wp2_with fail
  refine (uTop d A n c w2 F2a.out HV.out).mono ?_
  rw [HT.out]
  rintro e w3 ⟨rfl, HB3⟩
  have F3a := Lib.hid (F2a.out.belowW HB3.out)
  have F3d := Lib.hid (F2d.out.belowW HB3.out)
  have HL3 := Lib.hid (HL2.out.trans (HB3.out.mono HL2.out.size))
  go_wp2_with fail
  go_ret
  exact ⟨ret_bool (by rw [HT.out]), HL3⟩
def TnRel (w : World) (n : Nat) (k : Nat) (nv ov : Value) (wr : World) : Prop :=
  ∃ (A : Option Addr) (m c j : Nat), ov = .slice A m c ∧ nv = .int .i64 (j : Int) ∧ j = k ∧ j ≤ n ∧ Hid (Sl wr A m c (limbs (10 ^ (n - j)))) ∧ Hid (Below w.heap.size w wr)
set_option maxHeartbeats 2000000 in
theorem ten11 (n : Nat) (w : World) (hn : n ≤ 1000) :
    Calls Tryz.prog 112 #[.int .i64 n] w (SlQ (10 ^ n) w) := by
  go_enter Tryz.func112, Tryz.ntmps112
  go_wp2_with fail
  have HS0 := Lib.hid (Sl.one (x := 1) (Blk.new w 125 #[.int .u32 1]) (by unfold BB; omega))
  have HL0 := Lib.hid (below_a1 w (.cells #[.int .u32 1] 125))
  have HE0 := Lib.hid (show [1] = limbs (10 ^ (n - n)) by rw [Nat.sub_self, Nat.pow_zero]; exact (limbs_one (by omega) (by unfold BB; omega)).symm)
  rw [HE0.out] at HS0
  go_loopg [0, 3] n (TnRel w n)
  case atStart => exact ⟨_, 1, 1, n, rfl, rfl, rfl, Nat.le_refl _, HS0, HL0⟩
  case round =>
    clear HS0 HL0 HE0
    obtain ⟨A, m, c, j, rfl, rfl, rfl, hj, HS, HL⟩ := hrel
    cases j with
    | zero =>
      have HV := Lib.hid (show n - 0 = n from rfl)
      rw [HV.out] at HS
      go_wp2_with fail
      go_ret
      exact ⟨A, m, c, rfl, HS, HL⟩
    | succ i =>
      have dj : decide ((0 : Int) < ((i + 1 : Nat) : Int)) = true := decide_eq_true (by omega)
      have dj2 : decide (0 < i + 1) = true := decide_eq_true (by omega)
      have e1 : ((i + 1 : Nat) : Int) - 1 = (i : Int) := by omega
      have HP := Lib.hid (show val (limbs (10 ^ (n - (i + 1)))) * val [10] = 10 ^ (n - i) by rw [val_limbs, val_cons, val_nil, Nat.mul_zero, Nat.add_zero, ← Nat.pow_succ]; congr 1; omega)
      have hm : m ≤ 100000 := by
        have h1 := HS.out.lim (k := 256) (by have := blen_ten (n - (i + 1)); omega)
        omega
      go_wp2_with fail
      obtain ⟨w1, hw⟩ : ∃ z9 : World, z9 = wr.alloc (.cells #[.int .u32 10] 125) := ⟨_, rfl⟩
      have HB1 := Lib.hid (show Below wr.heap.size wr w1 by rw [hw]; exact below_a1 _ _)
      have S1 := Lib.hid (HS.out.belowW HB1.out)
      have T1 := Lib.hid (show Sl w1 (some ⟨wr.heap.size, 0, none⟩) 1 1 [10] by rw [hw]; exact Sl.one (x := 10) (Blk.new _ _ _) (by unfold BB; omega))
      have L1 := Lib.hid (HL.out.trans (HB1.out.mono HL.out.size))
      rw [← hw]
      clear hw
      refine (rMul A (some ⟨wr.heap.size, 0, none⟩) m c 1 1 (limbs (10 ^ (n - (i + 1)))) [10] w1 S1.out T1.out hm (by omega)).mono ?_
      rw [HP.out]
      rintro e w2 ⟨P, p, pc, rfl, HS2, HB2⟩
      have L2 := Lib.hid (L1.out.trans (HB2.out.mono L1.out.size))
      go_wp2_with fail
      go_roundg i
      case measure => omega
      case rel => exact ⟨P, p, pc, i, rfl, by go_num, rfl, by omega, Lib.hid HS2.out.sl, L2⟩
end Go.Proofs.YtoogeihbhhcpaaaGreatDoor
