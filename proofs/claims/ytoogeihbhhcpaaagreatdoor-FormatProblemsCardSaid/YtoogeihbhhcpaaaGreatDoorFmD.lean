/-
  The walk of the reference's test of a node.
-/
import Derived.Test.YtoogeihbhhcpaaaGreatDoorFmC
import Derived.Test.YtoogeihbhhcpaaaGreatDoorFrP
set_option linter.unusedVariables false
namespace Go.Proofs.YtoogeihbhhcpaaaGreatDoor
open Go.RowKit Go.Fl Go.Fl.Fm Go.Fl.Rt

set_option maxHeartbeats 8000000 in
set_option maxRecDepth 100000 in
theorem node_r (x : Nd) (w : World) (ok : HdOk x.h) : Calls Tryz.prog 171 #[x.val] w (RetB (.bool (nodeB nameP x.h x.len)) w) := by
  rw [← nodeR_eq]
  obtain ⟨⟨kd, n, d, nm, k⟩, A, len, cap⟩ := x
  obtain ⟨a1, a2, a3, a4, a5, a6, a7, a8, a9⟩ := ok
  simp only at a1 a2 a3 a4 a5 a6 a7 a8 a9
  simp only [Nd.val]
  have HNM := Lib.hid (fun w => rname_any nm w a9)
  cases k1 : (kd == 1) with
  | true =>
    have k2 : (kd == 2) = false := by simp only [beq_iff_eq] at k1; subst k1; rfl
    have k8 : (kd == 8) = false := by simp only [beq_iff_eq] at k1; subst k1; rfl
    have k1' : (kd != 1) = false := by rw [bne, k1]; rfl
    have k2' : (kd != 2) = true := by rw [bne, k2]; rfl
    cases L : ((len : Int) != argsK kd) with
    | false =>
      cases V : decide (valid n d) with
      | false =>
        have HN := Lib.hid (show nodeR nameP ⟨kd, n, d, nm, k⟩ len = false by simp_all [nodeR])
        go_enter Tryz.func171, Tryz.ntmps171
        go_wp2_with fail
        obtain ⟨w1, hw1⟩ : ∃ z9 : World, z9 = w.alloc (Obj.cells #[.int .i64 kd, .int .i64 n, .int .i64 d, .string nm, .int .i64 k, .slice A len cap] 51) := ⟨_, rfl⟩
        have HW1 := Lib.hid (show Below w.heap.size w w1 by rw [hw1]; exact below_box _ _)
        have F1 := Lib.hid (show Blk w1 w.heap.size 51 #[.int .i64 kd, .int .i64 n, .int .i64 d, .string nm, .int .i64 k, .slice A len cap] by rw [hw1]; exact Blk.new _ _ _)
        rw [← hw1]
        clear hw1
        have pr0 : w1.cell? ⟨w.heap.size, 0, none⟩ = some (.int .i64 kd) := F1.out.cell 0
        have pr5 : w1.cell? ⟨w.heap.size, 5, none⟩ = some (.slice A len cap) := F1.out.cell 5
        go_quiet ((go_at_call 192; exact Calls.quiet_of_same ((args_any _ _).mono fun e w' h => ⟨h.1, h.2.symm⟩)))
        obtain ⟨wq, hwq⟩ : ∃ z9 : World, z9 = w1.drewN nq := ⟨_, rfl⟩
        have HQ1 := Lib.hid (show Below w1.heap.size w1 wq by rw [hwq]; exact below_drewN (Below.refl _ _) _)
        have FQ := Lib.hid (F1.out.belowW HQ1.out)
        have HWQ := Lib.hid (HW1.out.trans (HQ1.out.mono HW1.out.size))
        rw [← hwq]
        clear hwq pr0 pr5
        obtain ⟨pr0, pr1, pr2, pr3, pr4, pr5⟩ := FQ.out.cs6
        go_wp2_with fail
        refine (valid_r n d _ a3 a4 a5 a6).mono ?_
        rintro e w2 ⟨rfl, HB2⟩
        have F2 := Lib.hid (FQ.out.belowW HB2.out)
        have HW2 := Lib.hid (HWQ.out.trans (HB2.out.mono HWQ.out.size))
        clear pr0 pr1 pr2 pr3 pr4 pr5
        obtain ⟨pr0, pr1, pr2, pr3, pr4, pr5⟩ := F2.out.cs6
        rw [show vB n d = false from V]
        go_wp2_with fail
        go_ret
        rw [HN.out]
        exact ⟨rfl, HW2⟩
      | true =>
        cases E : nm.toList.isEmpty with
        | false =>
          have HN := Lib.hid (show nodeR nameP ⟨kd, n, d, nm, k⟩ len = false by simp_all [nodeR])
          go_enter Tryz.func171, Tryz.ntmps171
          go_wp2_with fail
          obtain ⟨w1, hw1⟩ : ∃ z9 : World, z9 = w.alloc (Obj.cells #[.int .i64 kd, .int .i64 n, .int .i64 d, .string nm, .int .i64 k, .slice A len cap] 51) := ⟨_, rfl⟩
          have HW1 := Lib.hid (show Below w.heap.size w w1 by rw [hw1]; exact below_box _ _)
          have F1 := Lib.hid (show Blk w1 w.heap.size 51 #[.int .i64 kd, .int .i64 n, .int .i64 d, .string nm, .int .i64 k, .slice A len cap] by rw [hw1]; exact Blk.new _ _ _)
          rw [← hw1]
          clear hw1
          have pr0 : w1.cell? ⟨w.heap.size, 0, none⟩ = some (.int .i64 kd) := F1.out.cell 0
          have pr5 : w1.cell? ⟨w.heap.size, 5, none⟩ = some (.slice A len cap) := F1.out.cell 5
          go_quiet ((go_at_call 192; exact Calls.quiet_of_same ((args_any _ _).mono fun e w' h => ⟨h.1, h.2.symm⟩)))
          obtain ⟨wq, hwq⟩ : ∃ z9 : World, z9 = w1.drewN nq := ⟨_, rfl⟩
          have HQ1 := Lib.hid (show Below w1.heap.size w1 wq by rw [hwq]; exact below_drewN (Below.refl _ _) _)
          have FQ := Lib.hid (F1.out.belowW HQ1.out)
          have HWQ := Lib.hid (HW1.out.trans (HQ1.out.mono HW1.out.size))
          rw [← hwq]
          clear hwq pr0 pr5
          obtain ⟨pr0, pr1, pr2, pr3, pr4, pr5⟩ := FQ.out.cs6
          go_wp2_with fail
          refine (valid_r n d _ a3 a4 a5 a6).mono ?_
          rintro e w2 ⟨rfl, HB2⟩
          have F2 := Lib.hid (FQ.out.belowW HB2.out)
          have HW2 := Lib.hid (HWQ.out.trans (HB2.out.mono HWQ.out.size))
          clear pr0 pr1 pr2 pr3 pr4 pr5
          obtain ⟨pr0, pr1, pr2, pr3, pr4, pr5⟩ := F2.out.cs6
          rw [show vB n d = true from V]
          go_wp2_with fail
          go_ret
          rw [HN.out]
          exact ⟨rfl, HW2⟩
        | true =>
          cases K : (k == 0) with
          | false =>
            have HN := Lib.hid (show nodeR nameP ⟨kd, n, d, nm, k⟩ len = false by simp_all [nodeR])
            go_enter Tryz.func171, Tryz.ntmps171
            go_wp2_with fail
            obtain ⟨w1, hw1⟩ : ∃ z9 : World, z9 = w.alloc (Obj.cells #[.int .i64 kd, .int .i64 n, .int .i64 d, .string nm, .int .i64 k, .slice A len cap] 51) := ⟨_, rfl⟩
            have HW1 := Lib.hid (show Below w.heap.size w w1 by rw [hw1]; exact below_box _ _)
            have F1 := Lib.hid (show Blk w1 w.heap.size 51 #[.int .i64 kd, .int .i64 n, .int .i64 d, .string nm, .int .i64 k, .slice A len cap] by rw [hw1]; exact Blk.new _ _ _)
            rw [← hw1]
            clear hw1
            have pr0 : w1.cell? ⟨w.heap.size, 0, none⟩ = some (.int .i64 kd) := F1.out.cell 0
            have pr5 : w1.cell? ⟨w.heap.size, 5, none⟩ = some (.slice A len cap) := F1.out.cell 5
            go_quiet ((go_at_call 192; exact Calls.quiet_of_same ((args_any _ _).mono fun e w' h => ⟨h.1, h.2.symm⟩)))
            obtain ⟨wq, hwq⟩ : ∃ z9 : World, z9 = w1.drewN nq := ⟨_, rfl⟩
            have HQ1 := Lib.hid (show Below w1.heap.size w1 wq by rw [hwq]; exact below_drewN (Below.refl _ _) _)
            have FQ := Lib.hid (F1.out.belowW HQ1.out)
            have HWQ := Lib.hid (HW1.out.trans (HQ1.out.mono HW1.out.size))
            rw [← hwq]
            clear hwq pr0 pr5
            obtain ⟨pr0, pr1, pr2, pr3, pr4, pr5⟩ := FQ.out.cs6
            go_wp2_with fail
            refine (valid_r n d _ a3 a4 a5 a6).mono ?_
            rintro e w2 ⟨rfl, HB2⟩
            have F2 := Lib.hid (FQ.out.belowW HB2.out)
            have HW2 := Lib.hid (HWQ.out.trans (HB2.out.mono HWQ.out.size))
            clear pr0 pr1 pr2 pr3 pr4 pr5
            obtain ⟨pr0, pr1, pr2, pr3, pr4, pr5⟩ := F2.out.cs6
            rw [show vB n d = true from V]
            go_wp2_with fail
            go_ret
            rw [HN.out]
            exact ⟨rfl, HW2⟩
          | true =>
            have HN := Lib.hid (show nodeR nameP ⟨kd, n, d, nm, k⟩ len = true by simp_all [nodeR])
            go_enter Tryz.func171, Tryz.ntmps171
            go_wp2_with fail
            obtain ⟨w1, hw1⟩ : ∃ z9 : World, z9 = w.alloc (Obj.cells #[.int .i64 kd, .int .i64 n, .int .i64 d, .string nm, .int .i64 k, .slice A len cap] 51) := ⟨_, rfl⟩
            have HW1 := Lib.hid (show Below w.heap.size w w1 by rw [hw1]; exact below_box _ _)
            have F1 := Lib.hid (show Blk w1 w.heap.size 51 #[.int .i64 kd, .int .i64 n, .int .i64 d, .string nm, .int .i64 k, .slice A len cap] by rw [hw1]; exact Blk.new _ _ _)
            rw [← hw1]
            clear hw1
            have pr0 : w1.cell? ⟨w.heap.size, 0, none⟩ = some (.int .i64 kd) := F1.out.cell 0
            have pr5 : w1.cell? ⟨w.heap.size, 5, none⟩ = some (.slice A len cap) := F1.out.cell 5
            go_quiet ((go_at_call 192; exact Calls.quiet_of_same ((args_any _ _).mono fun e w' h => ⟨h.1, h.2.symm⟩)))
            obtain ⟨wq, hwq⟩ : ∃ z9 : World, z9 = w1.drewN nq := ⟨_, rfl⟩
            have HQ1 := Lib.hid (show Below w1.heap.size w1 wq by rw [hwq]; exact below_drewN (Below.refl _ _) _)
            have FQ := Lib.hid (F1.out.belowW HQ1.out)
            have HWQ := Lib.hid (HW1.out.trans (HQ1.out.mono HW1.out.size))
            rw [← hwq]
            clear hwq pr0 pr5
            obtain ⟨pr0, pr1, pr2, pr3, pr4, pr5⟩ := FQ.out.cs6
            go_wp2_with fail
            refine (valid_r n d _ a3 a4 a5 a6).mono ?_
            rintro e w2 ⟨rfl, HB2⟩
            have F2 := Lib.hid (FQ.out.belowW HB2.out)
            have HW2 := Lib.hid (HWQ.out.trans (HB2.out.mono HWQ.out.size))
            clear pr0 pr1 pr2 pr3 pr4 pr5
            obtain ⟨pr0, pr1, pr2, pr3, pr4, pr5⟩ := F2.out.cs6
            rw [show vB n d = true from V]
            go_wp2_with fail
            go_ret
            rw [HN.out]
            exact ⟨rfl, HW2⟩
    | true =>
      have HN := Lib.hid (show nodeR nameP ⟨kd, n, d, nm, k⟩ len = false by simp_all [nodeR])
      go_enter Tryz.func171, Tryz.ntmps171
      go_wp2_with fail
      obtain ⟨w1, hw1⟩ : ∃ z9 : World, z9 = w.alloc (Obj.cells #[.int .i64 kd, .int .i64 n, .int .i64 d, .string nm, .int .i64 k, .slice A len cap] 51) := ⟨_, rfl⟩
      have HW1 := Lib.hid (show Below w.heap.size w w1 by rw [hw1]; exact below_box _ _)
      have F1 := Lib.hid (show Blk w1 w.heap.size 51 #[.int .i64 kd, .int .i64 n, .int .i64 d, .string nm, .int .i64 k, .slice A len cap] by rw [hw1]; exact Blk.new _ _ _)
      rw [← hw1]
      clear hw1
      have pr0 : w1.cell? ⟨w.heap.size, 0, none⟩ = some (.int .i64 kd) := F1.out.cell 0
      have pr5 : w1.cell? ⟨w.heap.size, 5, none⟩ = some (.slice A len cap) := F1.out.cell 5
      go_quiet ((go_at_call 192; exact Calls.quiet_of_same ((args_any _ _).mono fun e w' h => ⟨h.1, h.2.symm⟩)))
      obtain ⟨wq, hwq⟩ : ∃ z9 : World, z9 = w1.drewN nq := ⟨_, rfl⟩
      have HQ1 := Lib.hid (show Below w1.heap.size w1 wq by rw [hwq]; exact below_drewN (Below.refl _ _) _)
      have FQ := Lib.hid (F1.out.belowW HQ1.out)
      have HWQ := Lib.hid (HW1.out.trans (HQ1.out.mono HW1.out.size))
      rw [← hwq]
      clear hwq pr0 pr5
      obtain ⟨pr0, pr1, pr2, pr3, pr4, pr5⟩ := FQ.out.cs6
      go_wp2_with fail
      go_ret
      rw [HN.out]
      exact ⟨rfl, HWQ⟩
  | false =>
    have k1' : (kd != 1) = true := by rw [bne, k1]; rfl
    cases k2 : (kd == 2) with
    | true =>
      have k8 : (kd == 8) = false := by simp only [beq_iff_eq] at k2; subst k2; rfl
      have k2' : (kd != 2) = false := by rw [bne, k2]; rfl
      cases L : ((len : Int) != argsK kd) with
      | false =>
        cases X : (n != 0) with
        | false =>
          cases Y : (d != 0) with
          | false =>
            cases N : nameP nm.data.toList with
            | false =>
              have HN := Lib.hid (show nodeR nameP ⟨kd, n, d, nm, k⟩ len = false by simp_all [nodeR])
              go_enter Tryz.func171, Tryz.ntmps171
              go_wp2_with fail
              obtain ⟨w1, hw1⟩ : ∃ z9 : World, z9 = w.alloc (Obj.cells #[.int .i64 kd, .int .i64 n, .int .i64 d, .string nm, .int .i64 k, .slice A len cap] 51) := ⟨_, rfl⟩
              have HW1 := Lib.hid (show Below w.heap.size w w1 by rw [hw1]; exact below_box _ _)
              have F1 := Lib.hid (show Blk w1 w.heap.size 51 #[.int .i64 kd, .int .i64 n, .int .i64 d, .string nm, .int .i64 k, .slice A len cap] by rw [hw1]; exact Blk.new _ _ _)
              rw [← hw1]
              clear hw1
              have pr0 : w1.cell? ⟨w.heap.size, 0, none⟩ = some (.int .i64 kd) := F1.out.cell 0
              have pr5 : w1.cell? ⟨w.heap.size, 5, none⟩ = some (.slice A len cap) := F1.out.cell 5
              go_quiet ((go_at_call 192; exact Calls.quiet_of_same ((args_any _ _).mono fun e w' h => ⟨h.1, h.2.symm⟩)))
              obtain ⟨wq, hwq⟩ : ∃ z9 : World, z9 = w1.drewN nq := ⟨_, rfl⟩
              have HQ1 := Lib.hid (show Below w1.heap.size w1 wq by rw [hwq]; exact below_drewN (Below.refl _ _) _)
              have FQ := Lib.hid (F1.out.belowW HQ1.out)
              have HWQ := Lib.hid (HW1.out.trans (HQ1.out.mono HW1.out.size))
              rw [← hwq]
              clear hwq pr0 pr5
              obtain ⟨pr0, pr1, pr2, pr3, pr4, pr5⟩ := FQ.out.cs6
              go_wp2_with fail
              refine (HNM.out _).mono ?_
              rintro e w2 ⟨rfl, HB2⟩
              have F2 := Lib.hid (FQ.out.belowW HB2)
              have HW2 := Lib.hid (HWQ.out.trans (HB2.mono HWQ.out.size))
              clear pr0 pr1 pr2 pr3 pr4 pr5 HB2
              obtain ⟨pr0, pr1, pr2, pr3, pr4, pr5⟩ := F2.out.cs6
              rw [N]
              go_wp2_with fail
              go_ret
              rw [HN.out]
              exact ⟨rfl, HW2⟩
            | true =>
              cases K : (k == 0) with
              | false =>
                have HN := Lib.hid (show nodeR nameP ⟨kd, n, d, nm, k⟩ len = false by simp_all [nodeR])
                go_enter Tryz.func171, Tryz.ntmps171
                go_wp2_with fail
                obtain ⟨w1, hw1⟩ : ∃ z9 : World, z9 = w.alloc (Obj.cells #[.int .i64 kd, .int .i64 n, .int .i64 d, .string nm, .int .i64 k, .slice A len cap] 51) := ⟨_, rfl⟩
                have HW1 := Lib.hid (show Below w.heap.size w w1 by rw [hw1]; exact below_box _ _)
                have F1 := Lib.hid (show Blk w1 w.heap.size 51 #[.int .i64 kd, .int .i64 n, .int .i64 d, .string nm, .int .i64 k, .slice A len cap] by rw [hw1]; exact Blk.new _ _ _)
                rw [← hw1]
                clear hw1
                have pr0 : w1.cell? ⟨w.heap.size, 0, none⟩ = some (.int .i64 kd) := F1.out.cell 0
                have pr5 : w1.cell? ⟨w.heap.size, 5, none⟩ = some (.slice A len cap) := F1.out.cell 5
                go_quiet ((go_at_call 192; exact Calls.quiet_of_same ((args_any _ _).mono fun e w' h => ⟨h.1, h.2.symm⟩)))
                obtain ⟨wq, hwq⟩ : ∃ z9 : World, z9 = w1.drewN nq := ⟨_, rfl⟩
                have HQ1 := Lib.hid (show Below w1.heap.size w1 wq by rw [hwq]; exact below_drewN (Below.refl _ _) _)
                have FQ := Lib.hid (F1.out.belowW HQ1.out)
                have HWQ := Lib.hid (HW1.out.trans (HQ1.out.mono HW1.out.size))
                rw [← hwq]
                clear hwq pr0 pr5
                obtain ⟨pr0, pr1, pr2, pr3, pr4, pr5⟩ := FQ.out.cs6
                go_wp2_with fail
                refine (HNM.out _).mono ?_
                rintro e w2 ⟨rfl, HB2⟩
                have F2 := Lib.hid (FQ.out.belowW HB2)
                have HW2 := Lib.hid (HWQ.out.trans (HB2.mono HWQ.out.size))
                clear pr0 pr1 pr2 pr3 pr4 pr5 HB2
                obtain ⟨pr0, pr1, pr2, pr3, pr4, pr5⟩ := F2.out.cs6
                rw [N]
                go_wp2_with fail
                go_ret
                rw [HN.out]
                exact ⟨rfl, HW2⟩
              | true =>
                have HN := Lib.hid (show nodeR nameP ⟨kd, n, d, nm, k⟩ len = true by simp_all [nodeR])
                go_enter Tryz.func171, Tryz.ntmps171
                go_wp2_with fail
                obtain ⟨w1, hw1⟩ : ∃ z9 : World, z9 = w.alloc (Obj.cells #[.int .i64 kd, .int .i64 n, .int .i64 d, .string nm, .int .i64 k, .slice A len cap] 51) := ⟨_, rfl⟩
                have HW1 := Lib.hid (show Below w.heap.size w w1 by rw [hw1]; exact below_box _ _)
                have F1 := Lib.hid (show Blk w1 w.heap.size 51 #[.int .i64 kd, .int .i64 n, .int .i64 d, .string nm, .int .i64 k, .slice A len cap] by rw [hw1]; exact Blk.new _ _ _)
                rw [← hw1]
                clear hw1
                have pr0 : w1.cell? ⟨w.heap.size, 0, none⟩ = some (.int .i64 kd) := F1.out.cell 0
                have pr5 : w1.cell? ⟨w.heap.size, 5, none⟩ = some (.slice A len cap) := F1.out.cell 5
                go_quiet ((go_at_call 192; exact Calls.quiet_of_same ((args_any _ _).mono fun e w' h => ⟨h.1, h.2.symm⟩)))
                obtain ⟨wq, hwq⟩ : ∃ z9 : World, z9 = w1.drewN nq := ⟨_, rfl⟩
                have HQ1 := Lib.hid (show Below w1.heap.size w1 wq by rw [hwq]; exact below_drewN (Below.refl _ _) _)
                have FQ := Lib.hid (F1.out.belowW HQ1.out)
                have HWQ := Lib.hid (HW1.out.trans (HQ1.out.mono HW1.out.size))
                rw [← hwq]
                clear hwq pr0 pr5
                obtain ⟨pr0, pr1, pr2, pr3, pr4, pr5⟩ := FQ.out.cs6
                go_wp2_with fail
                refine (HNM.out _).mono ?_
                rintro e w2 ⟨rfl, HB2⟩
                have F2 := Lib.hid (FQ.out.belowW HB2)
                have HW2 := Lib.hid (HWQ.out.trans (HB2.mono HWQ.out.size))
                clear pr0 pr1 pr2 pr3 pr4 pr5 HB2
                obtain ⟨pr0, pr1, pr2, pr3, pr4, pr5⟩ := F2.out.cs6
                rw [N]
                go_wp2_with fail
                go_ret
                rw [HN.out]
                exact ⟨rfl, HW2⟩
          | true =>
            have HN := Lib.hid (show nodeR nameP ⟨kd, n, d, nm, k⟩ len = false by simp_all [nodeR])
            go_enter Tryz.func171, Tryz.ntmps171
            go_wp2_with fail
            obtain ⟨w1, hw1⟩ : ∃ z9 : World, z9 = w.alloc (Obj.cells #[.int .i64 kd, .int .i64 n, .int .i64 d, .string nm, .int .i64 k, .slice A len cap] 51) := ⟨_, rfl⟩
            have HW1 := Lib.hid (show Below w.heap.size w w1 by rw [hw1]; exact below_box _ _)
            have F1 := Lib.hid (show Blk w1 w.heap.size 51 #[.int .i64 kd, .int .i64 n, .int .i64 d, .string nm, .int .i64 k, .slice A len cap] by rw [hw1]; exact Blk.new _ _ _)
            rw [← hw1]
            clear hw1
            have pr0 : w1.cell? ⟨w.heap.size, 0, none⟩ = some (.int .i64 kd) := F1.out.cell 0
            have pr5 : w1.cell? ⟨w.heap.size, 5, none⟩ = some (.slice A len cap) := F1.out.cell 5
            go_quiet ((go_at_call 192; exact Calls.quiet_of_same ((args_any _ _).mono fun e w' h => ⟨h.1, h.2.symm⟩)))
            obtain ⟨wq, hwq⟩ : ∃ z9 : World, z9 = w1.drewN nq := ⟨_, rfl⟩
            have HQ1 := Lib.hid (show Below w1.heap.size w1 wq by rw [hwq]; exact below_drewN (Below.refl _ _) _)
            have FQ := Lib.hid (F1.out.belowW HQ1.out)
            have HWQ := Lib.hid (HW1.out.trans (HQ1.out.mono HW1.out.size))
            rw [← hwq]
            clear hwq pr0 pr5
            obtain ⟨pr0, pr1, pr2, pr3, pr4, pr5⟩ := FQ.out.cs6
            go_wp2_with fail
            go_ret
            rw [HN.out]
            exact ⟨rfl, HWQ⟩
        | true =>
          have HN := Lib.hid (show nodeR nameP ⟨kd, n, d, nm, k⟩ len = false by simp_all [nodeR])
          go_enter Tryz.func171, Tryz.ntmps171
          go_wp2_with fail
          obtain ⟨w1, hw1⟩ : ∃ z9 : World, z9 = w.alloc (Obj.cells #[.int .i64 kd, .int .i64 n, .int .i64 d, .string nm, .int .i64 k, .slice A len cap] 51) := ⟨_, rfl⟩
          have HW1 := Lib.hid (show Below w.heap.size w w1 by rw [hw1]; exact below_box _ _)
          have F1 := Lib.hid (show Blk w1 w.heap.size 51 #[.int .i64 kd, .int .i64 n, .int .i64 d, .string nm, .int .i64 k, .slice A len cap] by rw [hw1]; exact Blk.new _ _ _)
          rw [← hw1]
          clear hw1
          have pr0 : w1.cell? ⟨w.heap.size, 0, none⟩ = some (.int .i64 kd) := F1.out.cell 0
          have pr5 : w1.cell? ⟨w.heap.size, 5, none⟩ = some (.slice A len cap) := F1.out.cell 5
          go_quiet ((go_at_call 192; exact Calls.quiet_of_same ((args_any _ _).mono fun e w' h => ⟨h.1, h.2.symm⟩)))
          obtain ⟨wq, hwq⟩ : ∃ z9 : World, z9 = w1.drewN nq := ⟨_, rfl⟩
          have HQ1 := Lib.hid (show Below w1.heap.size w1 wq by rw [hwq]; exact below_drewN (Below.refl _ _) _)
          have FQ := Lib.hid (F1.out.belowW HQ1.out)
          have HWQ := Lib.hid (HW1.out.trans (HQ1.out.mono HW1.out.size))
          rw [← hwq]
          clear hwq pr0 pr5
          obtain ⟨pr0, pr1, pr2, pr3, pr4, pr5⟩ := FQ.out.cs6
          go_wp2_with fail
          go_ret
          rw [HN.out]
          exact ⟨rfl, HWQ⟩
      | true =>
        have HN := Lib.hid (show nodeR nameP ⟨kd, n, d, nm, k⟩ len = false by simp_all [nodeR])
        go_enter Tryz.func171, Tryz.ntmps171
        go_wp2_with fail
        obtain ⟨w1, hw1⟩ : ∃ z9 : World, z9 = w.alloc (Obj.cells #[.int .i64 kd, .int .i64 n, .int .i64 d, .string nm, .int .i64 k, .slice A len cap] 51) := ⟨_, rfl⟩
        have HW1 := Lib.hid (show Below w.heap.size w w1 by rw [hw1]; exact below_box _ _)
        have F1 := Lib.hid (show Blk w1 w.heap.size 51 #[.int .i64 kd, .int .i64 n, .int .i64 d, .string nm, .int .i64 k, .slice A len cap] by rw [hw1]; exact Blk.new _ _ _)
        rw [← hw1]
        clear hw1
        have pr0 : w1.cell? ⟨w.heap.size, 0, none⟩ = some (.int .i64 kd) := F1.out.cell 0
        have pr5 : w1.cell? ⟨w.heap.size, 5, none⟩ = some (.slice A len cap) := F1.out.cell 5
        go_quiet ((go_at_call 192; exact Calls.quiet_of_same ((args_any _ _).mono fun e w' h => ⟨h.1, h.2.symm⟩)))
        obtain ⟨wq, hwq⟩ : ∃ z9 : World, z9 = w1.drewN nq := ⟨_, rfl⟩
        have HQ1 := Lib.hid (show Below w1.heap.size w1 wq by rw [hwq]; exact below_drewN (Below.refl _ _) _)
        have FQ := Lib.hid (F1.out.belowW HQ1.out)
        have HWQ := Lib.hid (HW1.out.trans (HQ1.out.mono HW1.out.size))
        rw [← hwq]
        clear hwq pr0 pr5
        obtain ⟨pr0, pr1, pr2, pr3, pr4, pr5⟩ := FQ.out.cs6
        go_wp2_with fail
        go_ret
        rw [HN.out]
        exact ⟨rfl, HWQ⟩
    | false =>
      have k2' : (kd != 2) = true := by rw [bne, k2]; rfl
      cases k8 : (kd == 8) with
      | true =>
        cases L : ((len : Int) != argsK kd) with
        | false =>
          cases X : (n != 0) with
          | false =>
            cases Y : (d != 0) with
            | false =>
              cases E : nm.toList.isEmpty with
              | false =>
                have HN := Lib.hid (show nodeR nameP ⟨kd, n, d, nm, k⟩ len = false by simp_all [nodeR])
                go_enter Tryz.func171, Tryz.ntmps171
                go_wp2_with fail
                obtain ⟨w1, hw1⟩ : ∃ z9 : World, z9 = w.alloc (Obj.cells #[.int .i64 kd, .int .i64 n, .int .i64 d, .string nm, .int .i64 k, .slice A len cap] 51) := ⟨_, rfl⟩
                have HW1 := Lib.hid (show Below w.heap.size w w1 by rw [hw1]; exact below_box _ _)
                have F1 := Lib.hid (show Blk w1 w.heap.size 51 #[.int .i64 kd, .int .i64 n, .int .i64 d, .string nm, .int .i64 k, .slice A len cap] by rw [hw1]; exact Blk.new _ _ _)
                rw [← hw1]
                clear hw1
                have pr0 : w1.cell? ⟨w.heap.size, 0, none⟩ = some (.int .i64 kd) := F1.out.cell 0
                have pr5 : w1.cell? ⟨w.heap.size, 5, none⟩ = some (.slice A len cap) := F1.out.cell 5
                go_quiet ((go_at_call 192; exact Calls.quiet_of_same ((args_any _ _).mono fun e w' h => ⟨h.1, h.2.symm⟩)))
                obtain ⟨wq, hwq⟩ : ∃ z9 : World, z9 = w1.drewN nq := ⟨_, rfl⟩
                have HQ1 := Lib.hid (show Below w1.heap.size w1 wq by rw [hwq]; exact below_drewN (Below.refl _ _) _)
                have FQ := Lib.hid (F1.out.belowW HQ1.out)
                have HWQ := Lib.hid (HW1.out.trans (HQ1.out.mono HW1.out.size))
                rw [← hwq]
                clear hwq pr0 pr5
                obtain ⟨pr0, pr1, pr2, pr3, pr4, pr5⟩ := FQ.out.cs6
                go_wp2_with fail
                go_ret
                rw [HN.out]
                exact ⟨rfl, HWQ⟩
              | true =>
                cases K : (k == 0) with
                | false =>
                  cases P : decide (0 < k) with
                  | false =>
                    have HN := Lib.hid (show nodeR nameP ⟨kd, n, d, nm, k⟩ len = false by simp_all [nodeR]; intros; omega)
                    go_enter Tryz.func171, Tryz.ntmps171
                    go_wp2_with fail
                    obtain ⟨w1, hw1⟩ : ∃ z9 : World, z9 = w.alloc (Obj.cells #[.int .i64 kd, .int .i64 n, .int .i64 d, .string nm, .int .i64 k, .slice A len cap] 51) := ⟨_, rfl⟩
                    have HW1 := Lib.hid (show Below w.heap.size w w1 by rw [hw1]; exact below_box _ _)
                    have F1 := Lib.hid (show Blk w1 w.heap.size 51 #[.int .i64 kd, .int .i64 n, .int .i64 d, .string nm, .int .i64 k, .slice A len cap] by rw [hw1]; exact Blk.new _ _ _)
                    rw [← hw1]
                    clear hw1
                    have pr0 : w1.cell? ⟨w.heap.size, 0, none⟩ = some (.int .i64 kd) := F1.out.cell 0
                    have pr5 : w1.cell? ⟨w.heap.size, 5, none⟩ = some (.slice A len cap) := F1.out.cell 5
                    go_quiet ((go_at_call 192; exact Calls.quiet_of_same ((args_any _ _).mono fun e w' h => ⟨h.1, h.2.symm⟩)))
                    obtain ⟨wq, hwq⟩ : ∃ z9 : World, z9 = w1.drewN nq := ⟨_, rfl⟩
                    have HQ1 := Lib.hid (show Below w1.heap.size w1 wq by rw [hwq]; exact below_drewN (Below.refl _ _) _)
                    have FQ := Lib.hid (F1.out.belowW HQ1.out)
                    have HWQ := Lib.hid (HW1.out.trans (HQ1.out.mono HW1.out.size))
                    rw [← hwq]
                    clear hwq pr0 pr5
                    obtain ⟨pr0, pr1, pr2, pr3, pr4, pr5⟩ := FQ.out.cs6
                    go_wp2_with fail
                    go_ret
                    rw [HN.out]
                    exact ⟨rfl, HWQ⟩
                  | true =>
                    cases J : decide (k ≤ 16) with
                    | false =>
                      have HN := Lib.hid (show nodeR nameP ⟨kd, n, d, nm, k⟩ len = false by simp_all [nodeR])
                      go_enter Tryz.func171, Tryz.ntmps171
                      go_wp2_with fail
                      obtain ⟨w1, hw1⟩ : ∃ z9 : World, z9 = w.alloc (Obj.cells #[.int .i64 kd, .int .i64 n, .int .i64 d, .string nm, .int .i64 k, .slice A len cap] 51) := ⟨_, rfl⟩
                      have HW1 := Lib.hid (show Below w.heap.size w w1 by rw [hw1]; exact below_box _ _)
                      have F1 := Lib.hid (show Blk w1 w.heap.size 51 #[.int .i64 kd, .int .i64 n, .int .i64 d, .string nm, .int .i64 k, .slice A len cap] by rw [hw1]; exact Blk.new _ _ _)
                      rw [← hw1]
                      clear hw1
                      have pr0 : w1.cell? ⟨w.heap.size, 0, none⟩ = some (.int .i64 kd) := F1.out.cell 0
                      have pr5 : w1.cell? ⟨w.heap.size, 5, none⟩ = some (.slice A len cap) := F1.out.cell 5
                      go_quiet ((go_at_call 192; exact Calls.quiet_of_same ((args_any _ _).mono fun e w' h => ⟨h.1, h.2.symm⟩)))
                      obtain ⟨wq, hwq⟩ : ∃ z9 : World, z9 = w1.drewN nq := ⟨_, rfl⟩
                      have HQ1 := Lib.hid (show Below w1.heap.size w1 wq by rw [hwq]; exact below_drewN (Below.refl _ _) _)
                      have FQ := Lib.hid (F1.out.belowW HQ1.out)
                      have HWQ := Lib.hid (HW1.out.trans (HQ1.out.mono HW1.out.size))
                      rw [← hwq]
                      clear hwq pr0 pr5
                      obtain ⟨pr0, pr1, pr2, pr3, pr4, pr5⟩ := FQ.out.cs6
                      go_wp2_with fail
                      go_ret
                      rw [HN.out]
                      exact ⟨rfl, HWQ⟩
                    | true =>
                      have HN := Lib.hid (show nodeR nameP ⟨kd, n, d, nm, k⟩ len = true by simp_all [nodeR])
                      go_enter Tryz.func171, Tryz.ntmps171
                      go_wp2_with fail
                      obtain ⟨w1, hw1⟩ : ∃ z9 : World, z9 = w.alloc (Obj.cells #[.int .i64 kd, .int .i64 n, .int .i64 d, .string nm, .int .i64 k, .slice A len cap] 51) := ⟨_, rfl⟩
                      have HW1 := Lib.hid (show Below w.heap.size w w1 by rw [hw1]; exact below_box _ _)
                      have F1 := Lib.hid (show Blk w1 w.heap.size 51 #[.int .i64 kd, .int .i64 n, .int .i64 d, .string nm, .int .i64 k, .slice A len cap] by rw [hw1]; exact Blk.new _ _ _)
                      rw [← hw1]
                      clear hw1
                      have pr0 : w1.cell? ⟨w.heap.size, 0, none⟩ = some (.int .i64 kd) := F1.out.cell 0
                      have pr5 : w1.cell? ⟨w.heap.size, 5, none⟩ = some (.slice A len cap) := F1.out.cell 5
                      go_quiet ((go_at_call 192; exact Calls.quiet_of_same ((args_any _ _).mono fun e w' h => ⟨h.1, h.2.symm⟩)))
                      obtain ⟨wq, hwq⟩ : ∃ z9 : World, z9 = w1.drewN nq := ⟨_, rfl⟩
                      have HQ1 := Lib.hid (show Below w1.heap.size w1 wq by rw [hwq]; exact below_drewN (Below.refl _ _) _)
                      have FQ := Lib.hid (F1.out.belowW HQ1.out)
                      have HWQ := Lib.hid (HW1.out.trans (HQ1.out.mono HW1.out.size))
                      rw [← hwq]
                      clear hwq pr0 pr5
                      obtain ⟨pr0, pr1, pr2, pr3, pr4, pr5⟩ := FQ.out.cs6
                      go_wp2_with fail
                      go_ret
                      rw [HN.out]
                      exact ⟨rfl, HWQ⟩
                | true =>
                  have HN := Lib.hid (show nodeR nameP ⟨kd, n, d, nm, k⟩ len = true by simp_all [nodeR])
                  go_enter Tryz.func171, Tryz.ntmps171
                  go_wp2_with fail
                  obtain ⟨w1, hw1⟩ : ∃ z9 : World, z9 = w.alloc (Obj.cells #[.int .i64 kd, .int .i64 n, .int .i64 d, .string nm, .int .i64 k, .slice A len cap] 51) := ⟨_, rfl⟩
                  have HW1 := Lib.hid (show Below w.heap.size w w1 by rw [hw1]; exact below_box _ _)
                  have F1 := Lib.hid (show Blk w1 w.heap.size 51 #[.int .i64 kd, .int .i64 n, .int .i64 d, .string nm, .int .i64 k, .slice A len cap] by rw [hw1]; exact Blk.new _ _ _)
                  rw [← hw1]
                  clear hw1
                  have pr0 : w1.cell? ⟨w.heap.size, 0, none⟩ = some (.int .i64 kd) := F1.out.cell 0
                  have pr5 : w1.cell? ⟨w.heap.size, 5, none⟩ = some (.slice A len cap) := F1.out.cell 5
                  go_quiet ((go_at_call 192; exact Calls.quiet_of_same ((args_any _ _).mono fun e w' h => ⟨h.1, h.2.symm⟩)))
                  obtain ⟨wq, hwq⟩ : ∃ z9 : World, z9 = w1.drewN nq := ⟨_, rfl⟩
                  have HQ1 := Lib.hid (show Below w1.heap.size w1 wq by rw [hwq]; exact below_drewN (Below.refl _ _) _)
                  have FQ := Lib.hid (F1.out.belowW HQ1.out)
                  have HWQ := Lib.hid (HW1.out.trans (HQ1.out.mono HW1.out.size))
                  rw [← hwq]
                  clear hwq pr0 pr5
                  obtain ⟨pr0, pr1, pr2, pr3, pr4, pr5⟩ := FQ.out.cs6
                  go_wp2_with fail
                  go_ret
                  rw [HN.out]
                  exact ⟨rfl, HWQ⟩
            | true =>
              have HN := Lib.hid (show nodeR nameP ⟨kd, n, d, nm, k⟩ len = false by simp_all [nodeR])
              go_enter Tryz.func171, Tryz.ntmps171
              go_wp2_with fail
              obtain ⟨w1, hw1⟩ : ∃ z9 : World, z9 = w.alloc (Obj.cells #[.int .i64 kd, .int .i64 n, .int .i64 d, .string nm, .int .i64 k, .slice A len cap] 51) := ⟨_, rfl⟩
              have HW1 := Lib.hid (show Below w.heap.size w w1 by rw [hw1]; exact below_box _ _)
              have F1 := Lib.hid (show Blk w1 w.heap.size 51 #[.int .i64 kd, .int .i64 n, .int .i64 d, .string nm, .int .i64 k, .slice A len cap] by rw [hw1]; exact Blk.new _ _ _)
              rw [← hw1]
              clear hw1
              have pr0 : w1.cell? ⟨w.heap.size, 0, none⟩ = some (.int .i64 kd) := F1.out.cell 0
              have pr5 : w1.cell? ⟨w.heap.size, 5, none⟩ = some (.slice A len cap) := F1.out.cell 5
              go_quiet ((go_at_call 192; exact Calls.quiet_of_same ((args_any _ _).mono fun e w' h => ⟨h.1, h.2.symm⟩)))
              obtain ⟨wq, hwq⟩ : ∃ z9 : World, z9 = w1.drewN nq := ⟨_, rfl⟩
              have HQ1 := Lib.hid (show Below w1.heap.size w1 wq by rw [hwq]; exact below_drewN (Below.refl _ _) _)
              have FQ := Lib.hid (F1.out.belowW HQ1.out)
              have HWQ := Lib.hid (HW1.out.trans (HQ1.out.mono HW1.out.size))
              rw [← hwq]
              clear hwq pr0 pr5
              obtain ⟨pr0, pr1, pr2, pr3, pr4, pr5⟩ := FQ.out.cs6
              go_wp2_with fail
              go_ret
              rw [HN.out]
              exact ⟨rfl, HWQ⟩
          | true =>
            have HN := Lib.hid (show nodeR nameP ⟨kd, n, d, nm, k⟩ len = false by simp_all [nodeR])
            go_enter Tryz.func171, Tryz.ntmps171
            go_wp2_with fail
            obtain ⟨w1, hw1⟩ : ∃ z9 : World, z9 = w.alloc (Obj.cells #[.int .i64 kd, .int .i64 n, .int .i64 d, .string nm, .int .i64 k, .slice A len cap] 51) := ⟨_, rfl⟩
            have HW1 := Lib.hid (show Below w.heap.size w w1 by rw [hw1]; exact below_box _ _)
            have F1 := Lib.hid (show Blk w1 w.heap.size 51 #[.int .i64 kd, .int .i64 n, .int .i64 d, .string nm, .int .i64 k, .slice A len cap] by rw [hw1]; exact Blk.new _ _ _)
            rw [← hw1]
            clear hw1
            have pr0 : w1.cell? ⟨w.heap.size, 0, none⟩ = some (.int .i64 kd) := F1.out.cell 0
            have pr5 : w1.cell? ⟨w.heap.size, 5, none⟩ = some (.slice A len cap) := F1.out.cell 5
            go_quiet ((go_at_call 192; exact Calls.quiet_of_same ((args_any _ _).mono fun e w' h => ⟨h.1, h.2.symm⟩)))
            obtain ⟨wq, hwq⟩ : ∃ z9 : World, z9 = w1.drewN nq := ⟨_, rfl⟩
            have HQ1 := Lib.hid (show Below w1.heap.size w1 wq by rw [hwq]; exact below_drewN (Below.refl _ _) _)
            have FQ := Lib.hid (F1.out.belowW HQ1.out)
            have HWQ := Lib.hid (HW1.out.trans (HQ1.out.mono HW1.out.size))
            rw [← hwq]
            clear hwq pr0 pr5
            obtain ⟨pr0, pr1, pr2, pr3, pr4, pr5⟩ := FQ.out.cs6
            go_wp2_with fail
            go_ret
            rw [HN.out]
            exact ⟨rfl, HWQ⟩
        | true =>
          have HN := Lib.hid (show nodeR nameP ⟨kd, n, d, nm, k⟩ len = false by simp_all [nodeR])
          go_enter Tryz.func171, Tryz.ntmps171
          go_wp2_with fail
          obtain ⟨w1, hw1⟩ : ∃ z9 : World, z9 = w.alloc (Obj.cells #[.int .i64 kd, .int .i64 n, .int .i64 d, .string nm, .int .i64 k, .slice A len cap] 51) := ⟨_, rfl⟩
          have HW1 := Lib.hid (show Below w.heap.size w w1 by rw [hw1]; exact below_box _ _)
          have F1 := Lib.hid (show Blk w1 w.heap.size 51 #[.int .i64 kd, .int .i64 n, .int .i64 d, .string nm, .int .i64 k, .slice A len cap] by rw [hw1]; exact Blk.new _ _ _)
          rw [← hw1]
          clear hw1
          have pr0 : w1.cell? ⟨w.heap.size, 0, none⟩ = some (.int .i64 kd) := F1.out.cell 0
          have pr5 : w1.cell? ⟨w.heap.size, 5, none⟩ = some (.slice A len cap) := F1.out.cell 5
          go_quiet ((go_at_call 192; exact Calls.quiet_of_same ((args_any _ _).mono fun e w' h => ⟨h.1, h.2.symm⟩)))
          obtain ⟨wq, hwq⟩ : ∃ z9 : World, z9 = w1.drewN nq := ⟨_, rfl⟩
          have HQ1 := Lib.hid (show Below w1.heap.size w1 wq by rw [hwq]; exact below_drewN (Below.refl _ _) _)
          have FQ := Lib.hid (F1.out.belowW HQ1.out)
          have HWQ := Lib.hid (HW1.out.trans (HQ1.out.mono HW1.out.size))
          rw [← hwq]
          clear hwq pr0 pr5
          obtain ⟨pr0, pr1, pr2, pr3, pr4, pr5⟩ := FQ.out.cs6
          go_wp2_with fail
          go_ret
          rw [HN.out]
          exact ⟨rfl, HWQ⟩
      | false =>
        cases L : ((len : Int) != argsK kd) with
        | false =>
          cases X : (n != 0) with
          | false =>
            cases Y : (d != 0) with
            | false =>
              cases E : nm.toList.isEmpty with
              | false =>
                have HN := Lib.hid (show nodeR nameP ⟨kd, n, d, nm, k⟩ len = false by simp_all [nodeR])
                go_enter Tryz.func171, Tryz.ntmps171
                go_wp2_with fail
                obtain ⟨w1, hw1⟩ : ∃ z9 : World, z9 = w.alloc (Obj.cells #[.int .i64 kd, .int .i64 n, .int .i64 d, .string nm, .int .i64 k, .slice A len cap] 51) := ⟨_, rfl⟩
                have HW1 := Lib.hid (show Below w.heap.size w w1 by rw [hw1]; exact below_box _ _)
                have F1 := Lib.hid (show Blk w1 w.heap.size 51 #[.int .i64 kd, .int .i64 n, .int .i64 d, .string nm, .int .i64 k, .slice A len cap] by rw [hw1]; exact Blk.new _ _ _)
                rw [← hw1]
                clear hw1
                have pr0 : w1.cell? ⟨w.heap.size, 0, none⟩ = some (.int .i64 kd) := F1.out.cell 0
                have pr5 : w1.cell? ⟨w.heap.size, 5, none⟩ = some (.slice A len cap) := F1.out.cell 5
                go_quiet ((go_at_call 192; exact Calls.quiet_of_same ((args_any _ _).mono fun e w' h => ⟨h.1, h.2.symm⟩)))
                obtain ⟨wq, hwq⟩ : ∃ z9 : World, z9 = w1.drewN nq := ⟨_, rfl⟩
                have HQ1 := Lib.hid (show Below w1.heap.size w1 wq by rw [hwq]; exact below_drewN (Below.refl _ _) _)
                have FQ := Lib.hid (F1.out.belowW HQ1.out)
                have HWQ := Lib.hid (HW1.out.trans (HQ1.out.mono HW1.out.size))
                rw [← hwq]
                clear hwq pr0 pr5
                obtain ⟨pr0, pr1, pr2, pr3, pr4, pr5⟩ := FQ.out.cs6
                go_wp2_with fail
                go_ret
                rw [HN.out]
                exact ⟨rfl, HWQ⟩
              | true =>
                cases K : (k == 0) with
                | false =>
                  have HN := Lib.hid (show nodeR nameP ⟨kd, n, d, nm, k⟩ len = false by simp_all [nodeR])
                  go_enter Tryz.func171, Tryz.ntmps171
                  go_wp2_with fail
                  obtain ⟨w1, hw1⟩ : ∃ z9 : World, z9 = w.alloc (Obj.cells #[.int .i64 kd, .int .i64 n, .int .i64 d, .string nm, .int .i64 k, .slice A len cap] 51) := ⟨_, rfl⟩
                  have HW1 := Lib.hid (show Below w.heap.size w w1 by rw [hw1]; exact below_box _ _)
                  have F1 := Lib.hid (show Blk w1 w.heap.size 51 #[.int .i64 kd, .int .i64 n, .int .i64 d, .string nm, .int .i64 k, .slice A len cap] by rw [hw1]; exact Blk.new _ _ _)
                  rw [← hw1]
                  clear hw1
                  have pr0 : w1.cell? ⟨w.heap.size, 0, none⟩ = some (.int .i64 kd) := F1.out.cell 0
                  have pr5 : w1.cell? ⟨w.heap.size, 5, none⟩ = some (.slice A len cap) := F1.out.cell 5
                  go_quiet ((go_at_call 192; exact Calls.quiet_of_same ((args_any _ _).mono fun e w' h => ⟨h.1, h.2.symm⟩)))
                  obtain ⟨wq, hwq⟩ : ∃ z9 : World, z9 = w1.drewN nq := ⟨_, rfl⟩
                  have HQ1 := Lib.hid (show Below w1.heap.size w1 wq by rw [hwq]; exact below_drewN (Below.refl _ _) _)
                  have FQ := Lib.hid (F1.out.belowW HQ1.out)
                  have HWQ := Lib.hid (HW1.out.trans (HQ1.out.mono HW1.out.size))
                  rw [← hwq]
                  clear hwq pr0 pr5
                  obtain ⟨pr0, pr1, pr2, pr3, pr4, pr5⟩ := FQ.out.cs6
                  go_wp2_with fail
                  go_ret
                  rw [HN.out]
                  exact ⟨rfl, HWQ⟩
                | true =>
                  have HN := Lib.hid (show nodeR nameP ⟨kd, n, d, nm, k⟩ len = true by simp_all [nodeR])
                  go_enter Tryz.func171, Tryz.ntmps171
                  go_wp2_with fail
                  obtain ⟨w1, hw1⟩ : ∃ z9 : World, z9 = w.alloc (Obj.cells #[.int .i64 kd, .int .i64 n, .int .i64 d, .string nm, .int .i64 k, .slice A len cap] 51) := ⟨_, rfl⟩
                  have HW1 := Lib.hid (show Below w.heap.size w w1 by rw [hw1]; exact below_box _ _)
                  have F1 := Lib.hid (show Blk w1 w.heap.size 51 #[.int .i64 kd, .int .i64 n, .int .i64 d, .string nm, .int .i64 k, .slice A len cap] by rw [hw1]; exact Blk.new _ _ _)
                  rw [← hw1]
                  clear hw1
                  have pr0 : w1.cell? ⟨w.heap.size, 0, none⟩ = some (.int .i64 kd) := F1.out.cell 0
                  have pr5 : w1.cell? ⟨w.heap.size, 5, none⟩ = some (.slice A len cap) := F1.out.cell 5
                  go_quiet ((go_at_call 192; exact Calls.quiet_of_same ((args_any _ _).mono fun e w' h => ⟨h.1, h.2.symm⟩)))
                  obtain ⟨wq, hwq⟩ : ∃ z9 : World, z9 = w1.drewN nq := ⟨_, rfl⟩
                  have HQ1 := Lib.hid (show Below w1.heap.size w1 wq by rw [hwq]; exact below_drewN (Below.refl _ _) _)
                  have FQ := Lib.hid (F1.out.belowW HQ1.out)
                  have HWQ := Lib.hid (HW1.out.trans (HQ1.out.mono HW1.out.size))
                  rw [← hwq]
                  clear hwq pr0 pr5
                  obtain ⟨pr0, pr1, pr2, pr3, pr4, pr5⟩ := FQ.out.cs6
                  go_wp2_with fail
                  go_ret
                  rw [HN.out]
                  exact ⟨rfl, HWQ⟩
            | true =>
              have HN := Lib.hid (show nodeR nameP ⟨kd, n, d, nm, k⟩ len = false by simp_all [nodeR])
              go_enter Tryz.func171, Tryz.ntmps171
              go_wp2_with fail
              obtain ⟨w1, hw1⟩ : ∃ z9 : World, z9 = w.alloc (Obj.cells #[.int .i64 kd, .int .i64 n, .int .i64 d, .string nm, .int .i64 k, .slice A len cap] 51) := ⟨_, rfl⟩
              have HW1 := Lib.hid (show Below w.heap.size w w1 by rw [hw1]; exact below_box _ _)
              have F1 := Lib.hid (show Blk w1 w.heap.size 51 #[.int .i64 kd, .int .i64 n, .int .i64 d, .string nm, .int .i64 k, .slice A len cap] by rw [hw1]; exact Blk.new _ _ _)
              rw [← hw1]
              clear hw1
              have pr0 : w1.cell? ⟨w.heap.size, 0, none⟩ = some (.int .i64 kd) := F1.out.cell 0
              have pr5 : w1.cell? ⟨w.heap.size, 5, none⟩ = some (.slice A len cap) := F1.out.cell 5
              go_quiet ((go_at_call 192; exact Calls.quiet_of_same ((args_any _ _).mono fun e w' h => ⟨h.1, h.2.symm⟩)))
              obtain ⟨wq, hwq⟩ : ∃ z9 : World, z9 = w1.drewN nq := ⟨_, rfl⟩
              have HQ1 := Lib.hid (show Below w1.heap.size w1 wq by rw [hwq]; exact below_drewN (Below.refl _ _) _)
              have FQ := Lib.hid (F1.out.belowW HQ1.out)
              have HWQ := Lib.hid (HW1.out.trans (HQ1.out.mono HW1.out.size))
              rw [← hwq]
              clear hwq pr0 pr5
              obtain ⟨pr0, pr1, pr2, pr3, pr4, pr5⟩ := FQ.out.cs6
              go_wp2_with fail
              go_ret
              rw [HN.out]
              exact ⟨rfl, HWQ⟩
          | true =>
            have HN := Lib.hid (show nodeR nameP ⟨kd, n, d, nm, k⟩ len = false by simp_all [nodeR])
            go_enter Tryz.func171, Tryz.ntmps171
            go_wp2_with fail
            obtain ⟨w1, hw1⟩ : ∃ z9 : World, z9 = w.alloc (Obj.cells #[.int .i64 kd, .int .i64 n, .int .i64 d, .string nm, .int .i64 k, .slice A len cap] 51) := ⟨_, rfl⟩
            have HW1 := Lib.hid (show Below w.heap.size w w1 by rw [hw1]; exact below_box _ _)
            have F1 := Lib.hid (show Blk w1 w.heap.size 51 #[.int .i64 kd, .int .i64 n, .int .i64 d, .string nm, .int .i64 k, .slice A len cap] by rw [hw1]; exact Blk.new _ _ _)
            rw [← hw1]
            clear hw1
            have pr0 : w1.cell? ⟨w.heap.size, 0, none⟩ = some (.int .i64 kd) := F1.out.cell 0
            have pr5 : w1.cell? ⟨w.heap.size, 5, none⟩ = some (.slice A len cap) := F1.out.cell 5
            go_quiet ((go_at_call 192; exact Calls.quiet_of_same ((args_any _ _).mono fun e w' h => ⟨h.1, h.2.symm⟩)))
            obtain ⟨wq, hwq⟩ : ∃ z9 : World, z9 = w1.drewN nq := ⟨_, rfl⟩
            have HQ1 := Lib.hid (show Below w1.heap.size w1 wq by rw [hwq]; exact below_drewN (Below.refl _ _) _)
            have FQ := Lib.hid (F1.out.belowW HQ1.out)
            have HWQ := Lib.hid (HW1.out.trans (HQ1.out.mono HW1.out.size))
            rw [← hwq]
            clear hwq pr0 pr5
            obtain ⟨pr0, pr1, pr2, pr3, pr4, pr5⟩ := FQ.out.cs6
            go_wp2_with fail
            go_ret
            rw [HN.out]
            exact ⟨rfl, HWQ⟩
        | true =>
          have HN := Lib.hid (show nodeR nameP ⟨kd, n, d, nm, k⟩ len = false by simp_all [nodeR])
          go_enter Tryz.func171, Tryz.ntmps171
          go_wp2_with fail
          obtain ⟨w1, hw1⟩ : ∃ z9 : World, z9 = w.alloc (Obj.cells #[.int .i64 kd, .int .i64 n, .int .i64 d, .string nm, .int .i64 k, .slice A len cap] 51) := ⟨_, rfl⟩
          have HW1 := Lib.hid (show Below w.heap.size w w1 by rw [hw1]; exact below_box _ _)
          have F1 := Lib.hid (show Blk w1 w.heap.size 51 #[.int .i64 kd, .int .i64 n, .int .i64 d, .string nm, .int .i64 k, .slice A len cap] by rw [hw1]; exact Blk.new _ _ _)
          rw [← hw1]
          clear hw1
          have pr0 : w1.cell? ⟨w.heap.size, 0, none⟩ = some (.int .i64 kd) := F1.out.cell 0
          have pr5 : w1.cell? ⟨w.heap.size, 5, none⟩ = some (.slice A len cap) := F1.out.cell 5
          go_quiet ((go_at_call 192; exact Calls.quiet_of_same ((args_any _ _).mono fun e w' h => ⟨h.1, h.2.symm⟩)))
          obtain ⟨wq, hwq⟩ : ∃ z9 : World, z9 = w1.drewN nq := ⟨_, rfl⟩
          have HQ1 := Lib.hid (show Below w1.heap.size w1 wq by rw [hwq]; exact below_drewN (Below.refl _ _) _)
          have FQ := Lib.hid (F1.out.belowW HQ1.out)
          have HWQ := Lib.hid (HW1.out.trans (HQ1.out.mono HW1.out.size))
          rw [← hwq]
          clear hwq pr0 pr5
          obtain ⟨pr0, pr1, pr2, pr3, pr4, pr5⟩ := FQ.out.cs6
          go_wp2_with fail
          go_ret
          rw [HN.out]
          exact ⟨rfl, HWQ⟩
end Go.Proofs.YtoogeihbhhcpaaaGreatDoor
