/-
  The walks of the small tests of expressions.
  The walks of the numbers of elements and of the tests of nodes.
  The walk of the program's count of nodes.
  The map of the functions' names.
  The walk of the program's text of an operand, and what its own text's walk needs.
  A block's facts in one line.
  Stores of whole structs, cells at a place, and what lies below: of no program.
  Contracts of the kit's shelf at this dump: written by its lay-shelf.mjs and lay-plain.mjs, cut down to what is used here (cutshelf.py).
-/
import Derived.Test.YtkjoohnndobjeaaGreatDoorQC
import Derived.Test.YtkjoohnndobjeaaGreatDoorQG
import Derived.Deep.QuietTactic
import Derived.BigQuiet
import Derived.Carry
import Derived.MapFrom
import Derived.Deep.RegionHeld3
import Derived.Test.YtkjoohnndobjeaaGreatDoorQB
import Derived.Shelf.Strings.Search3
import Derived.Test.YtkjoohnndobjeaaGreatDoorProg
set_option linter.unusedVariables false
namespace Go.Proofs.YtkjoohnndobjeaaGreatDoor
open Go.RowKit Go.Fl Go.Fl.Fm
/-- A call that answers a value and writes nothing old. -/
def RetB (v : Value) (w : World) (e : Ending) (w' : World) : Prop := e = .returned v ∧ Hid (Below w.heap.size w w')
theorem below_box (w : World) (o : Obj) : Below w.heap.size w (w.alloc o) := (Below.refl _ _).alloc (Nat.le_refl _) _

end Go.Proofs.YtkjoohnndobjeaaGreatDoor
namespace Go.Fl.Fm
open Go.Fl.Rt
end Go.Fl.Fm
namespace Go.Proofs.YtkjoohnndobjeaaGreatDoor
open Go.RowKit Go.Fl Go.Fl.Fm Go.Fl.Rt
theorem run_eq_rat (w : World) (l c l' c' : Int) :
   (binOp .eql 26 (.agg #[.int .i64 l, .int .i64 c]) (.agg #[.int .i64 l', .int .i64 c'])).run Tryz.prog w = .ok (.bool ((l == l') && (c == c'))) w := by
  simp [go_sem]
  by_cases h3 : l = l' <;> by_cases h4 : c = c' <;> simp [h3, h4]

set_option maxHeartbeats 1000000 in
theorem operands_any (k : Int) (w : World) : Calls Tryz.prog 160 #[.int .i64 k] w (fun e w' => e = .returned (.int .i64 (opsK k)) ∧ w = w') := by
  by_cases h3 : k = 3
  · subst h3
    go_enter Tryz.func160, Tryz.ntmps160
    go_wp2_with fail
    go_ret
    exact ⟨rfl, rfl⟩
  have e3 : (k == 3) = false := by rw [beq_eq_false_iff_ne]; exact h3
  by_cases h4 : k = 4
  · subst h4
    go_enter Tryz.func160, Tryz.ntmps160
    go_wp2_with fail
    go_ret
    exact ⟨rfl, rfl⟩
  have e4 : (k == 4) = false := by rw [beq_eq_false_iff_ne]; exact h4
  by_cases h5 : k = 5
  · subst h5
    go_enter Tryz.func160, Tryz.ntmps160
    go_wp2_with fail
    go_ret
    exact ⟨rfl, rfl⟩
  have e5 : (k == 5) = false := by rw [beq_eq_false_iff_ne]; exact h5
  by_cases h6 : k = 6
  · subst h6
    go_enter Tryz.func160, Tryz.ntmps160
    go_wp2_with fail
    go_ret
    exact ⟨rfl, rfl⟩
  have e6 : (k == 6) = false := by rw [beq_eq_false_iff_ne]; exact h6
  by_cases h7 : k = 7
  · subst h7
    go_enter Tryz.func160, Tryz.ntmps160
    go_wp2_with fail
    go_ret
    exact ⟨rfl, rfl⟩
  have e7 : (k == 7) = false := by rw [beq_eq_false_iff_ne]; exact h7
  by_cases h8 : k = 8
  · subst h8
    go_enter Tryz.func160, Tryz.ntmps160
    go_wp2_with fail
    go_ret
    exact ⟨rfl, rfl⟩
  have e8 : (k == 8) = false := by rw [beq_eq_false_iff_ne]; exact h8
  by_cases h9 : k = 9
  · subst h9
    go_enter Tryz.func160, Tryz.ntmps160
    go_wp2_with fail
    go_ret
    exact ⟨rfl, rfl⟩
  have e9 : (k == 9) = false := by rw [beq_eq_false_iff_ne]; exact h9
  by_cases h10 : k = 10
  · subst h10
    go_enter Tryz.func160, Tryz.ntmps160
    go_wp2_with fail
    go_ret
    exact ⟨rfl, rfl⟩
  have e10 : (k == 10) = false := by rw [beq_eq_false_iff_ne]; exact h10
  by_cases h11 : k = 11
  · subst h11
    go_enter Tryz.func160, Tryz.ntmps160
    go_wp2_with fail
    go_ret
    exact ⟨rfl, rfl⟩
  have e11 : (k == 11) = false := by rw [beq_eq_false_iff_ne]; exact h11
  by_cases h12 : k = 12
  · subst h12
    go_enter Tryz.func160, Tryz.ntmps160
    go_wp2_with fail
    go_ret
    exact ⟨rfl, rfl⟩
  have e12 : (k == 12) = false := by rw [beq_eq_false_iff_ne]; exact h12
  by_cases h13 : k = 13
  · subst h13
    go_enter Tryz.func160, Tryz.ntmps160
    go_wp2_with fail
    go_ret
    exact ⟨rfl, rfl⟩
  have e13 : (k == 13) = false := by rw [beq_eq_false_iff_ne]; exact h13
  have e : opsK k = -1 := by
    unfold opsK
    rw [if_neg (by omega), if_neg (by omega)]
  go_enter Tryz.func160, Tryz.ntmps160
  go_wp2_with fail
  go_ret
  rw [e]
  exact ⟨rfl, rfl⟩

set_option maxHeartbeats 4000000 in
set_option maxRecDepth 100000 in
theorem node_p (x : Nd) (w : World) (ok : HdOk x.h) : Calls Tryz.prog 127 #[x.val] w (RetB (.bool (nodeB nameP x.h x.len)) w) := by
  obtain ⟨⟨kd, n, d, nm, k⟩, A, len, cap⟩ := x
  obtain ⟨a1, a2, a3, a4, a5, a6, a7, a8, a9⟩ := ok
  simp only at a1 a2 a3 a4 a5 a6 a7 a8 a9
  simp only [Nd.val]
  have heq := run_eq_rat
  cases k1 : (kd == 1) with
  | true =>
    cases V : decide (valid n d) with
    | false =>
      have HN := Lib.hid (show nodeB nameP ⟨kd, n, d, nm, k⟩ len = false by simp_all [nodeB])
      go_enter Tryz.func127, Tryz.ntmps127
      go_wp2_with fail
      obtain ⟨w1, hw1⟩ : ∃ z9 : World, z9 = w.alloc (Obj.cells #[.int .i64 kd, .int .i64 n, .int .i64 d, .string nm, .int .i64 k, .slice A len cap] 29) := ⟨_, rfl⟩
      have HW1 := Lib.hid (show Below w.heap.size w w1 by rw [hw1]; exact below_box _ _)
      have F1 := Lib.hid (show Blk w1 w.heap.size 29 #[.int .i64 kd, .int .i64 n, .int .i64 d, .string nm, .int .i64 k, .slice A len cap] by rw [hw1]; exact Blk.new _ _ _)
      rw [← hw1]
      clear hw1
      refine (valid_q n d _ a3 a4 a5 a6).mono ?_
      rintro e w2 ⟨rfl, HB2⟩
      have F2 := Lib.hid (F1.out.belowW HB2.out)
      have HW2 := Lib.hid (HW1.out.trans (HB2.out.mono HW1.out.size))
      have pr0 : w2.cell? ⟨w.heap.size, 0, none⟩ = some (.int .i64 kd) := F2.out.cell 0
      have pr3 : w2.cell? ⟨w.heap.size, 3, none⟩ = some (.string nm) := F2.out.cell 3
      have pr4 : w2.cell? ⟨w.heap.size, 4, none⟩ = some (.int .i64 k) := F2.out.cell 4
      have pr5 : w2.cell? ⟨w.heap.size, 5, none⟩ = some (.slice A len cap) := F2.out.cell 5
      rw [show vB n d = false from V]
      go_wp2_with fail
      go_ret
      rw [HN.out]
      exact ⟨rfl, HW2⟩
    | true =>
      cases E : nm.toList.isEmpty with
      | false =>
        have HN := Lib.hid (show nodeB nameP ⟨kd, n, d, nm, k⟩ len = false by simp_all [nodeB])
        go_enter Tryz.func127, Tryz.ntmps127
        go_wp2_with fail
        obtain ⟨w1, hw1⟩ : ∃ z9 : World, z9 = w.alloc (Obj.cells #[.int .i64 kd, .int .i64 n, .int .i64 d, .string nm, .int .i64 k, .slice A len cap] 29) := ⟨_, rfl⟩
        have HW1 := Lib.hid (show Below w.heap.size w w1 by rw [hw1]; exact below_box _ _)
        have F1 := Lib.hid (show Blk w1 w.heap.size 29 #[.int .i64 kd, .int .i64 n, .int .i64 d, .string nm, .int .i64 k, .slice A len cap] by rw [hw1]; exact Blk.new _ _ _)
        rw [← hw1]
        clear hw1
        refine (valid_q n d _ a3 a4 a5 a6).mono ?_
        rintro e w2 ⟨rfl, HB2⟩
        have F2 := Lib.hid (F1.out.belowW HB2.out)
        have HW2 := Lib.hid (HW1.out.trans (HB2.out.mono HW1.out.size))
        have pr0 : w2.cell? ⟨w.heap.size, 0, none⟩ = some (.int .i64 kd) := F2.out.cell 0
        have pr3 : w2.cell? ⟨w.heap.size, 3, none⟩ = some (.string nm) := F2.out.cell 3
        have pr4 : w2.cell? ⟨w.heap.size, 4, none⟩ = some (.int .i64 k) := F2.out.cell 4
        have pr5 : w2.cell? ⟨w.heap.size, 5, none⟩ = some (.slice A len cap) := F2.out.cell 5
        rw [show vB n d = true from V]
        go_wp2_with fail
        go_ret
        rw [HN.out]
        exact ⟨rfl, HW2⟩
      | true =>
        cases K : (k == 0) with
        | false =>
          have HN := Lib.hid (show nodeB nameP ⟨kd, n, d, nm, k⟩ len = false by simp_all [nodeB])
          go_enter Tryz.func127, Tryz.ntmps127
          go_wp2_with fail
          obtain ⟨w1, hw1⟩ : ∃ z9 : World, z9 = w.alloc (Obj.cells #[.int .i64 kd, .int .i64 n, .int .i64 d, .string nm, .int .i64 k, .slice A len cap] 29) := ⟨_, rfl⟩
          have HW1 := Lib.hid (show Below w.heap.size w w1 by rw [hw1]; exact below_box _ _)
          have F1 := Lib.hid (show Blk w1 w.heap.size 29 #[.int .i64 kd, .int .i64 n, .int .i64 d, .string nm, .int .i64 k, .slice A len cap] by rw [hw1]; exact Blk.new _ _ _)
          rw [← hw1]
          clear hw1
          refine (valid_q n d _ a3 a4 a5 a6).mono ?_
          rintro e w2 ⟨rfl, HB2⟩
          have F2 := Lib.hid (F1.out.belowW HB2.out)
          have HW2 := Lib.hid (HW1.out.trans (HB2.out.mono HW1.out.size))
          have pr0 : w2.cell? ⟨w.heap.size, 0, none⟩ = some (.int .i64 kd) := F2.out.cell 0
          have pr3 : w2.cell? ⟨w.heap.size, 3, none⟩ = some (.string nm) := F2.out.cell 3
          have pr4 : w2.cell? ⟨w.heap.size, 4, none⟩ = some (.int .i64 k) := F2.out.cell 4
          have pr5 : w2.cell? ⟨w.heap.size, 5, none⟩ = some (.slice A len cap) := F2.out.cell 5
          rw [show vB n d = true from V]
          go_wp2_with fail
          go_ret
          rw [HN.out]
          exact ⟨rfl, HW2⟩
        | true =>
          cases L0 : ((len : Int) == 0) with
          | false =>
            have HN := Lib.hid (show nodeB nameP ⟨kd, n, d, nm, k⟩ len = false by simp_all [nodeB])
            go_enter Tryz.func127, Tryz.ntmps127
            go_wp2_with fail
            obtain ⟨w1, hw1⟩ : ∃ z9 : World, z9 = w.alloc (Obj.cells #[.int .i64 kd, .int .i64 n, .int .i64 d, .string nm, .int .i64 k, .slice A len cap] 29) := ⟨_, rfl⟩
            have HW1 := Lib.hid (show Below w.heap.size w w1 by rw [hw1]; exact below_box _ _)
            have F1 := Lib.hid (show Blk w1 w.heap.size 29 #[.int .i64 kd, .int .i64 n, .int .i64 d, .string nm, .int .i64 k, .slice A len cap] by rw [hw1]; exact Blk.new _ _ _)
            rw [← hw1]
            clear hw1
            refine (valid_q n d _ a3 a4 a5 a6).mono ?_
            rintro e w2 ⟨rfl, HB2⟩
            have F2 := Lib.hid (F1.out.belowW HB2.out)
            have HW2 := Lib.hid (HW1.out.trans (HB2.out.mono HW1.out.size))
            have pr0 : w2.cell? ⟨w.heap.size, 0, none⟩ = some (.int .i64 kd) := F2.out.cell 0
            have pr3 : w2.cell? ⟨w.heap.size, 3, none⟩ = some (.string nm) := F2.out.cell 3
            have pr4 : w2.cell? ⟨w.heap.size, 4, none⟩ = some (.int .i64 k) := F2.out.cell 4
            have pr5 : w2.cell? ⟨w.heap.size, 5, none⟩ = some (.slice A len cap) := F2.out.cell 5
            rw [show vB n d = true from V]
            go_wp2_with fail
            go_ret
            rw [HN.out]
            exact ⟨rfl, HW2⟩
          | true =>
            have HN := Lib.hid (show nodeB nameP ⟨kd, n, d, nm, k⟩ len = true by simp_all [nodeB])
            go_enter Tryz.func127, Tryz.ntmps127
            go_wp2_with fail
            obtain ⟨w1, hw1⟩ : ∃ z9 : World, z9 = w.alloc (Obj.cells #[.int .i64 kd, .int .i64 n, .int .i64 d, .string nm, .int .i64 k, .slice A len cap] 29) := ⟨_, rfl⟩
            have HW1 := Lib.hid (show Below w.heap.size w w1 by rw [hw1]; exact below_box _ _)
            have F1 := Lib.hid (show Blk w1 w.heap.size 29 #[.int .i64 kd, .int .i64 n, .int .i64 d, .string nm, .int .i64 k, .slice A len cap] by rw [hw1]; exact Blk.new _ _ _)
            rw [← hw1]
            clear hw1
            refine (valid_q n d _ a3 a4 a5 a6).mono ?_
            rintro e w2 ⟨rfl, HB2⟩
            have F2 := Lib.hid (F1.out.belowW HB2.out)
            have HW2 := Lib.hid (HW1.out.trans (HB2.out.mono HW1.out.size))
            have pr0 : w2.cell? ⟨w.heap.size, 0, none⟩ = some (.int .i64 kd) := F2.out.cell 0
            have pr3 : w2.cell? ⟨w.heap.size, 3, none⟩ = some (.string nm) := F2.out.cell 3
            have pr4 : w2.cell? ⟨w.heap.size, 4, none⟩ = some (.int .i64 k) := F2.out.cell 4
            have pr5 : w2.cell? ⟨w.heap.size, 5, none⟩ = some (.slice A len cap) := F2.out.cell 5
            rw [show vB n d = true from V]
            go_wp2_with fail
            go_ret
            rw [HN.out]
            exact ⟨rfl, HW2⟩
  | false =>
    cases k2 : (kd == 2) with
    | true =>
      cases Z : ((n == 0) && (d == 0)) with
      | false =>
        have HN := Lib.hid (show nodeB nameP ⟨kd, n, d, nm, k⟩ len = false by simp_all [nodeB])
        have HNM := Lib.hid (fun w => name_any nm w a9)
        go_enter Tryz.func127, Tryz.ntmps127
        go_wp2_with fail
        go_ret
        rw [HN.out]
        exact ⟨rfl, Lib.hid (below_box _ _)⟩
      | true =>
        cases N : nameP nm.data.toList with
        | false =>
          have HN := Lib.hid (show nodeB nameP ⟨kd, n, d, nm, k⟩ len = false by simp_all [nodeB])
          have HNM := Lib.hid (fun w => name_any nm w a9)
          go_enter Tryz.func127, Tryz.ntmps127
          go_wp2_with fail
          refine (HNM.out _).mono ?_
          rintro e w2 ⟨rfl, rfl⟩
          rw [N]
          go_wp2_with fail
          go_ret
          rw [HN.out]
          exact ⟨rfl, Lib.hid (below_box _ _)⟩
        | true =>
          cases K : (k == 0) with
          | false =>
            have HN := Lib.hid (show nodeB nameP ⟨kd, n, d, nm, k⟩ len = false by simp_all [nodeB])
            have HNM := Lib.hid (fun w => name_any nm w a9)
            go_enter Tryz.func127, Tryz.ntmps127
            go_wp2_with fail
            refine (HNM.out _).mono ?_
            rintro e w2 ⟨rfl, rfl⟩
            rw [N]
            go_wp2_with fail
            go_ret
            rw [HN.out]
            exact ⟨rfl, Lib.hid (below_box _ _)⟩
          | true =>
            cases L0 : ((len : Int) == 0) with
            | false =>
              have HN := Lib.hid (show nodeB nameP ⟨kd, n, d, nm, k⟩ len = false by simp_all [nodeB])
              have HNM := Lib.hid (fun w => name_any nm w a9)
              go_enter Tryz.func127, Tryz.ntmps127
              go_wp2_with fail
              refine (HNM.out _).mono ?_
              rintro e w2 ⟨rfl, rfl⟩
              rw [N]
              go_wp2_with fail
              go_ret
              rw [HN.out]
              exact ⟨rfl, Lib.hid (below_box _ _)⟩
            | true =>
              have HN := Lib.hid (show nodeB nameP ⟨kd, n, d, nm, k⟩ len = true by simp_all [nodeB])
              have HNM := Lib.hid (fun w => name_any nm w a9)
              go_enter Tryz.func127, Tryz.ntmps127
              go_wp2_with fail
              refine (HNM.out _).mono ?_
              rintro e w2 ⟨rfl, rfl⟩
              rw [N]
              go_wp2_with fail
              go_ret
              rw [HN.out]
              exact ⟨rfl, Lib.hid (below_box _ _)⟩
    | false =>
      cases k8 : (kd == 8) with
      | true =>
        cases Z : ((n == 0) && (d == 0)) with
        | false =>
          have HN := Lib.hid (show nodeB nameP ⟨kd, n, d, nm, k⟩ len = false by simp_all [nodeB])
          go_enter Tryz.func127, Tryz.ntmps127
          go_wp2_with fail
          go_ret
          rw [HN.out]
          exact ⟨rfl, Lib.hid (below_box _ _)⟩
        | true =>
          cases E : nm.toList.isEmpty with
          | false =>
            have HN := Lib.hid (show nodeB nameP ⟨kd, n, d, nm, k⟩ len = false by simp_all [nodeB])
            go_enter Tryz.func127, Tryz.ntmps127
            go_wp2_with fail
            go_ret
            rw [HN.out]
            exact ⟨rfl, Lib.hid (below_box _ _)⟩
          | true =>
            cases G : decide (0 ≤ k) with
            | false =>
              have HN := Lib.hid (show nodeB nameP ⟨kd, n, d, nm, k⟩ len = false by simp_all [nodeB]; omega)
              go_enter Tryz.func127, Tryz.ntmps127
              go_wp2_with fail
              go_ret
              rw [HN.out]
              exact ⟨rfl, Lib.hid (below_box _ _)⟩
            | true =>
              cases J : decide (k ≤ 16) with
              | false =>
                have HN := Lib.hid (show nodeB nameP ⟨kd, n, d, nm, k⟩ len = false by simp_all [nodeB]; omega)
                go_enter Tryz.func127, Tryz.ntmps127
                go_wp2_with fail
                go_ret
                rw [HN.out]
                exact ⟨rfl, Lib.hid (below_box _ _)⟩
              | true =>
                cases L1 : ((len : Int) == 1) with
                | false =>
                  have HN := Lib.hid (show nodeB nameP ⟨kd, n, d, nm, k⟩ len = false by simp_all [nodeB])
                  go_enter Tryz.func127, Tryz.ntmps127
                  go_wp2_with fail
                  go_ret
                  rw [HN.out]
                  exact ⟨rfl, Lib.hid (below_box _ _)⟩
                | true =>
                  have HN := Lib.hid (show nodeB nameP ⟨kd, n, d, nm, k⟩ len = true by simp_all [nodeB])
                  go_enter Tryz.func127, Tryz.ntmps127
                  go_wp2_with fail
                  go_ret
                  rw [HN.out]
                  exact ⟨rfl, Lib.hid (below_box _ _)⟩
      | false =>
        cases Z : ((n == 0) && (d == 0)) with
        | false =>
          have HN := Lib.hid (show nodeB nameP ⟨kd, n, d, nm, k⟩ len = false by simp_all [nodeB])
          go_enter Tryz.func127, Tryz.ntmps127
          go_wp2_with fail
          go_quiet (fail)
          go_wp2_with fail
          go_ret
          rw [HN.out]
          exact ⟨rfl, Lib.hid (below_drewN (below_box _ _) _)⟩
        | true =>
          cases E : nm.toList.isEmpty with
          | false =>
            have HN := Lib.hid (show nodeB nameP ⟨kd, n, d, nm, k⟩ len = false by simp_all [nodeB])
            go_enter Tryz.func127, Tryz.ntmps127
            go_wp2_with fail
            go_quiet (fail)
            go_wp2_with fail
            go_ret
            rw [HN.out]
            exact ⟨rfl, Lib.hid (below_drewN (below_box _ _) _)⟩
          | true =>
            cases K : (k == 0) with
            | false =>
              have HN := Lib.hid (show nodeB nameP ⟨kd, n, d, nm, k⟩ len = false by simp_all [nodeB])
              go_enter Tryz.func127, Tryz.ntmps127
              go_wp2_with fail
              go_quiet (fail)
              go_wp2_with fail
              go_ret
              rw [HN.out]
              exact ⟨rfl, Lib.hid (below_drewN (below_box _ _) _)⟩
            | true =>
              cases LO : ((len : Int) == opsK kd) with
              | false =>
                have HN := Lib.hid (show nodeB nameP ⟨kd, n, d, nm, k⟩ len = false by simp_all [nodeB])
                go_enter Tryz.func127, Tryz.ntmps127
                go_wp2_with fail
                go_quiet ((go_at_call 160; exact Calls.quiet_of_same ((operands_any _ _).mono fun e w' h => ⟨h.1, h.2.symm⟩)))
                go_wp2_with fail
                go_ret
                rw [HN.out]
                exact ⟨rfl, Lib.hid (below_drewN (below_box _ _) _)⟩
              | true =>
                have HN := Lib.hid (show nodeB nameP ⟨kd, n, d, nm, k⟩ len = true by simp_all [nodeB])
                go_enter Tryz.func127, Tryz.ntmps127
                go_wp2_with fail
                go_quiet ((go_at_call 160; exact Calls.quiet_of_same ((operands_any _ _).mono fun e w' h => ⟨h.1, h.2.symm⟩)))
                go_wp2_with fail
                go_ret
                rw [HN.out]
                exact ⟨rfl, Lib.hid (below_drewN (below_box _ _) _)⟩
end Go.Proofs.YtkjoohnndobjeaaGreatDoor
namespace Go.Proofs.YtkjoohnndobjeaaGreatDoor
open Go.RowKit Go.Fl Go.Fl.Fm Go.Fl.Rt
def cR (f : Nat) (T : TE) : Nat := cntR nameP f T
theorem cR_succ (f : Nat) (T : TE) : cR (f + 1) T = if nodeB nameP T.h T.l.length = true then goR (cR f) T.l 1 else 1048576 := rfl
theorem drop_get {α : Type} [Inhabited α] (l : List α) (j : Nat) (h : j < l.length) : l.drop j = l.getD j default :: l.drop (j + 1) := by
  rw [List.drop_eq_getElem_cons h, List.getD_eq_getElem?_getD, List.getElem?_eq_getElem h]
  rfl
def cP (f : Nat) (T : TE) (m : Nat) : Bool × Nat := cntP nameP f T m
theorem cP_succ (f : Nat) (T : TE) (m : Nat) : cP (f + 1) T m = if m + 1 ≤ 200 ∧ nodeB nameP T.h T.l.length = true then goP (cP f) T.l (m + 1) else (false, m + 1) := rfl
theorem cP_le (f : Nat) (T : TE) (m : Nat) (h : m ≤ 200) : (cP f T m).2 ≤ 201 ∧ ((cP f T m).1 = true → (cP f T m).2 ≤ 200) := cntP_le nameP f T m h
theorem grown_trans {a b c : World} {r : Option Nat} (h : a.grownBy b r) (h2 : b.grownBy c r) : a.grownBy c r :=
  ⟨h2.os.trans h.os, h2.tape.trans h.tape, h2.output.trans h.output, Nat.le_trans h.size h2.size, fun k hk hr => (h2.block k (Nat.lt_of_lt_of_le hk h.size) hr).trans (h.block k hk hr)⟩
theorem grown_below {a b : World} (r : Option Nat) (h : Below a.heap.size a b) : a.grownBy b r := ⟨h.os, h.tape, h.output, h.size, fun k hk _ => h.block k hk⟩
/-- What a count answers: a Bool, and the counter in block g. -/
def CntE (r : Bool × Nat) (g : Nat) (w : World) (e : Ending) (w' : World) : Prop :=
  e = .returned (.bool r.1) ∧ Hid (w.grownBy w' (some g)) ∧ Hid (Blk w' g 3 #[.int .i64 (r.2 : Nat)])
/-- The count's contract at so many levels. -/
def CntAt (f : Nat) : Prop := ∀ (T : TE) (v : Nd) (w0 w : World) (g m : Nat), InE w0 T v → Below w0.heap.size w0 w → w0.heap.size ≤ g → Blk w g 3 #[.int .i64 (m : Int)] → m ≤ 200 → f ≤ 20 →
  Calls Tryz.prog 94 #[v.val, .int .i64 (21 - (f : Int)), .pointer (some ⟨g, 0, none⟩)] w (CntE (cP f T m) g w)

set_option maxHeartbeats 4000000 in
set_option maxRecDepth 100000 in
theorem cnt1_p (f : Nat) (ih : CntAt f) (T : TE) (v : Nd) (w0 w : World) (g m bd bp : Nat) (hin : InE w0 T v) (hb : Below w0.heap.size w0 w) (hg : w0.heap.size ≤ g) (hB : Blk w g 3 #[.int .i64 (m : Int)]) (hm : m ≤ 200) (hf : f ≤ 19)
    (hd : Blk w bd 3 #[.int .i64 (20 - (f : Int))]) (hp : Blk w bp 144 #[.pointer (some ⟨g, 0, none⟩)]) :
    Calls Tryz.prog 129 #[v.val, .pointer (some ⟨bd, 0, none⟩), .pointer (some ⟨bp, 0, none⟩)] w (CntE (!(cP f T m).1, (cP f T m).2) g w) := by
  have HIN := Lib.hid hin
  have HBW := Lib.hid hb
  have HB := Lib.hid hB
  have HD := Lib.hid hd
  have HP := Lib.hid hp
  have IH := Lib.hid ih
  clear hin hb hB hd hp ih
  obtain ⟨⟨kd, n, d, nm, k⟩, A, len, cap⟩ := v
  obtain ⟨D, hD⟩ : ∃ D : Int, D = 20 - (f : Int) := ⟨_, rfl⟩
  rw [← hD] at HD
  have hD1 : 1 ≤ D ∧ D ≤ 20 := by omega
  have hD2 : D + 1 = 21 - (f : Int) := by omega
  have HD2 := Lib.hid hD2
  clear hD hD2
  simp only [Nd.val]
  go_enter Tryz.func129, Tryz.ntmps129
  go_upto_region 1 with (fail)
  obtain ⟨w1, hw1⟩ : ∃ z9 : World, z9 = w.alloc (Obj.cells #[.int .i64 kd, .int .i64 n, .int .i64 d, .string nm, .int .i64 k, .slice A len cap] 29) := ⟨_, rfl⟩
  have HW1 := Lib.hid (show Below w.heap.size w w1 by rw [hw1]; exact below_box _ _)
  have F1 := Lib.hid (show Blk w1 w.heap.size 29 #[.int .i64 kd, .int .i64 n, .int .i64 d, .string nm, .int .i64 k, .slice A len cap] by rw [hw1]; exact Blk.new _ _ _)
  rw [← hw1]
  clear hw1
  have HD1 := Lib.hid (HD.out.belowW HW1.out)
  have HP1 := Lib.hid (HP.out.belowW HW1.out)
  have HB1 := Lib.hid (HB.out.belowW HW1.out)
  have pr0 : w1.cell? ⟨w.heap.size, 0, none⟩ = some (.int .i64 kd) := F1.out.cell 0
  have pr1 : w1.cell? ⟨w.heap.size, 1, none⟩ = some (.int .i64 n) := F1.out.cell 1
  have pr2 : w1.cell? ⟨w.heap.size, 2, none⟩ = some (.int .i64 d) := F1.out.cell 2
  have pr3 : w1.cell? ⟨w.heap.size, 3, none⟩ = some (.string nm) := F1.out.cell 3
  have pr4 : w1.cell? ⟨w.heap.size, 4, none⟩ = some (.int .i64 k) := F1.out.cell 4
  have pr5 : w1.cell? ⟨w.heap.size, 5, none⟩ = some (.slice A len cap) := F1.out.cell 5
  have pd : w1.cell? ⟨bd, 0, none⟩ = some (.int .i64 D) := HD1.out.cell 0
  have pp : w1.cell? ⟨bp, 0, none⟩ = some (.pointer (some ⟨g, 0, none⟩)) := HP1.out.cell 0
  have K := Lib.hid (IH.out T ⟨⟨kd, n, d, nm, k⟩, A, len, cap⟩ w0 w1 g m HIN.out (HBW.out.trans (HW1.out.mono HBW.out.size)) hg HB1.out hm (by omega))
  rw [← HD2.out] at K
  clear pr0 pr1 pr2 pr3 pr4
  have pr0 : w1.cell? ⟨w.heap.size, 0, none⟩ = some (.int .i64 kd) := F1.out.cell 0
  have pr1 : w1.cell? ⟨w.heap.size, 1, none⟩ = some (.int .i64 n) := F1.out.cell 1
  have pr2 : w1.cell? ⟨w.heap.size, 2, none⟩ = some (.int .i64 d) := F1.out.cell 2
  have pr3 : w1.cell? ⟨w.heap.size, 3, none⟩ = some (.string nm) := F1.out.cell 3
  have pr4 : w1.cell? ⟨w.heap.size, 4, none⟩ = some (.int .i64 k) := F1.out.cell 4
  go_wp2_with fail
  refine K.out.mono ?_
  rintro e w5 ⟨rfl, HG5, HB5⟩
  go_wp2_with fail
  go_ret
  exact ⟨rfl, Lib.hid (grown_trans (grown_below _ HW1.out) HG5.out), HB5⟩

set_option maxHeartbeats 4000000 in
set_option maxRecDepth 100000 in
/-- slices.IndexFunc at the count's closure. -/
theorem idx_p (f : Nat) (ih : CntAt f) (T : TE) (v : Nd) (w0 w : World) (g m bd bp : Nat) (hin : InE w0 T v) (hb : Below w0.heap.size w0 w) (hg : w0.heap.size ≤ g) (hB : Blk w g 3 #[.int .i64 (m : Int)]) (hm : m ≤ 200) (hf : f ≤ 19)
    (hd : Blk w bd 3 #[.int .i64 (20 - (f : Int))]) (hp : Blk w bp 144 #[.pointer (some ⟨g, 0, none⟩)]) (hgd : g ≠ bd) (hgp : g ≠ bp) :
    Calls Tryz.prog 161 #[.slice v.A v.len v.cap, .func (.func 129) #[] #[.pointer (some ⟨bd, 0, none⟩), .pointer (some ⟨bp, 0, none⟩)]] w
      fun e w' => ∃ r : Int, e = .returned (.int .i64 r) ∧ Hid (decide (0 ≤ r) = !(goP (cP f) T.l m).1) ∧ Hid (w.grownBy w' (some g)) ∧ Hid (Blk w' g 3 #[.int .i64 ((goP (cP f) T.l m).2 : Nat)]) := by
  have HIN := Lib.hid hin
  have HBW := Lib.hid hb
  have HB := Lib.hid hB
  have HD := Lib.hid hd
  have HP := Lib.hid hp
  have IH := Lib.hid ih
  have HLN := Lib.hid hin.length
  have HCM := Lib.hid (Nat.le_trans hin.caps.1 hin.caps.2)
  clear hin hb hB hd hp ih
  obtain ⟨⟨kd, n, d, nm, k⟩, A, len, cap⟩ := v
  simp only at HLN HCM
  obtain ⟨⟨R1, R2⟩, hR⟩ : ∃ r, goP (cP f) T.l m = r := ⟨_, rfl⟩
  rw [hR]
  have HR := Lib.hid hR
  clear hR
  go_enter Tryz.func161, Tryz.ntmps161
  go_wp2_with fail
  go_loopg [8] len (fun gg iv wr => ∃ (j mj : Nat), iv = .int .i64 j ∧ j ≤ len ∧ gg = len - j ∧ mj ≤ 200 ∧ Hid (goP (cP f) (T.l.drop j) mj = (R1, R2)) ∧ Hid (w.grownBy wr (some g)) ∧ Hid (Blk wr g 3 #[.int .i64 (mj : Int)]))
  case atStart => exact ⟨0, m, rfl, by omega, by omega, hm, HR, Lib.hid (World.grownBy.refl _ _), HB⟩
  case round =>
    obtain ⟨j, mj, rfl, hj, rfl, hmj, HG, HL, HBR⟩ := hrel
    have HWR := Lib.hid (HBW.out.grown HL.out HBW.out.size (fun k hk => by injection hk with hk; omega))
    have HDR := Lib.hid (HD.out.grown HL.out (by intro e; injection e with e; omega))
    have HPR := Lib.hid (HP.out.grown HL.out (by intro e; injection e with e; omega))
    by_cases hjl : j < len
    · obtain ⟨b, o, x, hA, hbl, hx, hcell⟩ := HIN.out.at_ j hjl
      simp only at hA
      subst hA
      have HX := Lib.hid hx
      have q0 : wr.cell? ⟨b, o + j * 6, none⟩ = some (.int .i64 x.h.kind) := (HWR.out.cell (p := ⟨b, _, none⟩) hbl).trans (hcell 0 _ rfl (by omega))
      have q1 : wr.cell? ⟨b, o + j * 6 + 1, none⟩ = some (.int .i64 x.h.n) := (HWR.out.cell (p := ⟨b, _, none⟩) hbl).trans (hcell 1 _ rfl (by omega))
      have q2 : wr.cell? ⟨b, o + j * 6 + 2, none⟩ = some (.int .i64 x.h.d) := (HWR.out.cell (p := ⟨b, _, none⟩) hbl).trans (hcell 2 _ rfl (by omega))
      have q3 : wr.cell? ⟨b, o + j * 6 + 3, none⟩ = some (.string x.h.name) := (HWR.out.cell (p := ⟨b, _, none⟩) hbl).trans (hcell 3 _ rfl (by omega))
      have q4 : wr.cell? ⟨b, o + j * 6 + 4, none⟩ = some (.int .i64 x.h.k) := (HWR.out.cell (p := ⟨b, _, none⟩) hbl).trans (hcell 4 _ rfl (by omega))
      have q5 : wr.cell? ⟨b, o + j * 6 + 5, none⟩ = some (.slice x.A x.len x.cap) := (HWR.out.cell (p := ⟨b, _, none⟩) hbl).trans (hcell 5 _ rfl (by omega))
      have n1 : decide (j < len) = true := decide_eq_true hjl
      have hlm : len ≤ 9223372036854775807 := by have := HCM.out; unfold maxLen at this; omega
      have K := Lib.hid (cnt1_p f IH.out _ x w0 wr g mj bd bp HX.out HWR.out hg HBR.out hmj hf HDR.out HPR.out)
      have HLE := Lib.hid (cP_le f (T.l.getD j default) mj hmj)
      have HG2 := Lib.hid (show (if (cP f (T.l.getD j default) mj).1 = true then goP (cP f) (T.l.drop (j + 1)) (cP f (T.l.getD j default) mj).2 else (false, (cP f (T.l.getD j default) mj).2)) = (R1, R2) by
        have h := HG.out
        rw [drop_get T.l j (by rw [HLN.out]; exact hjl)] at h
        unfold goP at h
        exact h)
      obtain ⟨⟨r1, r2⟩, hr⟩ : ∃ r, cP f (T.l.getD j default) mj = r := ⟨_, rfl⟩
      rw [hr] at HLE HG2 K
      clear hx hcell hr hbl HG
      cases r1 with
      | true =>
        have hr2 : r2 ≤ 200 := HLE.out.2 rfl
        have HG3 := Lib.hid (show goP (cP f) (T.l.drop (j + 1)) r2 = (R1, R2) from HG2.out)
        go_wp2_with fail
        refine K.out.mono ?_
        rintro e w5 ⟨rfl, HG5, HB5⟩
        go_wp2_with fail
        go_roundg (len - (j + 1))
        case measure => omega
        case rel => exact ⟨j + 1, r2, by go_num, by omega, rfl, hr2, HG3, Lib.hid (grown_trans HL.out HG5.out), HB5⟩
      | false =>
        have HG3 := Lib.hid (show (false, r2) = (R1, R2) from HG2.out)
        go_wp2_with fail
        refine K.out.mono ?_
        rintro e w5 ⟨rfl, HG5, HB5⟩
        go_wp2_with fail
        go_ret
        obtain ⟨h1, h2⟩ := Prod.mk.inj HG3.out
        exact ⟨j, rfl, Lib.hid (by rw [← h1]; simp), Lib.hid (grown_trans HL.out HG5.out), by rw [← h2]; exact HB5⟩
    · have HG3 := Lib.hid (show (true, mj) = (R1, R2) by
        have h := HG.out
        rw [List.drop_eq_nil_of_le (by rw [HLN.out]; omega)] at h
        exact h)
      have n1 : decide (j < len) = false := decide_eq_false hjl
      go_wp2_with fail
      go_ret
      obtain ⟨h1, h2⟩ := Prod.mk.inj HG3.out
      exact ⟨-1, rfl, Lib.hid (by rw [← h1]; rfl), HL, by rw [← h2]; exact HBR⟩

set_option maxHeartbeats 1000000 in
theorem has_p (f : Nat) (ih : CntAt f) (T : TE) (v : Nd) (w0 w : World) (g m bd bp : Nat) (hin : InE w0 T v) (hb : Below w0.heap.size w0 w) (hg : w0.heap.size ≤ g) (hB : Blk w g 3 #[.int .i64 (m : Int)]) (hm : m ≤ 200) (hf : f ≤ 19)
    (hd : Blk w bd 3 #[.int .i64 (20 - (f : Int))]) (hp : Blk w bp 144 #[.pointer (some ⟨g, 0, none⟩)]) (hgd : g ≠ bd) (hgp : g ≠ bp) :
    Calls Tryz.prog 128 #[.slice v.A v.len v.cap, .func (.func 129) #[] #[.pointer (some ⟨bd, 0, none⟩), .pointer (some ⟨bp, 0, none⟩)]] w
      fun e w' => e = .returned (.bool (!(goP (cP f) T.l m).1)) ∧ Hid (w.grownBy w' (some g)) ∧ Hid (Blk w' g 3 #[.int .i64 ((goP (cP f) T.l m).2 : Nat)]) := by
  have K := Lib.hid (idx_p f ih T v w0 w g m bd bp hin hb hg hB hm hf hd hp hgd hgp)
  clear hin hb hB hd hp ih hgd hgp
  obtain ⟨R, hR⟩ : ∃ R, R = goP (cP f) T.l m := ⟨_, rfl⟩
  rw [← hR] at K ⊢
  clear hR
  go_enter Tryz.func128, Tryz.ntmps128
  go_wp2_with fail
  refine K.out.mono ?_
  rintro e w2 ⟨r, rfl, HR, HG, HB⟩
  go_wp2_with fail
  go_ret
  exact ⟨ret_bool HR.out, HG, HB⟩

theorem boxes3 (w : World) (c : Array Value) (t : TypeId) (D : Value) (t2 : TypeId) (p : Value) (t3 : TypeId) (w1 : World) (h : w1 = ((w.alloc (Obj.cells c t)).alloc (Obj.cells #[D] t2)).alloc (Obj.cells #[p] t3)) :
    Below w.heap.size w w1 ∧ Blk w1 w.heap.size t c ∧ Blk w1 (w.heap.size + 1) t2 #[D] ∧ Blk w1 (w.heap.size + 1 + 1) t3 #[p] := by
  subst h
  have s1 : (w.alloc (Obj.cells c t)).heap.size = w.heap.size + 1 := World.size_alloc _ _
  have s2 : ((w.alloc (Obj.cells c t)).alloc (Obj.cells #[D] t2)).heap.size = w.heap.size + 1 + 1 := by rw [World.size_alloc, s1]
  refine ⟨(((Below.refl _ _).alloc (Nat.le_refl _) _).alloc (by rw [s1]; omega) _).alloc (by rw [s2]; omega) _, ((Blk.new w t c).alloc _).alloc _, ?_, ?_⟩
  · have := (Blk.new (w.alloc (Obj.cells c t)) t2 #[D]).alloc (Obj.cells #[p] t3)
    rwa [s1] at this
  · have := Blk.new ((w.alloc (Obj.cells c t)).alloc (Obj.cells #[D] t2)) t3 #[p]
    rwa [s2] at this

set_option maxHeartbeats 8000000 in
set_option maxRecDepth 100000 in
theorem count_at : ∀ f, CntAt f := by
  intro f
  induction f with
  | zero =>
    intro T v w0 w g m hin hb hg hB hm hf
    have HB := Lib.hid hB
    clear hin hb hB
    have e0 : cP 0 T m = (false, m + 1) := rfl
    rw [e0]
    rw [show (21 : Int) - ((0 : Nat) : Int) = 21 by rfl]
    obtain ⟨⟨kd, n, d, nm, k⟩, A, len, cap⟩ := v
    simp only [Nd.val]
    have hgw : g < w.heap.size := HB.out.lt
    go_enter Tryz.func94, Tryz.ntmps94
    go_upto_region 1 with (fail)
    obtain ⟨w1, hw1⟩ : ∃ z9 : World, z9 = ((w.alloc (Obj.cells #[.int .i64 kd, .int .i64 n, .int .i64 d, .string nm, .int .i64 k, .slice A len cap] 29)).alloc (Obj.cells #[.int .i64 21] 3)).alloc (Obj.cells #[.pointer (some ⟨g, 0, none⟩)] 144) := ⟨_, rfl⟩
    obtain ⟨bw1, f1, d1, p1⟩ := boxes3 _ _ _ _ _ _ _ _ hw1
    rw [← hw1]
    clear hw1
    have HW1 := Lib.hid bw1
    have F1 := Lib.hid f1
    have D1 := Lib.hid d1
    have P1 := Lib.hid p1
    have HB1 := Lib.hid (HB.out.belowW bw1)
    clear bw1 f1 d1 p1
    have pp : w1.cell? ⟨w.heap.size + 1 + 1, 0, none⟩ = some (.pointer (some ⟨g, 0, none⟩)) := P1.out.cell 0
    have pg : w1.cell? ⟨g, 0, none⟩ = some (.int .i64 m) := HB1.out.cell 0
    have fg : w1.frozen? ⟨g, 0, none⟩ = false := HB1.out.frozen 0
    go_upto_region 2 with (fail)
    rw [HB1.out.setCell_eq]
    obtain ⟨w2, hw2⟩ : ∃ z9 : World, z9 = putB w1 g 3 (#[Value.int .i64 (m : Int)].setIfInBounds 0 (.int .i64 ((m : Int) + 1))) := ⟨_, rfl⟩
    have HG2 := Lib.hid (show w.grownBy w2 (some g) by rw [hw2]; exact grown_trans (grown_below _ HW1.out) (putB_grown _ _ _ _))
    have HW12 := Lib.hid (show w1.grownBy w2 (some g) by rw [hw2]; exact putB_grown _ _ _ _)
    have B2 := Lib.hid (show Blk w2 g 3 #[.int .i64 ((m + 1 : Nat) : Int)] by rw [hw2]; exact HB1.out.put _)
    rw [← hw2]
    clear hw2 pp pg fg
    have F2 := Lib.hid (F1.out.grown HW12.out (by intro e; injection e with e; omega))
    have D2 := Lib.hid (D1.out.grown HW12.out (by intro e; injection e with e; omega))
    have P2 := Lib.hid (P1.out.grown HW12.out (by intro e; injection e with e; omega))
    have pp : w2.cell? ⟨w.heap.size + 1 + 1, 0, none⟩ = some (.pointer (some ⟨g, 0, none⟩)) := P2.out.cell 0
    have pd : w2.cell? ⟨w.heap.size + 1, 0, none⟩ = some (.int .i64 21) := D2.out.cell 0
    have pg : w2.cell? ⟨g, 0, none⟩ = some (.int .i64 ((m : Int) + 1)) := B2.out.cell 0
    have pr0 : w2.cell? ⟨w.heap.size, 0, none⟩ = some (.int .i64 kd) := F2.out.cell 0
    have pr1 : w2.cell? ⟨w.heap.size, 1, none⟩ = some (.int .i64 n) := F2.out.cell 1
    have pr2 : w2.cell? ⟨w.heap.size, 2, none⟩ = some (.int .i64 d) := F2.out.cell 2
    have pr3 : w2.cell? ⟨w.heap.size, 3, none⟩ = some (.string nm) := F2.out.cell 3
    have pr4 : w2.cell? ⟨w.heap.size, 4, none⟩ = some (.int .i64 k) := F2.out.cell 4
    have pr5 : w2.cell? ⟨w.heap.size, 5, none⟩ = some (.slice A len cap) := F2.out.cell 5
    go_wp2_with fail
    go_ret
    exact ⟨rfl, HG2, B2⟩
  | succ f ih =>
    intro T v w0 w g m hin hb hg hB hm hf
    have HB := Lib.hid hB
    have HIN := Lib.hid hin
    have HBW := Lib.hid hb
    have HOK := Lib.hid hin.ok
    have HC := Lib.hid (show cP (f + 1) T m = if m + 1 ≤ 200 ∧ nodeB nameP v.h v.len = true then goP (cP f) T.l (m + 1) else (false, m + 1) by rw [cP_succ, hin.hd, hin.length])
    have IH := Lib.hid ih
    obtain ⟨C, hC⟩ : ∃ C, C = cP (f + 1) T m := ⟨_, rfl⟩
    rw [← hC] at HC ⊢
    obtain ⟨D, hD⟩ : ∃ D : Int, D = 21 - ((f + 1 : Nat) : Int) := ⟨_, rfl⟩
    rw [← hD]
    have HD := Lib.hid (show D = 20 - (f : Int) by omega)
    have hD1 : 1 ≤ D ∧ D ≤ 20 := by omega
    have hd20 : decide (20 < D) = false := decide_eq_false (by omega)
    clear hin hb hB ih hC hD
    by_cases h2 : m + 1 ≤ 200
    case neg =>
      have HC2 := Lib.hid (show C = (false, m + 1) by rw [HC.out, if_neg (fun h => h2 h.1)])
      have hm2 : decide ((200 : Int) < (m : Int) + 1) = true := decide_eq_true (by omega)
      obtain ⟨⟨kd, n, d, nm, k⟩, A, len, cap⟩ := v
      simp only [Nd.val]
      have hgw : g < w.heap.size := HB.out.lt
      go_enter Tryz.func94, Tryz.ntmps94
      go_upto_region 1 with (fail)
      obtain ⟨w1, hw1⟩ : ∃ z9 : World, z9 = ((w.alloc (Obj.cells #[.int .i64 kd, .int .i64 n, .int .i64 d, .string nm, .int .i64 k, .slice A len cap] 29)).alloc (Obj.cells #[.int .i64 D] 3)).alloc (Obj.cells #[.pointer (some ⟨g, 0, none⟩)] 144) := ⟨_, rfl⟩
      obtain ⟨bw1, f1, d1, p1⟩ := boxes3 _ _ _ _ _ _ _ _ hw1
      rw [← hw1]
      clear hw1
      have HW1 := Lib.hid bw1
      have F1 := Lib.hid f1
      have D1 := Lib.hid d1
      have P1 := Lib.hid p1
      have HB1 := Lib.hid (HB.out.belowW bw1)
      clear bw1 f1 d1 p1
      have pp : w1.cell? ⟨w.heap.size + 1 + 1, 0, none⟩ = some (.pointer (some ⟨g, 0, none⟩)) := P1.out.cell 0
      have pg : w1.cell? ⟨g, 0, none⟩ = some (.int .i64 m) := HB1.out.cell 0
      have fg : w1.frozen? ⟨g, 0, none⟩ = false := HB1.out.frozen 0
      go_upto_region 2 with (fail)
      rw [HB1.out.setCell_eq]
      obtain ⟨w2, hw2⟩ : ∃ z9 : World, z9 = putB w1 g 3 (#[Value.int .i64 (m : Int)].setIfInBounds 0 (.int .i64 ((m : Int) + 1))) := ⟨_, rfl⟩
      have HG2 := Lib.hid (show w.grownBy w2 (some g) by rw [hw2]; exact grown_trans (grown_below _ HW1.out) (putB_grown _ _ _ _))
      have HW12 := Lib.hid (show w1.grownBy w2 (some g) by rw [hw2]; exact putB_grown _ _ _ _)
      have B2 := Lib.hid (show Blk w2 g 3 #[.int .i64 ((m + 1 : Nat) : Int)] by rw [hw2]; exact HB1.out.put _)
      rw [← hw2]
      clear hw2 pp pg fg
      have F2 := Lib.hid (F1.out.grown HW12.out (by intro e; injection e with e; omega))
      have D2 := Lib.hid (D1.out.grown HW12.out (by intro e; injection e with e; omega))
      have P2 := Lib.hid (P1.out.grown HW12.out (by intro e; injection e with e; omega))
      have pp : w2.cell? ⟨w.heap.size + 1 + 1, 0, none⟩ = some (.pointer (some ⟨g, 0, none⟩)) := P2.out.cell 0
      have pd : w2.cell? ⟨w.heap.size + 1, 0, none⟩ = some (.int .i64 D) := D2.out.cell 0
      have pg : w2.cell? ⟨g, 0, none⟩ = some (.int .i64 ((m : Int) + 1)) := B2.out.cell 0
      have pr0 : w2.cell? ⟨w.heap.size, 0, none⟩ = some (.int .i64 kd) := F2.out.cell 0
      have pr1 : w2.cell? ⟨w.heap.size, 1, none⟩ = some (.int .i64 n) := F2.out.cell 1
      have pr2 : w2.cell? ⟨w.heap.size, 2, none⟩ = some (.int .i64 d) := F2.out.cell 2
      have pr3 : w2.cell? ⟨w.heap.size, 3, none⟩ = some (.string nm) := F2.out.cell 3
      have pr4 : w2.cell? ⟨w.heap.size, 4, none⟩ = some (.int .i64 k) := F2.out.cell 4
      have pr5 : w2.cell? ⟨w.heap.size, 5, none⟩ = some (.slice A len cap) := F2.out.cell 5
      go_wp2_with fail
      go_ret
      rw [HC2.out]
      exact ⟨rfl, HG2, B2⟩
    case pos =>
      have hm2 : decide ((200 : Int) < (m : Int) + 1) = false := decide_eq_false (by omega)
      cases hnd : nodeB nameP v.h v.len with
      | false =>
        have HC2 := Lib.hid (show C = (false, m + 1) by rw [HC.out, hnd, if_neg (by simp)])
        have HND := Lib.hid hnd
        clear hnd
        obtain ⟨⟨kd, n, d, nm, k⟩, A, len, cap⟩ := v
        simp only [Nd.val]
        have hgw : g < w.heap.size := HB.out.lt
        go_enter Tryz.func94, Tryz.ntmps94
        go_upto_region 1 with (fail)
        obtain ⟨w1, hw1⟩ : ∃ z9 : World, z9 = ((w.alloc (Obj.cells #[.int .i64 kd, .int .i64 n, .int .i64 d, .string nm, .int .i64 k, .slice A len cap] 29)).alloc (Obj.cells #[.int .i64 D] 3)).alloc (Obj.cells #[.pointer (some ⟨g, 0, none⟩)] 144) := ⟨_, rfl⟩
        obtain ⟨bw1, f1, d1, p1⟩ := boxes3 _ _ _ _ _ _ _ _ hw1
        rw [← hw1]
        clear hw1
        have HW1 := Lib.hid bw1
        have F1 := Lib.hid f1
        have D1 := Lib.hid d1
        have P1 := Lib.hid p1
        have HB1 := Lib.hid (HB.out.belowW bw1)
        clear bw1 f1 d1 p1
        have pp : w1.cell? ⟨w.heap.size + 1 + 1, 0, none⟩ = some (.pointer (some ⟨g, 0, none⟩)) := P1.out.cell 0
        have pg : w1.cell? ⟨g, 0, none⟩ = some (.int .i64 m) := HB1.out.cell 0
        have fg : w1.frozen? ⟨g, 0, none⟩ = false := HB1.out.frozen 0
        go_upto_region 2 with (fail)
        rw [HB1.out.setCell_eq]
        obtain ⟨w2, hw2⟩ : ∃ z9 : World, z9 = putB w1 g 3 (#[Value.int .i64 (m : Int)].setIfInBounds 0 (.int .i64 ((m : Int) + 1))) := ⟨_, rfl⟩
        have HG2 := Lib.hid (show w.grownBy w2 (some g) by rw [hw2]; exact grown_trans (grown_below _ HW1.out) (putB_grown _ _ _ _))
        have HW12 := Lib.hid (show w1.grownBy w2 (some g) by rw [hw2]; exact putB_grown _ _ _ _)
        have B2 := Lib.hid (show Blk w2 g 3 #[.int .i64 ((m + 1 : Nat) : Int)] by rw [hw2]; exact HB1.out.put _)
        rw [← hw2]
        clear hw2 pp pg fg
        have F2 := Lib.hid (F1.out.grown HW12.out (by intro e; injection e with e; omega))
        have D2 := Lib.hid (D1.out.grown HW12.out (by intro e; injection e with e; omega))
        have P2 := Lib.hid (P1.out.grown HW12.out (by intro e; injection e with e; omega))
        have pp : w2.cell? ⟨w.heap.size + 1 + 1, 0, none⟩ = some (.pointer (some ⟨g, 0, none⟩)) := P2.out.cell 0
        have pd : w2.cell? ⟨w.heap.size + 1, 0, none⟩ = some (.int .i64 D) := D2.out.cell 0
        have pg : w2.cell? ⟨g, 0, none⟩ = some (.int .i64 ((m : Int) + 1)) := B2.out.cell 0
        have pr0 : w2.cell? ⟨w.heap.size, 0, none⟩ = some (.int .i64 kd) := F2.out.cell 0
        have pr1 : w2.cell? ⟨w.heap.size, 1, none⟩ = some (.int .i64 n) := F2.out.cell 1
        have pr2 : w2.cell? ⟨w.heap.size, 2, none⟩ = some (.int .i64 d) := F2.out.cell 2
        have pr3 : w2.cell? ⟨w.heap.size, 3, none⟩ = some (.string nm) := F2.out.cell 3
        have pr4 : w2.cell? ⟨w.heap.size, 4, none⟩ = some (.int .i64 k) := F2.out.cell 4
        have pr5 : w2.cell? ⟨w.heap.size, 5, none⟩ = some (.slice A len cap) := F2.out.cell 5
        go_wp2_with fail
        refine (node_p ⟨⟨kd, n, d, nm, k⟩, A, len, cap⟩ w2 HOK.out).mono ?_
        rintro e w3 ⟨rfl, HB3⟩
        rw [HND.out]
        go_wp2_with fail
        go_ret
        rw [HC2.out]
        exact ⟨rfl, Lib.hid (grown_trans HG2.out (grown_below _ HB3.out)), Lib.hid (B2.out.belowW HB3.out)⟩
      | true =>
        have HC2 := Lib.hid (show C = goP (cP f) T.l (m + 1) by rw [HC.out, hnd, if_pos ⟨h2, rfl⟩])
        have HND := Lib.hid hnd
        clear hnd
        obtain ⟨⟨kd, n, d, nm, k⟩, A, len, cap⟩ := v
        simp only [Nd.val]
        have hgw : g < w.heap.size := HB.out.lt
        go_enter Tryz.func94, Tryz.ntmps94
        go_upto_region 1 with (fail)
        obtain ⟨w1, hw1⟩ : ∃ z9 : World, z9 = ((w.alloc (Obj.cells #[.int .i64 kd, .int .i64 n, .int .i64 d, .string nm, .int .i64 k, .slice A len cap] 29)).alloc (Obj.cells #[.int .i64 D] 3)).alloc (Obj.cells #[.pointer (some ⟨g, 0, none⟩)] 144) := ⟨_, rfl⟩
        obtain ⟨bw1, f1, d1, p1⟩ := boxes3 _ _ _ _ _ _ _ _ hw1
        rw [← hw1]
        clear hw1
        have HW1 := Lib.hid bw1
        have F1 := Lib.hid f1
        have D1 := Lib.hid d1
        have P1 := Lib.hid p1
        have HB1 := Lib.hid (HB.out.belowW bw1)
        clear bw1 f1 d1 p1
        have pp : w1.cell? ⟨w.heap.size + 1 + 1, 0, none⟩ = some (.pointer (some ⟨g, 0, none⟩)) := P1.out.cell 0
        have pg : w1.cell? ⟨g, 0, none⟩ = some (.int .i64 m) := HB1.out.cell 0
        have fg : w1.frozen? ⟨g, 0, none⟩ = false := HB1.out.frozen 0
        go_upto_region 2 with (fail)
        rw [HB1.out.setCell_eq]
        obtain ⟨w2, hw2⟩ : ∃ z9 : World, z9 = putB w1 g 3 (#[Value.int .i64 (m : Int)].setIfInBounds 0 (.int .i64 ((m : Int) + 1))) := ⟨_, rfl⟩
        have HG2 := Lib.hid (show w.grownBy w2 (some g) by rw [hw2]; exact grown_trans (grown_below _ HW1.out) (putB_grown _ _ _ _))
        have HW12 := Lib.hid (show w1.grownBy w2 (some g) by rw [hw2]; exact putB_grown _ _ _ _)
        have B2 := Lib.hid (show Blk w2 g 3 #[.int .i64 ((m + 1 : Nat) : Int)] by rw [hw2]; exact HB1.out.put _)
        rw [← hw2]
        clear hw2 pp pg fg
        have F2 := Lib.hid (F1.out.grown HW12.out (by intro e; injection e with e; omega))
        have D2 := Lib.hid (D1.out.grown HW12.out (by intro e; injection e with e; omega))
        have P2 := Lib.hid (P1.out.grown HW12.out (by intro e; injection e with e; omega))
        have pp : w2.cell? ⟨w.heap.size + 1 + 1, 0, none⟩ = some (.pointer (some ⟨g, 0, none⟩)) := P2.out.cell 0
        have pd : w2.cell? ⟨w.heap.size + 1, 0, none⟩ = some (.int .i64 D) := D2.out.cell 0
        have pg : w2.cell? ⟨g, 0, none⟩ = some (.int .i64 ((m : Int) + 1)) := B2.out.cell 0
        have pr0 : w2.cell? ⟨w.heap.size, 0, none⟩ = some (.int .i64 kd) := F2.out.cell 0
        have pr1 : w2.cell? ⟨w.heap.size, 1, none⟩ = some (.int .i64 n) := F2.out.cell 1
        have pr2 : w2.cell? ⟨w.heap.size, 2, none⟩ = some (.int .i64 d) := F2.out.cell 2
        have pr3 : w2.cell? ⟨w.heap.size, 3, none⟩ = some (.string nm) := F2.out.cell 3
        have pr4 : w2.cell? ⟨w.heap.size, 4, none⟩ = some (.int .i64 k) := F2.out.cell 4
        have pr5 : w2.cell? ⟨w.heap.size, 5, none⟩ = some (.slice A len cap) := F2.out.cell 5
        go_wp2_with fail
        refine (node_p ⟨⟨kd, n, d, nm, k⟩, A, len, cap⟩ w2 HOK.out).mono ?_
        rintro e w3 ⟨rfl, HB3⟩
        rw [HND.out]
        have HG3 := Lib.hid (grown_trans HG2.out (grown_below _ HB3.out))
        have B3 := Lib.hid (B2.out.belowW HB3.out)
        have F3 := Lib.hid (F2.out.belowW HB3.out)
        have D3 := Lib.hid (D2.out.belowW HB3.out)
        have P3 := Lib.hid (P2.out.belowW HB3.out)
        clear pr0 pr1 pr2 pr3 pr4 pr5 pd pp pg
        have pr5 : w3.cell? ⟨w.heap.size, 5, none⟩ = some (.slice A len cap) := F3.out.cell 5
        have hmf : ∀ (fn : Fn) (first cap : Array Value) (w : World), (Instr.makeFunc fn first cap).run Tryz.prog w = .ok (.func fn first cap) w := fun _ _ _ _ => rfl
        go_wp2_with fail
        refine (has_p f IH.out T ⟨⟨kd, n, d, nm, k⟩, A, len, cap⟩ w0 w3 g (m + 1) (w.heap.size + 1) (w.heap.size + 1 + 1) HIN.out (HBW.out.grown HG3.out HBW.out.size (fun k hk => by injection hk with hk; omega)) hg B3.out h2 (by omega) (by rw [← HD.out]; exact D3.out) P3.out (by omega) (by omega)).mono ?_
        rw [← HC2.out]
        rintro e w4 ⟨rfl, HG4, HB4⟩
        go_wp2_with fail
        go_ret
        exact ⟨ret_bool (by simp), Lib.hid (grown_trans HG3.out HG4.out), HB4⟩

/-- Whether an expression is valid. -/
def okE (T : TE) : Bool := decide (cR 20 T ≤ 200)
theorem okE_p (T : TE) : (cP 20 T 0).1 = okE T := valid_eq nameP T
theorem boxes2 (w : World) (c : Array Value) (t : TypeId) (D : Value) (t2 : TypeId) (w1 : World) (h : w1 = (w.alloc (Obj.cells c t)).alloc (Obj.cells #[D] t2)) :
    Below w.heap.size w w1 ∧ Blk w1 w.heap.size t c ∧ Blk w1 (w.heap.size + 1) t2 #[D] := by
  subst h
  have s1 : (w.alloc (Obj.cells c t)).heap.size = w.heap.size + 1 := World.size_alloc _ _
  refine ⟨((Below.refl _ _).alloc (Nat.le_refl _) _).alloc (by rw [s1]; omega) _, (Blk.new w t c).alloc _, ?_⟩
  have := Blk.new (w.alloc (Obj.cells c t)) t2 #[D]
  rwa [s1] at this
set_option maxHeartbeats 1000000 in
theorem eValid_p (T : TE) (v : Nd) (w : World) (hin : InE w T v) : Calls Tryz.prog 49 #[v.val] w (RetB (.bool (okE T)) w) := by
  have HIN := Lib.hid hin
  rw [← okE_p]
  clear hin
  obtain ⟨R, hR⟩ : ∃ R, R = cP 20 T 0 := ⟨_, rfl⟩
  rw [← hR]
  have HR := Lib.hid hR
  clear hR
  obtain ⟨⟨kd, n, d, nm, k⟩, A, len, cap⟩ := v
  simp only [Nd.val]
  go_enter Tryz.func49, Tryz.ntmps49
  go_wp2_with fail
  obtain ⟨w1, hw1⟩ : ∃ z9 : World, z9 = (w.alloc (Obj.cells #[.int .i64 kd, .int .i64 n, .int .i64 d, .string nm, .int .i64 k, .slice A len cap] 29)).alloc (Obj.cells #[.int .i64 0] 3) := ⟨_, rfl⟩
  obtain ⟨bw1, f1, d1⟩ := boxes2 _ _ _ _ _ _ hw1
  rw [← hw1]
  clear hw1
  have HW1 := Lib.hid bw1
  have K : Calls Tryz.prog 94 #[.agg #[.int .i64 kd, .int .i64 n, .int .i64 d, .string nm, .int .i64 k, .slice A len cap], .int .i64 1, .pointer (some ⟨w.heap.size + 1, 0, none⟩)] w1 (CntE (cP 20 T 0) (w.heap.size + 1) w1) :=
    count_at 20 T ⟨⟨kd, n, d, nm, k⟩, A, len, cap⟩ w w1 (w.heap.size + 1) 0 HIN.out bw1 (by omega) d1 (by omega) (by omega)
  refine K.mono ?_
  rw [← HR.out]
  rintro e w2 ⟨rfl, HG, HB⟩
  go_wp2_with fail
  go_ret
  exact ⟨rfl, Lib.hid (HW1.out.grown HG.out HW1.out.size (fun k hk => by injection hk with hk; omega))⟩
end Go.Proofs.YtkjoohnndobjeaaGreatDoor
namespace Go.Proofs.YtkjoohnndobjeaaGreatDoor
open Go.RowKit Go.Fl Go.Fl.Fm
def sE : ByteArray := ⟨#[101, 120, 112]⟩
def sL : ByteArray := ⟨#[108, 111, 103]⟩
def sS : ByteArray := ⟨#[115, 105, 110]⟩
def sC : ByteArray := ⟨#[99, 111, 115]⟩
def sR : ByteArray := ⟨#[115, 113, 114, 116]⟩
def fnEs : Array MapEntry := #[⟨.int .i64 9, .string sE, 0⟩, ⟨.int .i64 10, .string sL, 1⟩, ⟨.int .i64 11, .string sS, 2⟩, ⟨.int .i64 12, .string sC, 3⟩, ⟨.int .i64 13, .string sR, 4⟩]
/-- Block g is the map of the functions' names. -/
def FnMap (w : World) (g : Nat) : Prop := w.heap[g]? = some (.map fnEs 5)
theorem FnMap.lt {w : World} {g : Nat} (h : FnMap w g) : g < w.heap.size := (Array.getElem?_eq_some_iff.1 h).1
theorem FnMap.belowW {w w' : World} {g : Nat} (h : FnMap w g) (hb : Below w.heap.size w w') : FnMap w' g := (hb.block g h.lt).trans h
end Go.Proofs.YtkjoohnndobjeaaGreatDoor
namespace Go.Proofs.YtkjoohnndobjeaaGreatDoor
open Go.RowKit Go.Fl Go.Fl.Nm Go.Fl.Fm Go.Fl.Rt
/-- An element of a slice of expressions. -/
structure ElAt (w : World) (b off : Nat) (x : Nd) : Prop where
  lt : b < w.heap.size
  c : ∀ (j : Nat) (u : Value), x.cells[j]? = some u → w.cell? ⟨b, off + j, none⟩ = some u
theorem ElAt.belowW {w w' : World} {b off : Nat} {x : Nd} (h : ElAt w b off x) (hb : Below w.heap.size w w') : ElAt w' b off x :=
  ⟨Nat.lt_of_lt_of_le h.lt hb.size, fun j u hu => (hb.cell (p := ⟨b, off + j, none⟩) h.lt).trans (h.c j u hu)⟩
theorem ElAt.c0 {w : World} {b off : Nat} {x : Nd} (h : ElAt w b off x) : w.cell? ⟨b, off, none⟩ = some (.int .i64 x.h.kind) := h.c 0 _ rfl
theorem ElAt.c1 {w : World} {b off : Nat} {x : Nd} (h : ElAt w b off x) : w.cell? ⟨b, off + 1, none⟩ = some (.int .i64 x.h.n) := h.c 1 _ rfl
theorem ElAt.c2 {w : World} {b off : Nat} {x : Nd} (h : ElAt w b off x) : w.cell? ⟨b, off + 2, none⟩ = some (.int .i64 x.h.d) := h.c 2 _ rfl
theorem ElAt.c3 {w : World} {b off : Nat} {x : Nd} (h : ElAt w b off x) : w.cell? ⟨b, off + 3, none⟩ = some (.string x.h.name) := h.c 3 _ rfl
theorem ElAt.c4 {w : World} {b off : Nat} {x : Nd} (h : ElAt w b off x) : w.cell? ⟨b, off + 4, none⟩ = some (.int .i64 x.h.k) := h.c 4 _ rfl
theorem ElAt.c5 {w : World} {b off : Nat} {x : Nd} (h : ElAt w b off x) : w.cell? ⟨b, off + 5, none⟩ = some (.slice x.A x.len x.cap) := h.c 5 _ rfl
/-- The one element of an expression that has one. -/
theorem InE.one {w : World} {T : TE} {v : Nd} (h : InE w T v) (hl : v.len = 1) : ∃ b o x, v.A = some ⟨b, o, none⟩ ∧ InE w T.a x ∧ ElAt w b o x := by
  obtain ⟨b, o, x, hA, hb, hx, hc⟩ := h.at_ 0 (by omega)
  refine ⟨b, o, x, hA, ?_, hb, fun j u hu => ?_⟩
  · have : T.a = T.l.getD 0 default := by unfold TE.a; cases T.l <;> rfl
    rw [this]; exact hx
  · have hj : j < 6 := by
      have := (List.getElem?_eq_some_iff.1 hu).1
      exact this
    have := hc j u hu hj
    rwa [Nat.zero_mul, Nat.zero_add] at this
theorem InE.two {w : World} {T : TE} {v : Nd} (h : InE w T v) (hl : v.len = 2) : ∃ b o x y, v.A = some ⟨b, o, none⟩ ∧ InE w T.a x ∧ InE w T.b y ∧ ElAt w b o x ∧ ElAt w b (o + 6) y := by
  obtain ⟨b, o, x, hA, hb, hx, hc⟩ := h.at_ 0 (by omega)
  obtain ⟨b', o', y, hA', hb', hy, hc'⟩ := h.at_ 1 (by omega)
  rw [hA] at hA'
  have e := Option.some.inj hA'
  injection e with e1 e2 e3
  subst e1 e2
  refine ⟨b, o, x, y, hA, ?_, ?_, ⟨hb, fun j u hu => ?_⟩, ⟨hb', fun j u hu => ?_⟩⟩
  · have : T.a = T.l.getD 0 default := by unfold TE.a; cases T.l <;> rfl
    rw [this]; exact hx
  · have : T.b = T.l.getD 1 default := by
      unfold TE.b
      cases T.l with
      | nil => rfl
      | cons p q => cases q <;> rfl
    rw [this]; exact hy
  · have hj : j < 6 := (List.getElem?_eq_some_iff.1 hu).1
    have := hc j u hu hj
    rwa [Nat.zero_mul, Nat.zero_add] at this
  · have hj : j < 6 := (List.getElem?_eq_some_iff.1 hu).1
    have := hc' j u hu hj
    rwa [Nat.one_mul, ← Nat.add_assoc] at this
theorem tkY {P : Program} {md : Region.Mode} {ops : Array Oper} {Q : Exit → Act → World → Prop} {S : World → Prop} (i : Nat) {oi : Oper} {v : Value} {fuel : Nat} {listed : Array Bool} {a : Act} {w : World} (hi : ops[i]? = some oi)
    (hy : YieldsIf P ops S oi v a) (h : wpAnyH P md ops Q S fuel (listed.setIfInBounds i true) (a.put oi.dst v) w)
    (hs : Region.noSelect ops = true := by kernel_rfl) (hf : Region.free md ops listed i = true := by kernel_rfl) (hr : (Region.ready md ops listed).contains i = true := by kernel_rfl)
    (hQ : ∀ c a w, Q (.panic c) (a.put oi.dst v) w → Q (.panic c) a w := by exact fun _ _ _ h => h) (hS : S w := by assumption) : wpAnyH P md ops Q S (fuel + 1) listed a w :=
  wpAnyH_take hi hs hf hr hQ hy hS h
theorem below_dr (w : World) : Below w.heap.size w w.drew := below_drewN (Below.refl _ _) 1
end Go.Proofs.YtkjoohnndobjeaaGreatDoor
namespace Go.Fl
open Go.RowKit
theorem Blk.all2 {w : World} {g : Nat} {t : TypeId} {a0 a1 : Value} (h : Blk w g t #[a0, a1]) : w.cell? ⟨g, 0, none⟩ = some a0 ∧ w.frozen? ⟨g, 0, none⟩ = false ∧ w.cell? ⟨g, 1, none⟩ = some a1 ∧ w.frozen? ⟨g, 1, none⟩ = false :=
  ⟨h.cell 0, h.frozen 0, h.cell 1, h.frozen 1⟩
theorem Blk.all3 {w : World} {g : Nat} {t : TypeId} {a0 a1 a2 : Value} (h : Blk w g t #[a0, a1, a2]) : w.cell? ⟨g, 0, none⟩ = some a0 ∧ w.frozen? ⟨g, 0, none⟩ = false ∧ w.cell? ⟨g, 1, none⟩ = some a1 ∧ w.frozen? ⟨g, 1, none⟩ = false ∧ w.cell? ⟨g, 2, none⟩ = some a2 ∧ w.frozen? ⟨g, 2, none⟩ = false :=
  ⟨h.cell 0, h.frozen 0, h.cell 1, h.frozen 1, h.cell 2, h.frozen 2⟩
theorem Blk.all4 {w : World} {g : Nat} {t : TypeId} {a0 a1 a2 a3 : Value} (h : Blk w g t #[a0, a1, a2, a3]) : w.cell? ⟨g, 0, none⟩ = some a0 ∧ w.frozen? ⟨g, 0, none⟩ = false ∧ w.cell? ⟨g, 1, none⟩ = some a1 ∧ w.frozen? ⟨g, 1, none⟩ = false ∧ w.cell? ⟨g, 2, none⟩ = some a2 ∧ w.frozen? ⟨g, 2, none⟩ = false ∧ w.cell? ⟨g, 3, none⟩ = some a3 ∧ w.frozen? ⟨g, 3, none⟩ = false :=
  ⟨h.cell 0, h.frozen 0, h.cell 1, h.frozen 1, h.cell 2, h.frozen 2, h.cell 3, h.frozen 3⟩
theorem Blk.all7 {w : World} {g : Nat} {t : TypeId} {a0 a1 a2 a3 a4 a5 a6 : Value} (h : Blk w g t #[a0, a1, a2, a3, a4, a5, a6]) : w.cell? ⟨g, 0, none⟩ = some a0 ∧ w.frozen? ⟨g, 0, none⟩ = false ∧ w.cell? ⟨g, 1, none⟩ = some a1 ∧ w.frozen? ⟨g, 1, none⟩ = false ∧ w.cell? ⟨g, 2, none⟩ = some a2 ∧ w.frozen? ⟨g, 2, none⟩ = false ∧ w.cell? ⟨g, 3, none⟩ = some a3 ∧ w.frozen? ⟨g, 3, none⟩ = false ∧ w.cell? ⟨g, 4, none⟩ = some a4 ∧ w.frozen? ⟨g, 4, none⟩ = false ∧ w.cell? ⟨g, 5, none⟩ = some a5 ∧ w.frozen? ⟨g, 5, none⟩ = false ∧ w.cell? ⟨g, 6, none⟩ = some a6 ∧ w.frozen? ⟨g, 6, none⟩ = false :=
  ⟨h.cell 0, h.frozen 0, h.cell 1, h.frozen 1, h.cell 2, h.frozen 2, h.cell 3, h.frozen 3, h.cell 4, h.frozen 4, h.cell 5, h.frozen 5, h.cell 6, h.frozen 6⟩
theorem Blk.all6 {w : World} {g : Nat} {t : TypeId} {a0 a1 a2 a3 a4 a5 : Value} (h : Blk w g t #[a0, a1, a2, a3, a4, a5]) : w.cell? ⟨g, 0, none⟩ = some a0 ∧ w.frozen? ⟨g, 0, none⟩ = false ∧ w.cell? ⟨g, 1, none⟩ = some a1 ∧ w.frozen? ⟨g, 1, none⟩ = false ∧ w.cell? ⟨g, 2, none⟩ = some a2 ∧ w.frozen? ⟨g, 2, none⟩ = false ∧ w.cell? ⟨g, 3, none⟩ = some a3 ∧ w.frozen? ⟨g, 3, none⟩ = false ∧ w.cell? ⟨g, 4, none⟩ = some a4 ∧ w.frozen? ⟨g, 4, none⟩ = false ∧ w.cell? ⟨g, 5, none⟩ = some a5 ∧ w.frozen? ⟨g, 5, none⟩ = false :=
  ⟨h.cell 0, h.frozen 0, h.cell 1, h.frozen 1, h.cell 2, h.frozen 2, h.cell 3, h.frozen 3, h.cell 4, h.frozen 4, h.cell 5, h.frozen 5⟩
end Go.Fl
namespace Go.Fl
open Go.RowKit
section
variable {w : World} {g : Nat} {t : TypeId}
theorem pst2 {a b : Value} (hB : Blk w g t #[a, b]) (a' b' : Value) : (w.setCell ⟨g, 0, none⟩ a').setCell ⟨g, 1, none⟩ b' = putB w g t #[a', b'] := by
  rw [hB.setCell_eq 0 a', (hB.put _).setCell_eq 1 b', putB_putB]
  rfl
theorem pst4 {a b c d : Value} (hB : Blk w g t #[a, b, c, d]) (a' b' c' d' : Value) : (((w.setCell ⟨g, 0, none⟩ a').setCell ⟨g, 1, none⟩ b').setCell ⟨g, 2, none⟩ c').setCell ⟨g, 3, none⟩ d' = putB w g t #[a', b', c', d'] := by
  rw [hB.setCell_eq 0 a', (hB.put _).setCell_eq 1 b', putB_putB, (hB.put _).setCell_eq 2 c', putB_putB, (hB.put _).setCell_eq 3 d', putB_putB]
  rfl
theorem pst6 {a b c d e f : Value} (hB : Blk w g t #[a, b, c, d, e, f]) (a' b' c' d' e' f' : Value) :
    (((((w.setCell ⟨g, 0, none⟩ a').setCell ⟨g, 1, none⟩ b').setCell ⟨g, 2, none⟩ c').setCell ⟨g, 3, none⟩ d').setCell ⟨g, 4, none⟩ e').setCell ⟨g, 5, none⟩ f' = putB w g t #[a', b', c', d', e', f'] := by
  rw [hB.setCell_eq 0 a', (hB.put _).setCell_eq 1 b', putB_putB, (hB.put _).setCell_eq 2 c', putB_putB, (hB.put _).setCell_eq 3 d', putB_putB, (hB.put _).setCell_eq 4 e', putB_putB, (hB.put _).setCell_eq 5 f', putB_putB]
  rfl
end
/-- Cells at a place. -/
structure Ct (w : World) (b off : Nat) (cs : List Value) : Prop where
  lt : b < w.heap.size
  c : ∀ (j : Nat) (u : Value), cs[j]? = some u → w.cell? ⟨b, off + j, none⟩ = some u
theorem Ct.belowW {w w' : World} {b off : Nat} {cs : List Value} (h : Ct w b off cs) (hb : Below w.heap.size w w') : Ct w' b off cs :=
  ⟨Nat.lt_of_lt_of_le h.lt hb.size, fun j u hu => (hb.cell (p := ⟨b, off + j, none⟩) h.lt).trans (h.c j u hu)⟩
theorem Ct.far {w : World} {b off g : Nat} {cs : List Value} (h : Ct w b off cs) (hb : b ≠ g) (t : TypeId) (V : Array Value) : Ct (putB w g t V) b off cs := by
  have hg := putB_grown w g t V
  exact ⟨Nat.lt_of_lt_of_le h.lt hg.size, fun j u hu => by
    have h1 := h.c j u hu
    have h2 := hg.block b h.lt (fun e => hb (Option.some.inj e))
    unfold World.cell? at h1 ⊢
    rw [h2]
    exact h1⟩
/-- What lies below another world. -/
def Lo (a w : World) : Prop := Below a.heap.size a w
theorem Lo.belowW {a w w' : World} (h : Lo a w) (hb : Below w.heap.size w w') : Lo a w' := Below.trans h (hb.mono (Below.size h))
theorem Lo.size {a w : World} (h : Lo a w) : a.heap.size ≤ w.heap.size := Below.size h
theorem Lo.put {a w : World} (h : Lo a w) {g : Nat} (hg : a.heap.size ≤ g) (t : TypeId) (cs : Array Value) : Lo a (putB w g t cs) := Below.trans h (putB_below w g t cs hg)
theorem Blk.all4' {w : World} {g : Nat} {t : TypeId} {a0 a1 a2 a3 : Value} (h : Blk w g t #[a0, a1, a2, a3]) : w.cell? ⟨g, 0, none⟩ = some a0 ∧ w.cell? ⟨g, 1, none⟩ = some a1 ∧ w.cell? ⟨g, 2, none⟩ = some a2 ∧ w.cell? ⟨g, 3, none⟩ = some a3 :=
  ⟨h.cell 0, h.cell 1, h.cell 2, h.cell 3⟩
end Go.Fl
namespace Go.Proofs
open Go.Shelf
def Tryz.lays144_ren : Go.Shelf.Ren := ⟨fun | 144 => 20 | 143 => 45 | 219 => 89 | 217 => 105 | 225 => 120 | 224 => 121 | 267 => 122 | 266 => 134 | 314 => 154 | n => n, fun | 9 => 9 | 4 => 4 | 3 => 3 | 5 => 5 | 46 => 167 | 146 => 184 | 51 => 183 | n => n, fun | 1 => 0 | n => n⟩
theorem Tryz.lays144 : Go.Proofs.Lays.n144 Tryz.prog Tryz.lays144_ren := {
  mixed := by kernel_rfl
  f143 := Tryz.func45.trans (congrArg some (by kernel_rfl))
  f144 := Tryz.func20.trans (congrArg some (by kernel_rfl))
  f217 := Tryz.func105.trans (congrArg some (by kernel_rfl))
  f219 := Tryz.func89.trans (congrArg some (by kernel_rfl))
  f224 := Tryz.func121.trans (congrArg some (by kernel_rfl))
  f225 := Tryz.func120.trans (congrArg some (by kernel_rfl))
  f266 := Tryz.func134.trans (congrArg some (by kernel_rfl))
  f267 := Tryz.func122.trans (congrArg some (by kernel_rfl))
  f314 := Tryz.func154.trans (congrArg some (by kernel_rfl))
  t3 := Tryz.underlying3
  a3 := Tryz.isAgg3
  z3 := Tryz.sizeOf3
  v3 := Tryz.zeroValue3
  t4 := Tryz.underlying4
  a4 := Tryz.isAgg4
  z4 := Tryz.sizeOf4
  v4 := Tryz.zeroValue4
  t5 := Tryz.underlying5
  a5 := Tryz.isAgg5
  z5 := Tryz.sizeOf5
  v5 := Tryz.zeroValue5
  t9 := Tryz.underlying9
  a9 := Tryz.isAgg9
  z9 := Tryz.sizeOf9
  v9 := Tryz.zeroValue9
  t46 := Tryz.underlying167
  a46 := Tryz.isAgg167
  z46 := Tryz.sizeOf167
  v46 := Tryz.zeroValue167
  t51 := Tryz.underlying183
  a51 := Tryz.isAgg183
  z51 := Tryz.sizeOf183
  v51 := Tryz.zeroValue183
  t146 := Tryz.underlying184
  a146 := Tryz.isAgg184
  z146 := Tryz.sizeOf184
  v146 := Tryz.zeroValue184
  g1 := by kernel_rfl }
open Go.RowKit Go.Lib in
/-- strings.Contains: "Contains reports whether substr is within s.": AT A substr OF ONE BYTE c: IT RETURNS 'decide (0 ≤ Lib.indexByte s c)'; the world is as it was. (LAID: no walk: one application.) -/
theorem Tryz.strings_Contains_one (s : ByteArray) (c : UInt8) (w : World) :
    Calls Tryz.prog 20 #[.string s, .string ⟨#[c]⟩] w fun e w' => e = .returned (.bool (decide (0 ≤ Lib.indexByte s.data.toList c))) ∧ w' = w := Any.strings_Contains_one Tryz.lays144 s c w
end Go.Proofs
