/-
  The walks of the numbers of elements and of the tests of nodes.
-/
import Derived.Test.YtoogeihbhhcpaaaGreatDoorFmB
import Derived.Test.YtoogeihbhhcpaaaGreatDoorPkY
set_option linter.unusedVariables false
namespace Go.Fl.Fm
open Go.Fl.Rt
/-- The number of elements of a kind, as the reference has it. -/
def argsK (k : Int) : Int := if k = 1 ∨ k = 2 then 0 else opsK k
/-- The reference's test of a node. -/
def nodeR (nm : List UInt8 → Bool) (h : Hd) (len : Nat) : Bool :=
  if ((len : Int) != argsK h.kind) = true then false
  else if (((h.kind == 1) && !decide (valid h.n h.d)) || ((h.kind != 1) && ((h.n != 0) || (h.d != 0)))) = true then false
  else if (((h.kind == 2) && !nm h.name.data.toList) || ((h.kind != 2) && !h.name.toList.isEmpty)) = true then false
  else (h.k == 0) || (((h.kind == 8) && decide (0 < h.k)) && decide (h.k ≤ 16))
theorem nodeR_eq (nm : List UInt8 → Bool) (h : Hd) (len : Nat) : nodeR nm h len = nodeB nm h len := by
  obtain ⟨kd, n, d, name, k⟩ := h
  unfold nodeR nodeB argsK
  simp only
  generalize decide (valid n d) = V
  generalize name.toList.isEmpty = E
  generalize nm name.data.toList = N
  have o1 : opsK 1 = -1 := by decide
  have o8 : opsK 8 = 1 := by decide
  by_cases h1 : kd = 1
  · subst h1
    by_cases hl : len = 0 <;> by_cases hk : k = 0 <;> cases V <;> cases E <;> simp [hl, hk]
  · by_cases h2 : kd = 2
    · subst h2
      by_cases hl : len = 0 <;> by_cases hk : k = 0 <;> by_cases hn : n = 0 <;> by_cases hd : d = 0 <;> cases N <;> simp [hl, hk, hn, hd]
    · by_cases h8 : kd = 8
      · subst h8
        rw [o8, Bool.eq_iff_iff]
        by_cases hn : n = 0 <;> by_cases hd : d = 0 <;> cases E <;> simp [hn, hd]
        omega
      · by_cases hl : (len : Int) = opsK kd <;> by_cases hk : k = 0 <;> by_cases hn : n = 0 <;> by_cases hd : d = 0 <;> cases E <;> simp [h1, h2, h8, hl, hk, hn, hd]
end Go.Fl.Fm
namespace Go.Proofs.YtoogeihbhhcpaaaGreatDoor
open Go.RowKit Go.Fl Go.Fl.Fm Go.Fl.Rt
theorem run_eq_rat (w : World) (l c l' c' : Int) :
   (binOp .eql 25 (.agg #[.int .i64 l, .int .i64 c]) (.agg #[.int .i64 l', .int .i64 c'])).run Tryz.prog w = .ok (.bool ((l == l') && (c == c'))) w := by
  simp [go_sem]
  by_cases h3 : l = l' <;> by_cases h4 : c = c' <;> simp [h3, h4]

set_option maxHeartbeats 1000000 in
theorem operands_any (k : Int) (w : World) : Calls Tryz.prog 158 #[.int .i64 k] w (fun e w' => e = .returned (.int .i64 (opsK k)) ∧ w = w') := by
  by_cases h3 : k = 3
  · subst h3
    go_enter Tryz.func158, Tryz.ntmps158
    go_wp2_with fail
    go_ret
    exact ⟨rfl, rfl⟩
  have e3 : (k == 3) = false := by rw [beq_eq_false_iff_ne]; exact h3
  by_cases h4 : k = 4
  · subst h4
    go_enter Tryz.func158, Tryz.ntmps158
    go_wp2_with fail
    go_ret
    exact ⟨rfl, rfl⟩
  have e4 : (k == 4) = false := by rw [beq_eq_false_iff_ne]; exact h4
  by_cases h5 : k = 5
  · subst h5
    go_enter Tryz.func158, Tryz.ntmps158
    go_wp2_with fail
    go_ret
    exact ⟨rfl, rfl⟩
  have e5 : (k == 5) = false := by rw [beq_eq_false_iff_ne]; exact h5
  by_cases h6 : k = 6
  · subst h6
    go_enter Tryz.func158, Tryz.ntmps158
    go_wp2_with fail
    go_ret
    exact ⟨rfl, rfl⟩
  have e6 : (k == 6) = false := by rw [beq_eq_false_iff_ne]; exact h6
  by_cases h7 : k = 7
  · subst h7
    go_enter Tryz.func158, Tryz.ntmps158
    go_wp2_with fail
    go_ret
    exact ⟨rfl, rfl⟩
  have e7 : (k == 7) = false := by rw [beq_eq_false_iff_ne]; exact h7
  by_cases h8 : k = 8
  · subst h8
    go_enter Tryz.func158, Tryz.ntmps158
    go_wp2_with fail
    go_ret
    exact ⟨rfl, rfl⟩
  have e8 : (k == 8) = false := by rw [beq_eq_false_iff_ne]; exact h8
  by_cases h9 : k = 9
  · subst h9
    go_enter Tryz.func158, Tryz.ntmps158
    go_wp2_with fail
    go_ret
    exact ⟨rfl, rfl⟩
  have e9 : (k == 9) = false := by rw [beq_eq_false_iff_ne]; exact h9
  by_cases h10 : k = 10
  · subst h10
    go_enter Tryz.func158, Tryz.ntmps158
    go_wp2_with fail
    go_ret
    exact ⟨rfl, rfl⟩
  have e10 : (k == 10) = false := by rw [beq_eq_false_iff_ne]; exact h10
  by_cases h11 : k = 11
  · subst h11
    go_enter Tryz.func158, Tryz.ntmps158
    go_wp2_with fail
    go_ret
    exact ⟨rfl, rfl⟩
  have e11 : (k == 11) = false := by rw [beq_eq_false_iff_ne]; exact h11
  by_cases h12 : k = 12
  · subst h12
    go_enter Tryz.func158, Tryz.ntmps158
    go_wp2_with fail
    go_ret
    exact ⟨rfl, rfl⟩
  have e12 : (k == 12) = false := by rw [beq_eq_false_iff_ne]; exact h12
  by_cases h13 : k = 13
  · subst h13
    go_enter Tryz.func158, Tryz.ntmps158
    go_wp2_with fail
    go_ret
    exact ⟨rfl, rfl⟩
  have e13 : (k == 13) = false := by rw [beq_eq_false_iff_ne]; exact h13
  have e : opsK k = -1 := by
    unfold opsK
    rw [if_neg (by omega), if_neg (by omega)]
  go_enter Tryz.func158, Tryz.ntmps158
  go_wp2_with fail
  go_ret
  rw [e]
  exact ⟨rfl, rfl⟩

set_option maxHeartbeats 1000000 in
theorem args_any (k : Int) (w : World) : Calls Tryz.prog 192 #[.int .i64 k] w (fun e w' => e = .returned (.int .i64 (argsK k)) ∧ w = w') := by
  by_cases h1 : k = 1
  · subst h1
    go_enter Tryz.func192, Tryz.ntmps192
    go_wp2_with fail
    go_ret
    exact ⟨rfl, rfl⟩
  have e1 : (k == 1) = false := by rw [beq_eq_false_iff_ne]; exact h1
  by_cases h2 : k = 2
  · subst h2
    go_enter Tryz.func192, Tryz.ntmps192
    go_wp2_with fail
    go_ret
    exact ⟨rfl, rfl⟩
  have e2 : (k == 2) = false := by rw [beq_eq_false_iff_ne]; exact h2
  by_cases h3 : k = 3
  · subst h3
    go_enter Tryz.func192, Tryz.ntmps192
    go_wp2_with fail
    go_ret
    exact ⟨rfl, rfl⟩
  have e3 : (k == 3) = false := by rw [beq_eq_false_iff_ne]; exact h3
  by_cases h4 : k = 4
  · subst h4
    go_enter Tryz.func192, Tryz.ntmps192
    go_wp2_with fail
    go_ret
    exact ⟨rfl, rfl⟩
  have e4 : (k == 4) = false := by rw [beq_eq_false_iff_ne]; exact h4
  by_cases h5 : k = 5
  · subst h5
    go_enter Tryz.func192, Tryz.ntmps192
    go_wp2_with fail
    go_ret
    exact ⟨rfl, rfl⟩
  have e5 : (k == 5) = false := by rw [beq_eq_false_iff_ne]; exact h5
  by_cases h6 : k = 6
  · subst h6
    go_enter Tryz.func192, Tryz.ntmps192
    go_wp2_with fail
    go_ret
    exact ⟨rfl, rfl⟩
  have e6 : (k == 6) = false := by rw [beq_eq_false_iff_ne]; exact h6
  by_cases h7 : k = 7
  · subst h7
    go_enter Tryz.func192, Tryz.ntmps192
    go_wp2_with fail
    go_ret
    exact ⟨rfl, rfl⟩
  have e7 : (k == 7) = false := by rw [beq_eq_false_iff_ne]; exact h7
  by_cases h8 : k = 8
  · subst h8
    go_enter Tryz.func192, Tryz.ntmps192
    go_wp2_with fail
    go_ret
    exact ⟨rfl, rfl⟩
  have e8 : (k == 8) = false := by rw [beq_eq_false_iff_ne]; exact h8
  by_cases h9 : k = 9
  · subst h9
    go_enter Tryz.func192, Tryz.ntmps192
    go_wp2_with fail
    go_ret
    exact ⟨rfl, rfl⟩
  have e9 : (k == 9) = false := by rw [beq_eq_false_iff_ne]; exact h9
  by_cases h10 : k = 10
  · subst h10
    go_enter Tryz.func192, Tryz.ntmps192
    go_wp2_with fail
    go_ret
    exact ⟨rfl, rfl⟩
  have e10 : (k == 10) = false := by rw [beq_eq_false_iff_ne]; exact h10
  by_cases h11 : k = 11
  · subst h11
    go_enter Tryz.func192, Tryz.ntmps192
    go_wp2_with fail
    go_ret
    exact ⟨rfl, rfl⟩
  have e11 : (k == 11) = false := by rw [beq_eq_false_iff_ne]; exact h11
  by_cases h12 : k = 12
  · subst h12
    go_enter Tryz.func192, Tryz.ntmps192
    go_wp2_with fail
    go_ret
    exact ⟨rfl, rfl⟩
  have e12 : (k == 12) = false := by rw [beq_eq_false_iff_ne]; exact h12
  by_cases h13 : k = 13
  · subst h13
    go_enter Tryz.func192, Tryz.ntmps192
    go_wp2_with fail
    go_ret
    exact ⟨rfl, rfl⟩
  have e13 : (k == 13) = false := by rw [beq_eq_false_iff_ne]; exact h13
  have e : argsK k = -1 := by
    unfold argsK opsK
    rw [if_neg (by omega)]
    rw [if_neg (by omega), if_neg (by omega)]
  go_enter Tryz.func192, Tryz.ntmps192
  go_wp2_with fail
  go_ret
  rw [e]
  exact ⟨rfl, rfl⟩

set_option maxHeartbeats 4000000 in
set_option maxRecDepth 100000 in
theorem node_p (x : Nd) (w : World) (ok : HdOk x.h) : Calls Tryz.prog 119 #[x.val] w (RetB (.bool (nodeB nameP x.h x.len)) w) := by
  obtain ⟨⟨kd, n, d, nm, k⟩, A, len, cap⟩ := x
  obtain ⟨a1, a2, a3, a4, a5, a6, a7, a8, a9⟩ := ok
  simp only at a1 a2 a3 a4 a5 a6 a7 a8 a9
  simp only [Nd.val]
  have heq := run_eq_rat
  cases k1 : (kd == 1) with
  | true =>
    cases V : decide (valid n d) with
    | false =>
      have HN := Lib.hid (show nodeB nameP ⟨kd, n, d, nm, k⟩ len = false by simp_all [nodeB])
      go_enter Tryz.func119, Tryz.ntmps119
      go_wp2_with fail
      obtain ⟨w1, hw1⟩ : ∃ z9 : World, z9 = w.alloc (Obj.cells #[.int .i64 kd, .int .i64 n, .int .i64 d, .string nm, .int .i64 k, .slice A len cap] 51) := ⟨_, rfl⟩
      have HW1 := Lib.hid (show Below w.heap.size w w1 by rw [hw1]; exact below_box _ _)
      have F1 := Lib.hid (show Blk w1 w.heap.size 51 #[.int .i64 kd, .int .i64 n, .int .i64 d, .string nm, .int .i64 k, .slice A len cap] by rw [hw1]; exact Blk.new _ _ _)
      rw [← hw1]
      clear hw1
      refine (valid_q n d _ a3 a4 a5 a6).mono ?_
      rintro e w2 ⟨rfl, HB2⟩
      have F2 := Lib.hid (F1.out.belowW HB2.out)
      have HW2 := Lib.hid (HW1.out.trans (HB2.out.mono HW1.out.size))
      have pr0 : w2.cell? ⟨w.heap.size, 0, none⟩ = some (.int .i64 kd) := F2.out.cell 0
      have pr3 : w2.cell? ⟨w.heap.size, 3, none⟩ = some (.string nm) := F2.out.cell 3
      have pr4 : w2.cell? ⟨w.heap.size, 4, none⟩ = some (.int .i64 k) := F2.out.cell 4
      have pr5 : w2.cell? ⟨w.heap.size, 5, none⟩ = some (.slice A len cap) := F2.out.cell 5
      rw [show vB n d = false from V]
      go_wp2_with fail
      go_ret
      rw [HN.out]
      exact ⟨rfl, HW2⟩
    | true =>
      cases E : nm.toList.isEmpty with
      | false =>
        have HN := Lib.hid (show nodeB nameP ⟨kd, n, d, nm, k⟩ len = false by simp_all [nodeB])
        go_enter Tryz.func119, Tryz.ntmps119
        go_wp2_with fail
        obtain ⟨w1, hw1⟩ : ∃ z9 : World, z9 = w.alloc (Obj.cells #[.int .i64 kd, .int .i64 n, .int .i64 d, .string nm, .int .i64 k, .slice A len cap] 51) := ⟨_, rfl⟩
        have HW1 := Lib.hid (show Below w.heap.size w w1 by rw [hw1]; exact below_box _ _)
        have F1 := Lib.hid (show Blk w1 w.heap.size 51 #[.int .i64 kd, .int .i64 n, .int .i64 d, .string nm, .int .i64 k, .slice A len cap] by rw [hw1]; exact Blk.new _ _ _)
        rw [← hw1]
        clear hw1
        refine (valid_q n d _ a3 a4 a5 a6).mono ?_
        rintro e w2 ⟨rfl, HB2⟩
        have F2 := Lib.hid (F1.out.belowW HB2.out)
        have HW2 := Lib.hid (HW1.out.trans (HB2.out.mono HW1.out.size))
        have pr0 : w2.cell? ⟨w.heap.size, 0, none⟩ = some (.int .i64 kd) := F2.out.cell 0
        have pr3 : w2.cell? ⟨w.heap.size, 3, none⟩ = some (.string nm) := F2.out.cell 3
        have pr4 : w2.cell? ⟨w.heap.size, 4, none⟩ = some (.int .i64 k) := F2.out.cell 4
        have pr5 : w2.cell? ⟨w.heap.size, 5, none⟩ = some (.slice A len cap) := F2.out.cell 5
        rw [show vB n d = true from V]
        go_wp2_with fail
        go_ret
        rw [HN.out]
        exact ⟨rfl, HW2⟩
      | true =>
        cases K : (k == 0) with
        | false =>
          have HN := Lib.hid (show nodeB nameP ⟨kd, n, d, nm, k⟩ len = false by simp_all [nodeB])
          go_enter Tryz.func119, Tryz.ntmps119
          go_wp2_with fail
          obtain ⟨w1, hw1⟩ : ∃ z9 : World, z9 = w.alloc (Obj.cells #[.int .i64 kd, .int .i64 n, .int .i64 d, .string nm, .int .i64 k, .slice A len cap] 51) := ⟨_, rfl⟩
          have HW1 := Lib.hid (show Below w.heap.size w w1 by rw [hw1]; exact below_box _ _)
          have F1 := Lib.hid (show Blk w1 w.heap.size 51 #[.int .i64 kd, .int .i64 n, .int .i64 d, .string nm, .int .i64 k, .slice A len cap] by rw [hw1]; exact Blk.new _ _ _)
          rw [← hw1]
          clear hw1
          refine (valid_q n d _ a3 a4 a5 a6).mono ?_
          rintro e w2 ⟨rfl, HB2⟩
          have F2 := Lib.hid (F1.out.belowW HB2.out)
          have HW2 := Lib.hid (HW1.out.trans (HB2.out.mono HW1.out.size))
          have pr0 : w2.cell? ⟨w.heap.size, 0, none⟩ = some (.int .i64 kd) := F2.out.cell 0
          have pr3 : w2.cell? ⟨w.heap.size, 3, none⟩ = some (.string nm) := F2.out.cell 3
          have pr4 : w2.cell? ⟨w.heap.size, 4, none⟩ = some (.int .i64 k) := F2.out.cell 4
          have pr5 : w2.cell? ⟨w.heap.size, 5, none⟩ = some (.slice A len cap) := F2.out.cell 5
          rw [show vB n d = true from V]
          go_wp2_with fail
          go_ret
          rw [HN.out]
          exact ⟨rfl, HW2⟩
        | true =>
          cases L0 : ((len : Int) == 0) with
          | false =>
            have HN := Lib.hid (show nodeB nameP ⟨kd, n, d, nm, k⟩ len = false by simp_all [nodeB])
            go_enter Tryz.func119, Tryz.ntmps119
            go_wp2_with fail
            obtain ⟨w1, hw1⟩ : ∃ z9 : World, z9 = w.alloc (Obj.cells #[.int .i64 kd, .int .i64 n, .int .i64 d, .string nm, .int .i64 k, .slice A len cap] 51) := ⟨_, rfl⟩
            have HW1 := Lib.hid (show Below w.heap.size w w1 by rw [hw1]; exact below_box _ _)
            have F1 := Lib.hid (show Blk w1 w.heap.size 51 #[.int .i64 kd, .int .i64 n, .int .i64 d, .string nm, .int .i64 k, .slice A len cap] by rw [hw1]; exact Blk.new _ _ _)
            rw [← hw1]
            clear hw1
            refine (valid_q n d _ a3 a4 a5 a6).mono ?_
            rintro e w2 ⟨rfl, HB2⟩
            have F2 := Lib.hid (F1.out.belowW HB2.out)
            have HW2 := Lib.hid (HW1.out.trans (HB2.out.mono HW1.out.size))
            have pr0 : w2.cell? ⟨w.heap.size, 0, none⟩ = some (.int .i64 kd) := F2.out.cell 0
            have pr3 : w2.cell? ⟨w.heap.size, 3, none⟩ = some (.string nm) := F2.out.cell 3
            have pr4 : w2.cell? ⟨w.heap.size, 4, none⟩ = some (.int .i64 k) := F2.out.cell 4
            have pr5 : w2.cell? ⟨w.heap.size, 5, none⟩ = some (.slice A len cap) := F2.out.cell 5
            rw [show vB n d = true from V]
            go_wp2_with fail
            go_ret
            rw [HN.out]
            exact ⟨rfl, HW2⟩
          | true =>
            have HN := Lib.hid (show nodeB nameP ⟨kd, n, d, nm, k⟩ len = true by simp_all [nodeB])
            go_enter Tryz.func119, Tryz.ntmps119
            go_wp2_with fail
            obtain ⟨w1, hw1⟩ : ∃ z9 : World, z9 = w.alloc (Obj.cells #[.int .i64 kd, .int .i64 n, .int .i64 d, .string nm, .int .i64 k, .slice A len cap] 51) := ⟨_, rfl⟩
            have HW1 := Lib.hid (show Below w.heap.size w w1 by rw [hw1]; exact below_box _ _)
            have F1 := Lib.hid (show Blk w1 w.heap.size 51 #[.int .i64 kd, .int .i64 n, .int .i64 d, .string nm, .int .i64 k, .slice A len cap] by rw [hw1]; exact Blk.new _ _ _)
            rw [← hw1]
            clear hw1
            refine (valid_q n d _ a3 a4 a5 a6).mono ?_
            rintro e w2 ⟨rfl, HB2⟩
            have F2 := Lib.hid (F1.out.belowW HB2.out)
            have HW2 := Lib.hid (HW1.out.trans (HB2.out.mono HW1.out.size))
            have pr0 : w2.cell? ⟨w.heap.size, 0, none⟩ = some (.int .i64 kd) := F2.out.cell 0
            have pr3 : w2.cell? ⟨w.heap.size, 3, none⟩ = some (.string nm) := F2.out.cell 3
            have pr4 : w2.cell? ⟨w.heap.size, 4, none⟩ = some (.int .i64 k) := F2.out.cell 4
            have pr5 : w2.cell? ⟨w.heap.size, 5, none⟩ = some (.slice A len cap) := F2.out.cell 5
            rw [show vB n d = true from V]
            go_wp2_with fail
            go_ret
            rw [HN.out]
            exact ⟨rfl, HW2⟩
  | false =>
    cases k2 : (kd == 2) with
    | true =>
      cases Z : ((n == 0) && (d == 0)) with
      | false =>
        have HN := Lib.hid (show nodeB nameP ⟨kd, n, d, nm, k⟩ len = false by simp_all [nodeB])
        have HNM := Lib.hid (fun w => name_any nm w a9)
        go_enter Tryz.func119, Tryz.ntmps119
        go_wp2_with fail
        go_ret
        rw [HN.out]
        exact ⟨rfl, Lib.hid (below_box _ _)⟩
      | true =>
        cases N : nameP nm.data.toList with
        | false =>
          have HN := Lib.hid (show nodeB nameP ⟨kd, n, d, nm, k⟩ len = false by simp_all [nodeB])
          have HNM := Lib.hid (fun w => name_any nm w a9)
          go_enter Tryz.func119, Tryz.ntmps119
          go_wp2_with fail
          refine (HNM.out _).mono ?_
          rintro e w2 ⟨rfl, rfl⟩
          rw [N]
          go_wp2_with fail
          go_ret
          rw [HN.out]
          exact ⟨rfl, Lib.hid (below_box _ _)⟩
        | true =>
          cases K : (k == 0) with
          | false =>
            have HN := Lib.hid (show nodeB nameP ⟨kd, n, d, nm, k⟩ len = false by simp_all [nodeB])
            have HNM := Lib.hid (fun w => name_any nm w a9)
            go_enter Tryz.func119, Tryz.ntmps119
            go_wp2_with fail
            refine (HNM.out _).mono ?_
            rintro e w2 ⟨rfl, rfl⟩
            rw [N]
            go_wp2_with fail
            go_ret
            rw [HN.out]
            exact ⟨rfl, Lib.hid (below_box _ _)⟩
          | true =>
            cases L0 : ((len : Int) == 0) with
            | false =>
              have HN := Lib.hid (show nodeB nameP ⟨kd, n, d, nm, k⟩ len = false by simp_all [nodeB])
              have HNM := Lib.hid (fun w => name_any nm w a9)
              go_enter Tryz.func119, Tryz.ntmps119
              go_wp2_with fail
              refine (HNM.out _).mono ?_
              rintro e w2 ⟨rfl, rfl⟩
              rw [N]
              go_wp2_with fail
              go_ret
              rw [HN.out]
              exact ⟨rfl, Lib.hid (below_box _ _)⟩
            | true =>
              have HN := Lib.hid (show nodeB nameP ⟨kd, n, d, nm, k⟩ len = true by simp_all [nodeB])
              have HNM := Lib.hid (fun w => name_any nm w a9)
              go_enter Tryz.func119, Tryz.ntmps119
              go_wp2_with fail
              refine (HNM.out _).mono ?_
              rintro e w2 ⟨rfl, rfl⟩
              rw [N]
              go_wp2_with fail
              go_ret
              rw [HN.out]
              exact ⟨rfl, Lib.hid (below_box _ _)⟩
    | false =>
      cases k8 : (kd == 8) with
      | true =>
        cases Z : ((n == 0) && (d == 0)) with
        | false =>
          have HN := Lib.hid (show nodeB nameP ⟨kd, n, d, nm, k⟩ len = false by simp_all [nodeB])
          go_enter Tryz.func119, Tryz.ntmps119
          go_wp2_with fail
          go_ret
          rw [HN.out]
          exact ⟨rfl, Lib.hid (below_box _ _)⟩
        | true =>
          cases E : nm.toList.isEmpty with
          | false =>
            have HN := Lib.hid (show nodeB nameP ⟨kd, n, d, nm, k⟩ len = false by simp_all [nodeB])
            go_enter Tryz.func119, Tryz.ntmps119
            go_wp2_with fail
            go_ret
            rw [HN.out]
            exact ⟨rfl, Lib.hid (below_box _ _)⟩
          | true =>
            cases G : decide (0 ≤ k) with
            | false =>
              have HN := Lib.hid (show nodeB nameP ⟨kd, n, d, nm, k⟩ len = false by simp_all [nodeB]; omega)
              go_enter Tryz.func119, Tryz.ntmps119
              go_wp2_with fail
              go_ret
              rw [HN.out]
              exact ⟨rfl, Lib.hid (below_box _ _)⟩
            | true =>
              cases J : decide (k ≤ 16) with
              | false =>
                have HN := Lib.hid (show nodeB nameP ⟨kd, n, d, nm, k⟩ len = false by simp_all [nodeB]; omega)
                go_enter Tryz.func119, Tryz.ntmps119
                go_wp2_with fail
                go_ret
                rw [HN.out]
                exact ⟨rfl, Lib.hid (below_box _ _)⟩
              | true =>
                cases L1 : ((len : Int) == 1) with
                | false =>
                  have HN := Lib.hid (show nodeB nameP ⟨kd, n, d, nm, k⟩ len = false by simp_all [nodeB])
                  go_enter Tryz.func119, Tryz.ntmps119
                  go_wp2_with fail
                  go_ret
                  rw [HN.out]
                  exact ⟨rfl, Lib.hid (below_box _ _)⟩
                | true =>
                  have HN := Lib.hid (show nodeB nameP ⟨kd, n, d, nm, k⟩ len = true by simp_all [nodeB])
                  go_enter Tryz.func119, Tryz.ntmps119
                  go_wp2_with fail
                  go_ret
                  rw [HN.out]
                  exact ⟨rfl, Lib.hid (below_box _ _)⟩
      | false =>
        cases Z : ((n == 0) && (d == 0)) with
        | false =>
          have HN := Lib.hid (show nodeB nameP ⟨kd, n, d, nm, k⟩ len = false by simp_all [nodeB])
          go_enter Tryz.func119, Tryz.ntmps119
          go_wp2_with fail
          go_quiet (fail)
          go_wp2_with fail
          go_ret
          rw [HN.out]
          exact ⟨rfl, Lib.hid (below_drewN (below_box _ _) _)⟩
        | true =>
          cases E : nm.toList.isEmpty with
          | false =>
            have HN := Lib.hid (show nodeB nameP ⟨kd, n, d, nm, k⟩ len = false by simp_all [nodeB])
            go_enter Tryz.func119, Tryz.ntmps119
            go_wp2_with fail
            go_quiet (fail)
            go_wp2_with fail
            go_ret
            rw [HN.out]
            exact ⟨rfl, Lib.hid (below_drewN (below_box _ _) _)⟩
          | true =>
            cases K : (k == 0) with
            | false =>
              have HN := Lib.hid (show nodeB nameP ⟨kd, n, d, nm, k⟩ len = false by simp_all [nodeB])
              go_enter Tryz.func119, Tryz.ntmps119
              go_wp2_with fail
              go_quiet (fail)
              go_wp2_with fail
              go_ret
              rw [HN.out]
              exact ⟨rfl, Lib.hid (below_drewN (below_box _ _) _)⟩
            | true =>
              cases LO : ((len : Int) == opsK kd) with
              | false =>
                have HN := Lib.hid (show nodeB nameP ⟨kd, n, d, nm, k⟩ len = false by simp_all [nodeB])
                go_enter Tryz.func119, Tryz.ntmps119
                go_wp2_with fail
                go_quiet ((go_at_call 158; exact Calls.quiet_of_same ((operands_any _ _).mono fun e w' h => ⟨h.1, h.2.symm⟩)))
                go_wp2_with fail
                go_ret
                rw [HN.out]
                exact ⟨rfl, Lib.hid (below_drewN (below_box _ _) _)⟩
              | true =>
                have HN := Lib.hid (show nodeB nameP ⟨kd, n, d, nm, k⟩ len = true by simp_all [nodeB])
                go_enter Tryz.func119, Tryz.ntmps119
                go_wp2_with fail
                go_quiet ((go_at_call 158; exact Calls.quiet_of_same ((operands_any _ _).mono fun e w' h => ⟨h.1, h.2.symm⟩)))
                go_wp2_with fail
                go_ret
                rw [HN.out]
                exact ⟨rfl, Lib.hid (below_drewN (below_box _ _) _)⟩
end Go.Proofs.YtoogeihbhhcpaaaGreatDoor
