/-
  The walks of the small tests of expressions.
-/
import Derived.Test.YtoogeihbhhcpaaaGreatDoorPkP
import Derived.Test.YtoogeihbhhcpaaaGreatDoorPkK
import Derived.Deep.QuietTactic
import Derived.BigQuiet
set_option linter.unusedVariables false
namespace Go.Proofs.YtoogeihbhhcpaaaGreatDoor
open Go.RowKit Go.Fl Go.Fl.Fm
/-- A call that answers a value and writes nothing old. -/
def RetB (v : Value) (w : World) (e : Ending) (w' : World) : Prop := e = .returned v ∧ Hid (Below w.heap.size w w')
theorem below_box (w : World) (o : Obj) : Below w.heap.size w (w.alloc o) := (Below.refl _ _).alloc (Nat.le_refl _) _

set_option maxHeartbeats 400000 in
theorem sum_p (x : Nd) (w : World) : Calls Tryz.prog 43 #[x.val] w (RetB (.bool (sumK x.h.kind)) w) := by
  obtain ⟨⟨kd, n, d, nm, k⟩, A, len, cap⟩ := x
  simp only [Nd.val]
  cases k3 : (kd == 3) with
  | false =>
    cases k4 : (kd == 4) with
    | false =>
      go_enter Tryz.func43, Tryz.ntmps43
      go_wp2_with fail
      go_ret
      refine ⟨ret_bool ?_, Lib.hid (below_box _ _)⟩
      show _ = ((kd == 3) || (kd == 4))
      rw [k3, k4]
      rfl
    | true =>
      go_enter Tryz.func43, Tryz.ntmps43
      go_wp2_with fail
      go_ret
      refine ⟨ret_bool ?_, Lib.hid (below_box _ _)⟩
      show _ = ((kd == 3) || (kd == 4))
      rw [k3, k4]
      rfl
  | true =>
    cases k4 : (kd == 4) with
    | false =>
      go_enter Tryz.func43, Tryz.ntmps43
      go_wp2_with fail
      go_ret
      refine ⟨ret_bool ?_, Lib.hid (below_box _ _)⟩
      show _ = ((kd == 3) || (kd == 4))
      rw [k3, k4]
      rfl
    | true =>
      go_enter Tryz.func43, Tryz.ntmps43
      go_wp2_with fail
      go_ret
      refine ⟨ret_bool ?_, Lib.hid (below_box _ _)⟩
      show _ = ((kd == 3) || (kd == 4))
      rw [k3, k4]
      rfl

set_option maxHeartbeats 400000 in
theorem prod_p (x : Nd) (w : World) : Calls Tryz.prog 45 #[x.val] w (RetB (.bool (prodK x.h.kind)) w) := by
  obtain ⟨⟨kd, n, d, nm, k⟩, A, len, cap⟩ := x
  simp only [Nd.val]
  cases k5 : (kd == 5) with
  | false =>
    cases k6 : (kd == 6) with
    | false =>
      go_enter Tryz.func45, Tryz.ntmps45
      go_wp2_with fail
      go_ret
      refine ⟨ret_bool ?_, Lib.hid (below_box _ _)⟩
      show _ = ((kd == 5) || (kd == 6))
      rw [k5, k6]
      rfl
    | true =>
      go_enter Tryz.func45, Tryz.ntmps45
      go_wp2_with fail
      go_ret
      refine ⟨ret_bool ?_, Lib.hid (below_box _ _)⟩
      show _ = ((kd == 5) || (kd == 6))
      rw [k5, k6]
      rfl
  | true =>
    cases k6 : (kd == 6) with
    | false =>
      go_enter Tryz.func45, Tryz.ntmps45
      go_wp2_with fail
      go_ret
      refine ⟨ret_bool ?_, Lib.hid (below_box _ _)⟩
      show _ = ((kd == 5) || (kd == 6))
      rw [k5, k6]
      rfl
    | true =>
      go_enter Tryz.func45, Tryz.ntmps45
      go_wp2_with fail
      go_ret
      refine ⟨ret_bool ?_, Lib.hid (below_box _ _)⟩
      show _ = ((kd == 5) || (kd == 6))
      rw [k5, k6]
      rfl

set_option maxHeartbeats 400000 in
theorem whl_p (x : Nd) (w : World) : Calls Tryz.prog 44 #[x.val] w (RetB (.bool (whl x.h)) w) := by
  obtain ⟨⟨kd, n, d, nm, k⟩, A, len, cap⟩ := x
  simp only [Nd.val]
  cases k1 : (kd == 1) with
  | false =>
    cases d1 : (d == 1) with
    | false =>
      go_enter Tryz.func44, Tryz.ntmps44
      go_wp2_with fail
      go_ret
      refine ⟨ret_bool ?_, Lib.hid (below_box _ _)⟩
      show _ = ((kd == 1) && (d == 1))
      rw [k1, d1]
      rfl
    | true =>
      go_enter Tryz.func44, Tryz.ntmps44
      go_wp2_with fail
      go_ret
      refine ⟨ret_bool ?_, Lib.hid (below_box _ _)⟩
      show _ = ((kd == 1) && (d == 1))
      rw [k1, d1]
      rfl
  | true =>
    cases d1 : (d == 1) with
    | false =>
      go_enter Tryz.func44, Tryz.ntmps44
      go_wp2_with fail
      go_ret
      refine ⟨ret_bool ?_, Lib.hid (below_box _ _)⟩
      show _ = ((kd == 1) && (d == 1))
      rw [k1, d1]
      rfl
    | true =>
      go_enter Tryz.func44, Tryz.ntmps44
      go_wp2_with fail
      go_ret
      refine ⟨ret_bool ?_, Lib.hid (below_box _ _)⟩
      show _ = ((kd == 1) && (d == 1))
      rw [k1, d1]
      rfl

set_option maxHeartbeats 400000 in
theorem brok_p (x : Nd) (w : World) : Calls Tryz.prog 46 #[x.val] w (RetB (.bool (brok x.h)) w) := by
  obtain ⟨⟨kd, n, d, nm, k⟩, A, len, cap⟩ := x
  simp only [Nd.val]
  cases k1 : (kd == 1) with
  | false =>
    cases e1 : (d != 1) with
    | false =>
      go_enter Tryz.func46, Tryz.ntmps46
      go_wp2_with fail
      go_ret
      refine ⟨ret_bool ?_, Lib.hid (below_box _ _)⟩
      show _ = ((kd == 1) && (d != 1))
      rw [k1, e1]
      rfl
    | true =>
      go_enter Tryz.func46, Tryz.ntmps46
      go_wp2_with fail
      go_ret
      refine ⟨ret_bool ?_, Lib.hid (below_box _ _)⟩
      show _ = ((kd == 1) && (d != 1))
      rw [k1, e1]
      rfl
  | true =>
    cases e1 : (d != 1) with
    | false =>
      go_enter Tryz.func46, Tryz.ntmps46
      go_wp2_with fail
      go_ret
      refine ⟨ret_bool ?_, Lib.hid (below_box _ _)⟩
      show _ = ((kd == 1) && (d != 1))
      rw [k1, e1]
      rfl
    | true =>
      go_enter Tryz.func46, Tryz.ntmps46
      go_wp2_with fail
      go_ret
      refine ⟨ret_bool ?_, Lib.hid (below_box _ _)⟩
      show _ = ((kd == 1) && (d != 1))
      rw [k1, e1]
      rfl

set_option maxHeartbeats 400000 in
theorem sum_r (x : Nd) (w : World) : Calls Tryz.prog 52 #[x.val] w (RetB (.bool (sumK x.h.kind)) w) := by
  obtain ⟨⟨kd, n, d, nm, k⟩, A, len, cap⟩ := x
  simp only [Nd.val]
  cases k3 : (kd == 3) with
  | false =>
    cases k4 : (kd == 4) with
    | false =>
      go_enter Tryz.func52, Tryz.ntmps52
      go_wp2_with fail
      go_ret
      refine ⟨ret_bool ?_, Lib.hid (below_box _ _)⟩
      show _ = ((kd == 3) || (kd == 4))
      rw [k3, k4]
      rfl
    | true =>
      go_enter Tryz.func52, Tryz.ntmps52
      go_wp2_with fail
      go_ret
      refine ⟨ret_bool ?_, Lib.hid (below_box _ _)⟩
      show _ = ((kd == 3) || (kd == 4))
      rw [k3, k4]
      rfl
  | true =>
    cases k4 : (kd == 4) with
    | false =>
      go_enter Tryz.func52, Tryz.ntmps52
      go_wp2_with fail
      go_ret
      refine ⟨ret_bool ?_, Lib.hid (below_box _ _)⟩
      show _ = ((kd == 3) || (kd == 4))
      rw [k3, k4]
      rfl
    | true =>
      go_enter Tryz.func52, Tryz.ntmps52
      go_wp2_with fail
      go_ret
      refine ⟨ret_bool ?_, Lib.hid (below_box _ _)⟩
      show _ = ((kd == 3) || (kd == 4))
      rw [k3, k4]
      rfl

set_option maxHeartbeats 400000 in
theorem prod_r (x : Nd) (w : World) : Calls Tryz.prog 53 #[x.val] w (RetB (.bool (prodK x.h.kind)) w) := by
  obtain ⟨⟨kd, n, d, nm, k⟩, A, len, cap⟩ := x
  simp only [Nd.val]
  cases k5 : (kd == 5) with
  | false =>
    cases k6 : (kd == 6) with
    | false =>
      go_enter Tryz.func53, Tryz.ntmps53
      go_wp2_with fail
      go_ret
      refine ⟨ret_bool ?_, Lib.hid (below_box _ _)⟩
      show _ = ((kd == 5) || (kd == 6))
      rw [k5, k6]
      rfl
    | true =>
      go_enter Tryz.func53, Tryz.ntmps53
      go_wp2_with fail
      go_ret
      refine ⟨ret_bool ?_, Lib.hid (below_box _ _)⟩
      show _ = ((kd == 5) || (kd == 6))
      rw [k5, k6]
      rfl
  | true =>
    cases k6 : (kd == 6) with
    | false =>
      go_enter Tryz.func53, Tryz.ntmps53
      go_wp2_with fail
      go_ret
      refine ⟨ret_bool ?_, Lib.hid (below_box _ _)⟩
      show _ = ((kd == 5) || (kd == 6))
      rw [k5, k6]
      rfl
    | true =>
      go_enter Tryz.func53, Tryz.ntmps53
      go_wp2_with fail
      go_ret
      refine ⟨ret_bool ?_, Lib.hid (below_box _ _)⟩
      show _ = ((kd == 5) || (kd == 6))
      rw [k5, k6]
      rfl

set_option maxHeartbeats 400000 in
theorem brok_r (x : Nd) (w : World) : Calls Tryz.prog 54 #[x.val] w (RetB (.bool (brok x.h)) w) := by
  obtain ⟨⟨kd, n, d, nm, k⟩, A, len, cap⟩ := x
  simp only [Nd.val]
  cases k1 : (kd == 1) with
  | false =>
    cases e1 : (d != 1) with
    | false =>
      go_enter Tryz.func54, Tryz.ntmps54
      go_wp2_with fail
      go_ret
      refine ⟨ret_bool ?_, Lib.hid (below_box _ _)⟩
      show _ = ((kd == 1) && (d != 1))
      rw [k1, e1]
      rfl
    | true =>
      go_enter Tryz.func54, Tryz.ntmps54
      go_wp2_with fail
      go_ret
      refine ⟨ret_bool ?_, Lib.hid (below_box _ _)⟩
      show _ = ((kd == 1) && (d != 1))
      rw [k1, e1]
      rfl
  | true =>
    cases e1 : (d != 1) with
    | false =>
      go_enter Tryz.func54, Tryz.ntmps54
      go_wp2_with fail
      go_ret
      refine ⟨ret_bool ?_, Lib.hid (below_box _ _)⟩
      show _ = ((kd == 1) && (d != 1))
      rw [k1, e1]
      rfl
    | true =>
      go_enter Tryz.func54, Tryz.ntmps54
      go_wp2_with fail
      go_ret
      refine ⟨ret_bool ?_, Lib.hid (below_box _ _)⟩
      show _ = ((kd == 1) && (d != 1))
      rw [k1, e1]
      rfl

set_option maxHeartbeats 400000 in
theorem whl_r (x : Nd) (w : World) : Calls Tryz.prog 55 #[x.val] w (RetB (.bool (whl x.h && decide (0 ≤ x.h.n))) w) := by
  obtain ⟨⟨kd, n, d, nm, k⟩, A, len, cap⟩ := x
  simp only [Nd.val]
  cases k1 : (kd == 1) with
  | false =>
    cases d1 : (d == 1) with
    | false =>
      cases n0 : decide (0 ≤ n) with
      | false =>
        go_enter Tryz.func55, Tryz.ntmps55
        go_wp2_with fail
        go_ret
        refine ⟨ret_bool ?_, Lib.hid (below_box _ _)⟩
        show _ = (((kd == 1) && (d == 1)) && false)
        rw [k1, d1]
        rfl
      | true =>
        go_enter Tryz.func55, Tryz.ntmps55
        go_wp2_with fail
        go_ret
        refine ⟨ret_bool ?_, Lib.hid (below_box _ _)⟩
        show _ = (((kd == 1) && (d == 1)) && true)
        rw [k1, d1]
        rfl
    | true =>
      cases n0 : decide (0 ≤ n) with
      | false =>
        go_enter Tryz.func55, Tryz.ntmps55
        go_wp2_with fail
        go_ret
        refine ⟨ret_bool ?_, Lib.hid (below_box _ _)⟩
        show _ = (((kd == 1) && (d == 1)) && false)
        rw [k1, d1]
        rfl
      | true =>
        go_enter Tryz.func55, Tryz.ntmps55
        go_wp2_with fail
        go_ret
        refine ⟨ret_bool ?_, Lib.hid (below_box _ _)⟩
        show _ = (((kd == 1) && (d == 1)) && true)
        rw [k1, d1]
        rfl
  | true =>
    cases d1 : (d == 1) with
    | false =>
      cases n0 : decide (0 ≤ n) with
      | false =>
        go_enter Tryz.func55, Tryz.ntmps55
        go_wp2_with fail
        go_ret
        refine ⟨ret_bool ?_, Lib.hid (below_box _ _)⟩
        show _ = (((kd == 1) && (d == 1)) && false)
        rw [k1, d1]
        rfl
      | true =>
        go_enter Tryz.func55, Tryz.ntmps55
        go_wp2_with fail
        go_ret
        refine ⟨ret_bool ?_, Lib.hid (below_box _ _)⟩
        show _ = (((kd == 1) && (d == 1)) && true)
        rw [k1, d1]
        rfl
    | true =>
      cases n0 : decide (0 ≤ n) with
      | false =>
        go_enter Tryz.func55, Tryz.ntmps55
        go_wp2_with fail
        go_ret
        refine ⟨ret_bool ?_, Lib.hid (below_box _ _)⟩
        show _ = (((kd == 1) && (d == 1)) && false)
        rw [k1, d1]
        rfl
      | true =>
        go_enter Tryz.func55, Tryz.ntmps55
        go_wp2_with fail
        go_ret
        refine ⟨ret_bool ?_, Lib.hid (below_box _ _)⟩
        show _ = (((kd == 1) && (d == 1)) && true)
        rw [k1, d1]
        rfl
end Go.Proofs.YtoogeihbhhcpaaaGreatDoor
