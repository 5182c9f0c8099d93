/-
  The walks of the small tests of expressions.
-/
import Derived.Test.YtoogeihbhhcpaaaDoorFmA
import Derived.Test.YtoogeihbhhcpaaaDoorRaN
import Derived.Deep.QuietTactic
import Derived.BigQuiet
set_option linter.unusedVariables false
namespace Go.Proofs.YtoogeihbhhcpaaaDoor
open Go.RowKit Go.Fl Go.Fl.Fm
/-- A call that answers a value and writes nothing old. -/
def RetB (v : Value) (w : World) (e : Ending) (w' : World) : Prop := e = .returned v ∧ Hid (Below w.heap.size w w')
theorem below_box (w : World) (o : Obj) : Below w.heap.size w (w.alloc o) := (Below.refl _ _).alloc (Nat.le_refl _) _

set_option maxHeartbeats 400000 in
theorem sum_p (x : Nd) (w : World) : Calls Tryd.prog 25 #[x.val] w (RetB (.bool (sumK x.h.kind)) w) := by
  obtain ⟨⟨kd, n, d, nm, k⟩, A, len, cap⟩ := x
  simp only [Nd.val]
  cases k3 : (kd == 3) with
  | false =>
    cases k4 : (kd == 4) with
    | false =>
      go_enter Tryd.func25, Tryd.ntmps25
      go_wp2_with fail
      go_ret
      refine ⟨ret_bool ?_, Lib.hid (below_box _ _)⟩
      show _ = ((kd == 3) || (kd == 4))
      rw [k3, k4]
      rfl
    | true =>
      go_enter Tryd.func25, Tryd.ntmps25
      go_wp2_with fail
      go_ret
      refine ⟨ret_bool ?_, Lib.hid (below_box _ _)⟩
      show _ = ((kd == 3) || (kd == 4))
      rw [k3, k4]
      rfl
  | true =>
    cases k4 : (kd == 4) with
    | false =>
      go_enter Tryd.func25, Tryd.ntmps25
      go_wp2_with fail
      go_ret
      refine ⟨ret_bool ?_, Lib.hid (below_box _ _)⟩
      show _ = ((kd == 3) || (kd == 4))
      rw [k3, k4]
      rfl
    | true =>
      go_enter Tryd.func25, Tryd.ntmps25
      go_wp2_with fail
      go_ret
      refine ⟨ret_bool ?_, Lib.hid (below_box _ _)⟩
      show _ = ((kd == 3) || (kd == 4))
      rw [k3, k4]
      rfl

set_option maxHeartbeats 400000 in
theorem prod_p (x : Nd) (w : World) : Calls Tryd.prog 27 #[x.val] w (RetB (.bool (prodK x.h.kind)) w) := by
  obtain ⟨⟨kd, n, d, nm, k⟩, A, len, cap⟩ := x
  simp only [Nd.val]
  cases k5 : (kd == 5) with
  | false =>
    cases k6 : (kd == 6) with
    | false =>
      go_enter Tryd.func27, Tryd.ntmps27
      go_wp2_with fail
      go_ret
      refine ⟨ret_bool ?_, Lib.hid (below_box _ _)⟩
      show _ = ((kd == 5) || (kd == 6))
      rw [k5, k6]
      rfl
    | true =>
      go_enter Tryd.func27, Tryd.ntmps27
      go_wp2_with fail
      go_ret
      refine ⟨ret_bool ?_, Lib.hid (below_box _ _)⟩
      show _ = ((kd == 5) || (kd == 6))
      rw [k5, k6]
      rfl
  | true =>
    cases k6 : (kd == 6) with
    | false =>
      go_enter Tryd.func27, Tryd.ntmps27
      go_wp2_with fail
      go_ret
      refine ⟨ret_bool ?_, Lib.hid (below_box _ _)⟩
      show _ = ((kd == 5) || (kd == 6))
      rw [k5, k6]
      rfl
    | true =>
      go_enter Tryd.func27, Tryd.ntmps27
      go_wp2_with fail
      go_ret
      refine ⟨ret_bool ?_, Lib.hid (below_box _ _)⟩
      show _ = ((kd == 5) || (kd == 6))
      rw [k5, k6]
      rfl

set_option maxHeartbeats 400000 in
theorem whl_p (x : Nd) (w : World) : Calls Tryd.prog 26 #[x.val] w (RetB (.bool (whl x.h)) w) := by
  obtain ⟨⟨kd, n, d, nm, k⟩, A, len, cap⟩ := x
  simp only [Nd.val]
  cases k1 : (kd == 1) with
  | false =>
    cases d1 : (d == 1) with
    | false =>
      go_enter Tryd.func26, Tryd.ntmps26
      go_wp2_with fail
      go_ret
      refine ⟨ret_bool ?_, Lib.hid (below_box _ _)⟩
      show _ = ((kd == 1) && (d == 1))
      rw [k1, d1]
      rfl
    | true =>
      go_enter Tryd.func26, Tryd.ntmps26
      go_wp2_with fail
      go_ret
      refine ⟨ret_bool ?_, Lib.hid (below_box _ _)⟩
      show _ = ((kd == 1) && (d == 1))
      rw [k1, d1]
      rfl
  | true =>
    cases d1 : (d == 1) with
    | false =>
      go_enter Tryd.func26, Tryd.ntmps26
      go_wp2_with fail
      go_ret
      refine ⟨ret_bool ?_, Lib.hid (below_box _ _)⟩
      show _ = ((kd == 1) && (d == 1))
      rw [k1, d1]
      rfl
    | true =>
      go_enter Tryd.func26, Tryd.ntmps26
      go_wp2_with fail
      go_ret
      refine ⟨ret_bool ?_, Lib.hid (below_box _ _)⟩
      show _ = ((kd == 1) && (d == 1))
      rw [k1, d1]
      rfl

set_option maxHeartbeats 400000 in
theorem brok_p (x : Nd) (w : World) : Calls Tryd.prog 28 #[x.val] w (RetB (.bool (brok x.h)) w) := by
  obtain ⟨⟨kd, n, d, nm, k⟩, A, len, cap⟩ := x
  simp only [Nd.val]
  cases k1 : (kd == 1) with
  | false =>
    cases e1 : (d != 1) with
    | false =>
      go_enter Tryd.func28, Tryd.ntmps28
      go_wp2_with fail
      go_ret
      refine ⟨ret_bool ?_, Lib.hid (below_box _ _)⟩
      show _ = ((kd == 1) && (d != 1))
      rw [k1, e1]
      rfl
    | true =>
      go_enter Tryd.func28, Tryd.ntmps28
      go_wp2_with fail
      go_ret
      refine ⟨ret_bool ?_, Lib.hid (below_box _ _)⟩
      show _ = ((kd == 1) && (d != 1))
      rw [k1, e1]
      rfl
  | true =>
    cases e1 : (d != 1) with
    | false =>
      go_enter Tryd.func28, Tryd.ntmps28
      go_wp2_with fail
      go_ret
      refine ⟨ret_bool ?_, Lib.hid (below_box _ _)⟩
      show _ = ((kd == 1) && (d != 1))
      rw [k1, e1]
      rfl
    | true =>
      go_enter Tryd.func28, Tryd.ntmps28
      go_wp2_with fail
      go_ret
      refine ⟨ret_bool ?_, Lib.hid (below_box _ _)⟩
      show _ = ((kd == 1) && (d != 1))
      rw [k1, e1]
      rfl

set_option maxHeartbeats 400000 in
theorem sum_r (x : Nd) (w : World) : Calls Tryd.prog 16 #[x.val] w (RetB (.bool (sumK x.h.kind)) w) := by
  obtain ⟨⟨kd, n, d, nm, k⟩, A, len, cap⟩ := x
  simp only [Nd.val]
  cases k3 : (kd == 3) with
  | false =>
    cases k4 : (kd == 4) with
    | false =>
      go_enter Tryd.func16, Tryd.ntmps16
      go_wp2_with fail
      go_ret
      refine ⟨ret_bool ?_, Lib.hid (below_box _ _)⟩
      show _ = ((kd == 3) || (kd == 4))
      rw [k3, k4]
      rfl
    | true =>
      go_enter Tryd.func16, Tryd.ntmps16
      go_wp2_with fail
      go_ret
      refine ⟨ret_bool ?_, Lib.hid (below_box _ _)⟩
      show _ = ((kd == 3) || (kd == 4))
      rw [k3, k4]
      rfl
  | true =>
    cases k4 : (kd == 4) with
    | false =>
      go_enter Tryd.func16, Tryd.ntmps16
      go_wp2_with fail
      go_ret
      refine ⟨ret_bool ?_, Lib.hid (below_box _ _)⟩
      show _ = ((kd == 3) || (kd == 4))
      rw [k3, k4]
      rfl
    | true =>
      go_enter Tryd.func16, Tryd.ntmps16
      go_wp2_with fail
      go_ret
      refine ⟨ret_bool ?_, Lib.hid (below_box _ _)⟩
      show _ = ((kd == 3) || (kd == 4))
      rw [k3, k4]
      rfl

set_option maxHeartbeats 400000 in
theorem prod_r (x : Nd) (w : World) : Calls Tryd.prog 17 #[x.val] w (RetB (.bool (prodK x.h.kind)) w) := by
  obtain ⟨⟨kd, n, d, nm, k⟩, A, len, cap⟩ := x
  simp only [Nd.val]
  cases k5 : (kd == 5) with
  | false =>
    cases k6 : (kd == 6) with
    | false =>
      go_enter Tryd.func17, Tryd.ntmps17
      go_wp2_with fail
      go_ret
      refine ⟨ret_bool ?_, Lib.hid (below_box _ _)⟩
      show _ = ((kd == 5) || (kd == 6))
      rw [k5, k6]
      rfl
    | true =>
      go_enter Tryd.func17, Tryd.ntmps17
      go_wp2_with fail
      go_ret
      refine ⟨ret_bool ?_, Lib.hid (below_box _ _)⟩
      show _ = ((kd == 5) || (kd == 6))
      rw [k5, k6]
      rfl
  | true =>
    cases k6 : (kd == 6) with
    | false =>
      go_enter Tryd.func17, Tryd.ntmps17
      go_wp2_with fail
      go_ret
      refine ⟨ret_bool ?_, Lib.hid (below_box _ _)⟩
      show _ = ((kd == 5) || (kd == 6))
      rw [k5, k6]
      rfl
    | true =>
      go_enter Tryd.func17, Tryd.ntmps17
      go_wp2_with fail
      go_ret
      refine ⟨ret_bool ?_, Lib.hid (below_box _ _)⟩
      show _ = ((kd == 5) || (kd == 6))
      rw [k5, k6]
      rfl

set_option maxHeartbeats 400000 in
theorem brok_r (x : Nd) (w : World) : Calls Tryd.prog 18 #[x.val] w (RetB (.bool (brok x.h)) w) := by
  obtain ⟨⟨kd, n, d, nm, k⟩, A, len, cap⟩ := x
  simp only [Nd.val]
  cases k1 : (kd == 1) with
  | false =>
    cases e1 : (d != 1) with
    | false =>
      go_enter Tryd.func18, Tryd.ntmps18
      go_wp2_with fail
      go_ret
      refine ⟨ret_bool ?_, Lib.hid (below_box _ _)⟩
      show _ = ((kd == 1) && (d != 1))
      rw [k1, e1]
      rfl
    | true =>
      go_enter Tryd.func18, Tryd.ntmps18
      go_wp2_with fail
      go_ret
      refine ⟨ret_bool ?_, Lib.hid (below_box _ _)⟩
      show _ = ((kd == 1) && (d != 1))
      rw [k1, e1]
      rfl
  | true =>
    cases e1 : (d != 1) with
    | false =>
      go_enter Tryd.func18, Tryd.ntmps18
      go_wp2_with fail
      go_ret
      refine ⟨ret_bool ?_, Lib.hid (below_box _ _)⟩
      show _ = ((kd == 1) && (d != 1))
      rw [k1, e1]
      rfl
    | true =>
      go_enter Tryd.func18, Tryd.ntmps18
      go_wp2_with fail
      go_ret
      refine ⟨ret_bool ?_, Lib.hid (below_box _ _)⟩
      show _ = ((kd == 1) && (d != 1))
      rw [k1, e1]
      rfl

set_option maxHeartbeats 400000 in
theorem whl_r (x : Nd) (w : World) : Calls Tryd.prog 19 #[x.val] w (RetB (.bool (whl x.h && decide (0 ≤ x.h.n))) w) := by
  obtain ⟨⟨kd, n, d, nm, k⟩, A, len, cap⟩ := x
  simp only [Nd.val]
  cases k1 : (kd == 1) with
  | false =>
    cases d1 : (d == 1) with
    | false =>
      cases n0 : decide (0 ≤ n) with
      | false =>
        go_enter Tryd.func19, Tryd.ntmps19
        go_wp2_with fail
        go_ret
        refine ⟨ret_bool ?_, Lib.hid (below_box _ _)⟩
        show _ = (((kd == 1) && (d == 1)) && false)
        rw [k1, d1]
        rfl
      | true =>
        go_enter Tryd.func19, Tryd.ntmps19
        go_wp2_with fail
        go_ret
        refine ⟨ret_bool ?_, Lib.hid (below_box _ _)⟩
        show _ = (((kd == 1) && (d == 1)) && true)
        rw [k1, d1]
        rfl
    | true =>
      cases n0 : decide (0 ≤ n) with
      | false =>
        go_enter Tryd.func19, Tryd.ntmps19
        go_wp2_with fail
        go_ret
        refine ⟨ret_bool ?_, Lib.hid (below_box _ _)⟩
        show _ = (((kd == 1) && (d == 1)) && false)
        rw [k1, d1]
        rfl
      | true =>
        go_enter Tryd.func19, Tryd.ntmps19
        go_wp2_with fail
        go_ret
        refine ⟨ret_bool ?_, Lib.hid (below_box _ _)⟩
        show _ = (((kd == 1) && (d == 1)) && true)
        rw [k1, d1]
        rfl
  | true =>
    cases d1 : (d == 1) with
    | false =>
      cases n0 : decide (0 ≤ n) with
      | false =>
        go_enter Tryd.func19, Tryd.ntmps19
        go_wp2_with fail
        go_ret
        refine ⟨ret_bool ?_, Lib.hid (below_box _ _)⟩
        show _ = (((kd == 1) && (d == 1)) && false)
        rw [k1, d1]
        rfl
      | true =>
        go_enter Tryd.func19, Tryd.ntmps19
        go_wp2_with fail
        go_ret
        refine ⟨ret_bool ?_, Lib.hid (below_box _ _)⟩
        show _ = (((kd == 1) && (d == 1)) && true)
        rw [k1, d1]
        rfl
    | true =>
      cases n0 : decide (0 ≤ n) with
      | false =>
        go_enter Tryd.func19, Tryd.ntmps19
        go_wp2_with fail
        go_ret
        refine ⟨ret_bool ?_, Lib.hid (below_box _ _)⟩
        show _ = (((kd == 1) && (d == 1)) && false)
        rw [k1, d1]
        rfl
      | true =>
        go_enter Tryd.func19, Tryd.ntmps19
        go_wp2_with fail
        go_ret
        refine ⟨ret_bool ?_, Lib.hid (below_box _ _)⟩
        show _ = (((kd == 1) && (d == 1)) && true)
        rw [k1, d1]
        rfl
end Go.Proofs.YtoogeihbhhcpaaaDoor
