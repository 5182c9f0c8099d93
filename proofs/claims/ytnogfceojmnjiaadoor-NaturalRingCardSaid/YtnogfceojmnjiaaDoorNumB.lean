/-
  Walks of math/bits.Add32, Sub32, Div32.
-/
import Derived.Test.YtnogfceojmnjiaaDoorNumA
import Derived.Test.YtnogfceojmnjiaaDoorNumBits
namespace Go.Proofs.YtnogfceojmnjiaaDoor
open Go.RowKit Go.Fl Go.Fl.Nm

theorem ret_ints {k k' : IntKind} {a b a' b' : Int} (h : a = a') (h' : b = b') : Ending.returned (.tuple #[.int k a, .int k' b]) = .returned (.tuple #[.int k a', .int k' b']) := by rw [h, h']

theorem mod_div (Z y : Nat) (h : Z / y < 4294967296) : ((Z : Int) / y) % 4294967296 = ((Z / y : Nat) : Int) := by
  rw [← Int.natCast_ediv]; generalize Z / y = q at *; omega
theorem mod_mod (Z y : Nat) (h : Z % y < 4294967296) : ((Z : Int) % y) % 4294967296 = ((Z % y : Nat) : Int) := by
  rw [← Int.natCast_emod]; generalize Z % y = q at *; omega

set_option maxHeartbeats 400000 in
theorem add32_any (x y c : Nat) (w : World) (hx : x < 4294967296) (hy : y < 4294967296) (hc : c ≤ 1) :
    Calls Tryd.prog 35 #[.int .u32 x, .int .u32 y, .int .u32 c] w fun e w' => e = .returned (.tuple #[.int .u32 ((x + y + c) % 4294967296 : Nat), .int .u32 ((x + y + c) / 4294967296 : Nat)]) ∧ w = w' := by
  go_enter Tryd.func35, Tryd.ntmps35
  go_wp2
  go_ret2
  exact ⟨ret_ints (by simp) (by simp), rfl⟩

set_option maxHeartbeats 400000 in
theorem sub32_any (x y c : Nat) (w : World) (hx : x < 4294967296) (hy : y < 4294967296) (hc : c ≤ 1) :
    Calls Tryd.prog 36 #[.int .u32 x, .int .u32 y, .int .u32 c] w fun e w' => e = .returned (.tuple #[.int .u32 (((x : Int) - y - c) % 4294967296), .int .u32 (bor x y c : Nat)]) ∧ w = w' := by
  have HB := Lib.hid (sub32_bits x y c hx hy hc)
  go_enter Tryd.func36, Tryd.ntmps36
  go_wp2
  all_goals try trivial
  go_ret2
  exact ⟨ret_ints rfl HB.out, rfl⟩

set_option maxHeartbeats 400000 in
theorem div32_any (h l y : Nat) (w : World) (hh : h < y) (hl : l < 4294967296) (hy : y < 4294967296) :
    Calls Tryd.prog 41 #[.int .u32 h, .int .u32 l, .int .u32 y] w fun e w' => e = .returned (.tuple #[.int .u32 ((h * 4294967296 + l) / y : Nat), .int .u32 ((h * 4294967296 + l) % y : Nat)]) ∧ ∃ n, w' = w.drewN n := by
  have y0 : ((y : Int) == 0) = false := by rw [beq_eq_false_iff_ne]; omega
  have y1 : ((y : Int) != 0) = true := by rw [bne_iff_ne]; omega
  have y2 : decide (y ≤ h) = false := by simp; omega
  have y3 : ¬ ((y : Int) = 0) := by omega
  have hz := or_join64 (h * 4294967296) l (by omega) (by omega) hl
  rw [show ((h * 4294967296 : Nat) : Int) = (h : Int) * 4294967296 by omega] at hz
  have hq : (h * 4294967296 + l) / y < 4294967296 := by
    rw [Nat.div_lt_iff_lt_mul (by omega)]
    have : (h + 1) * 4294967296 ≤ y * 4294967296 := Nat.mul_le_mul_right _ hh
    omega
  have hr : (h * 4294967296 + l) % y < y := Nat.mod_lt _ (by omega)
  have HQ := Lib.hid hq
  have HR := Lib.hid hr
  clear hq hr
  go_enter Tryd.func41, Tryd.ntmps41
  go_wp2
  go_quiet (fail)
  go_wp2
  go_ret2
  have e : (h : Int) * 4294967296 + l = ((h * 4294967296 + l : Nat) : Int) := by omega
  exact ⟨ret_ints (by rw [e]; exact mod_div _ _ HQ.out) (by rw [e]; exact mod_mod _ _ (Nat.lt_trans HR.out hy)), _, rfl⟩
end Go.Proofs.YtnogfceojmnjiaaDoor
