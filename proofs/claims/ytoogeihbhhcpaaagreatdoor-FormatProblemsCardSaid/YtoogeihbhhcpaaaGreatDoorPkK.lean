/-
  The walks of size, gcd, Valid (of ratio and of the reference), ratio.Make.
  The walks of ratio.Make; the reference's lowest, checked, Make.
  Contracts of the kit's shelf at this dump: written by its lay-shelf.mjs and lay-plain.mjs, cut down to what is used here (cutshelf.py).
  The walks of ratio.Text, the reference's decimal, Text.
-/
import Derived.Test.YtoogeihbhhcpaaaGreatDoorPkH
import Derived.Test.YtoogeihbhhcpaaaGreatDoorPkA
import Derived.Shelf.Small.Utf8
import Derived.Shelf.Small.Bits
import Derived.Shelf.Small.Strs
import Derived.Shelf.Small.Wraps
import Derived.Shelf.Strconv.Itoa0
import Derived.Shelf.Strconv.Itoa1
import Derived.Shelf.LaysM
import Derived.Shelf.Strconv.Itoa2
import Derived.Shelf.Strconv.Itoa3
import Derived.Test.YtoogeihbhhcpaaaGreatDoorProg
import Derived.Test.YtoogeihbhhcpaaaGreatDoorPkP
import Derived.Lib.ItoaLen
import Derived.Laws.BytesArg
set_option linter.unusedVariables false
namespace Go.Fl
open Go.RowKit
end Go.Fl
namespace Go.Fl.Rt
def vB (n d : Int) : Bool := decide (valid n d)
theorem vB_iff {n d : Int} : vB n d = true ↔ valid n d := by simp [vB]
theorem gcd_step (x y : Nat) : Nat.gcd x y = Nat.gcd y (x % y) := by rw [Nat.gcd_comm x y, Nat.gcd_rec, Nat.gcd_comm]
end Go.Fl.Rt
namespace Go.Proofs.YtoogeihbhhcpaaaGreatDoor
open Go.RowKit Go.Fl Go.Fl.Nm Go.Fl.Dy Go.Fl.Rt
def GcdPost (g : Nat) (w : World) (e : Ending) (w' : World) : Prop := e = .returned (.int .u64 (g : Nat)) ∧ ∃ q, w' = w.drewN q
set_option maxHeartbeats 400000 in
theorem size_q (n : Int) (w : World) (h1 : -9223372036854775808 ≤ n) (h2 : n ≤ 9223372036854775807) :
    Calls Tryz.prog 59 #[.int .i64 n] w fun e w' => e = .returned (.int .u64 (n.natAbs : Nat)) ∧ w = w' := by
  by_cases hn : n < 0
  · have dn : decide (n < 0) = true := decide_eq_true hn
    have e1 : IntKind.u64.wrap (-n) = -n := by rw [IntKind.wrap_u64]; omega
    have e2 : (n.natAbs : Int) = -n := by omega
    by_cases hm : n = -9223372036854775808
    · subst hm
      go_enter Tryz.func59, Tryz.ntmps59
      go_wp2
      go_ret
      exact ⟨ret_int (by kernel_rfl), rfl⟩
    · have h3 : -n ≤ 9223372036854775807 := by omega
      have HE := Lib.hid e2
      clear e2 hm
      go_enter Tryz.func59, Tryz.ntmps59
      go_wp2
      go_ret
      exact ⟨ret_int (by rw [HE.out]), rfl⟩
  · have dn : decide (n < 0) = false := decide_eq_false hn
    have e1 : IntKind.u64.wrap n = n := by rw [IntKind.wrap_u64]; omega
    have HE := Lib.hid (show (n.natAbs : Int) = n by omega)
    go_enter Tryz.func59, Tryz.ntmps59
    go_wp2
    go_ret
    exact ⟨ret_int (by rw [HE.out]), rfl⟩

set_option maxHeartbeats 400000 in
theorem size_r (n : Int) (w : World) (h1 : -9223372036854775808 ≤ n) (h2 : n ≤ 9223372036854775807) :
    Calls Tryz.prog 61 #[.int .i64 n] w fun e w' => e = .returned (.int .u64 (n.natAbs : Nat)) ∧ w = w' := by
  by_cases hn : n < 0
  · have dn : decide (n < 0) = true := decide_eq_true hn
    have e1 : IntKind.u64.wrap (-(n + 1)) = -(n + 1) := by rw [IntKind.wrap_u64]; omega
    have e3 : IntKind.u64.wrap (-(n + 1) + 1) = -n := by rw [IntKind.wrap_u64]; omega
    have HE := Lib.hid (show (n.natAbs : Int) = -n by omega)
    go_enter Tryz.func61, Tryz.ntmps61
    go_wp2
    go_ret
    exact ⟨ret_int (by rw [HE.out]; try omega), rfl⟩
  · have dn : decide (n < 0) = false := decide_eq_false hn
    have e1 : IntKind.u64.wrap n = n := by rw [IntKind.wrap_u64]; omega
    have HE := Lib.hid (show (n.natAbs : Int) = n by omega)
    go_enter Tryz.func61, Tryz.ntmps61
    go_wp2
    go_ret
    exact ⟨ret_int (by rw [HE.out]), rfl⟩

set_option maxHeartbeats 400000 in
theorem gcd_q (a b : Nat) (w : World) (ha : a < 18446744073709551616) (hb : b < 18446744073709551616) :
    Calls Tryz.prog 58 #[.int .u64 a, .int .u64 b] w (GcdPost (Nat.gcd a b) w) := by
  go_enter Tryz.func58, Tryz.ntmps58
  go_wp2_with fail
  go_loopg [0, 1] b (fun k x y wr => ∃ (d X Y : Nat), wr = w.drewN d ∧ x = .int .u64 X ∧ y = .int .u64 Y ∧ X < 18446744073709551616 ∧ Y < 18446744073709551616 ∧ Y = k ∧ Hid (Nat.gcd X Y = Nat.gcd a b))
  case atStart => exact ⟨0, a, b, rfl, rfl, rfl, ha, hb, rfl, Lib.hid rfl⟩
  case round =>
    obtain ⟨d, X, Y, rfl, rfl, rfl, hX, hY, rfl, HG⟩ := hrel
    by_cases h0 : Y = 0
    · subst h0
      go_wp2_with fail
      go_ret
      exact ⟨ret_int (by rw [← HG.out, Nat.gcd_zero_right]), d, rfl⟩
    · have d0 : ((Y : Int) != 0) = true := by simp; exact h0
      have d1 : ((Y : Int) == 0) = false := by rw [beq_eq_false_iff_ne]; omega
      have hlt := Nat.mod_lt X (by omega : 0 < Y)
      have HG2 := Lib.hid (show Nat.gcd Y (X % Y) = Nat.gcd a b by rw [← gcd_step, HG.out])
      have HM := Lib.hid (show ((X : Int).tmod Y) = ((X % Y : Nat) : Int) by rw [Int.tmod_eq_emod_of_nonneg (by omega)]; rfl)
      go_wp2_with fail
      go_quiet (fail)
      go_wp2_with fail
      go_roundg (X % Y)
      case measure => exact hlt
      case rel => exact ⟨_, Y, X % Y, drewN_drewN w d _, rfl, by first | rfl | go_num, hY, by omega, rfl, HG2⟩

set_option maxHeartbeats 400000 in
theorem gcd_r (a b : Nat) (w : World) (ha : a < 18446744073709551616) (hb : b < 18446744073709551616) :
    Calls Tryz.prog 60 #[.int .u64 a, .int .u64 b] w (GcdPost (Nat.gcd a b) w) := by
  go_enter Tryz.func60, Tryz.ntmps60
  go_wp2_with fail
  go_loopg [0, 1] b (fun k x y wr => ∃ (d X Y : Nat), wr = w.drewN d ∧ x = .int .u64 X ∧ y = .int .u64 Y ∧ X < 18446744073709551616 ∧ Y < 18446744073709551616 ∧ Y = k ∧ Hid (Nat.gcd X Y = Nat.gcd a b))
  case atStart => exact ⟨0, a, b, rfl, rfl, rfl, ha, hb, rfl, Lib.hid rfl⟩
  case round =>
    obtain ⟨d, X, Y, rfl, rfl, rfl, hX, hY, rfl, HG⟩ := hrel
    by_cases h0 : Y = 0
    · subst h0
      go_wp2_with fail
      go_ret
      exact ⟨ret_int (by rw [← HG.out, Nat.gcd_zero_right]), d, rfl⟩
    · have d0 : ((Y : Int) != 0) = true := by simp; exact h0
      have d1 : ((Y : Int) == 0) = false := by rw [beq_eq_false_iff_ne]; omega
      have hlt := Nat.mod_lt X (by omega : 0 < Y)
      have HG2 := Lib.hid (show Nat.gcd Y (X % Y) = Nat.gcd a b by rw [← gcd_step, HG.out])
      have HM := Lib.hid (show ((X : Int).tmod Y) = ((X % Y : Nat) : Int) by rw [Int.tmod_eq_emod_of_nonneg (by omega)]; rfl)
      go_wp2_with fail
      go_quiet (fail)
      go_wp2_with fail
      go_roundg (X % Y)
      case measure => exact hlt
      case rel => exact ⟨_, Y, X % Y, drewN_drewN w d _, rfl, by first | rfl | go_num, hY, by omega, rfl, HG2⟩

set_option maxHeartbeats 1000000 in
theorem valid_q (n d : Int) (w : World) (h1 : -9223372036854775808 ≤ n) (h2 : n ≤ 9223372036854775807) (h3 : -9223372036854775808 ≤ d) (h4 : d ≤ 9223372036854775807) :
    Calls Tryz.prog 29 #[.agg #[.int .i64 n, .int .i64 d]] w (Ret (.bool (vB n d)) w) := by
  by_cases t1 : 1 ≤ d
  case neg =>
    have dd : decide (1 ≤ d) = false := decide_eq_false t1
    have HR := Lib.hid (show vB n d = false by rw [vB, decide_eq_false_iff_not]; rintro ⟨a1, a2, a3, a4, _⟩; unfold MX at *; omega)
    clear t1
    go_enter Tryz.func29, Tryz.ntmps29
    go_wp2_with fail
    obtain ⟨w1, hw⟩ : ∃ z9 : World, z9 = (w.alloc (.cells #[.int .i64 n, .int .i64 d] 25)) := ⟨_, rfl⟩
    have HB1 := Lib.hid (show Below w.heap.size w w1 by rw [hw]; exact below_a1 _ _)
    have F1k := Lib.hid (show Blk w1 (w.heap.size) 25 #[.int .i64 n, .int .i64 d] by rw [hw]; exact Blk.new _ _ _)
    rw [← hw]
    clear hw
    have pk0 : (w1).cell? ⟨w.heap.size, 0, none⟩ = some (.int .i64 n) := F1k.out.cell 0
    have fk0 : (w1).frozen? ⟨w.heap.size, 0, none⟩ = false := F1k.out.frozen 0
    have pk1 : (w1).cell? ⟨w.heap.size, 1, none⟩ = some (.int .i64 d) := F1k.out.cell 1
    have fk1 : (w1).frozen? ⟨w.heap.size, 1, none⟩ = false := F1k.out.frozen 1
    go_quiet (fail)
    go_wp2_with fail
    go_ret
    exact ⟨ret_bool (by rw [HR.out]), Lib.hid (below_drewN HB1.out _)⟩
  have dt1 : decide (1 ≤ d) = true := decide_eq_true t1
  by_cases t2 : d ≤ 1073741824
  case neg =>
    have dd : decide (d ≤ 1073741824) = false := decide_eq_false t2
    have HR := Lib.hid (show vB n d = false by rw [vB, decide_eq_false_iff_not]; rintro ⟨a1, a2, a3, a4, _⟩; unfold MX at *; omega)
    clear t2
    go_enter Tryz.func29, Tryz.ntmps29
    go_wp2_with fail
    obtain ⟨w1, hw⟩ : ∃ z9 : World, z9 = (w.alloc (.cells #[.int .i64 n, .int .i64 d] 25)) := ⟨_, rfl⟩
    have HB1 := Lib.hid (show Below w.heap.size w w1 by rw [hw]; exact below_a1 _ _)
    have F1k := Lib.hid (show Blk w1 (w.heap.size) 25 #[.int .i64 n, .int .i64 d] by rw [hw]; exact Blk.new _ _ _)
    rw [← hw]
    clear hw
    have pk0 : (w1).cell? ⟨w.heap.size, 0, none⟩ = some (.int .i64 n) := F1k.out.cell 0
    have fk0 : (w1).frozen? ⟨w.heap.size, 0, none⟩ = false := F1k.out.frozen 0
    have pk1 : (w1).cell? ⟨w.heap.size, 1, none⟩ = some (.int .i64 d) := F1k.out.cell 1
    have fk1 : (w1).frozen? ⟨w.heap.size, 1, none⟩ = false := F1k.out.frozen 1
    go_quiet (fail)
    go_wp2_with fail
    go_ret
    exact ⟨ret_bool (by rw [HR.out]), Lib.hid (below_drewN HB1.out _)⟩
  have dt2 : decide (d ≤ 1073741824) = true := decide_eq_true t2
  by_cases t3 : -1073741824 ≤ n
  case neg =>
    have dd : decide (-1073741824 ≤ n) = false := decide_eq_false t3
    have HR := Lib.hid (show vB n d = false by rw [vB, decide_eq_false_iff_not]; rintro ⟨a1, a2, a3, a4, _⟩; unfold MX at *; omega)
    clear t3
    go_enter Tryz.func29, Tryz.ntmps29
    go_wp2_with fail
    obtain ⟨w1, hw⟩ : ∃ z9 : World, z9 = (w.alloc (.cells #[.int .i64 n, .int .i64 d] 25)) := ⟨_, rfl⟩
    have HB1 := Lib.hid (show Below w.heap.size w w1 by rw [hw]; exact below_a1 _ _)
    have F1k := Lib.hid (show Blk w1 (w.heap.size) 25 #[.int .i64 n, .int .i64 d] by rw [hw]; exact Blk.new _ _ _)
    rw [← hw]
    clear hw
    have pk0 : (w1).cell? ⟨w.heap.size, 0, none⟩ = some (.int .i64 n) := F1k.out.cell 0
    have fk0 : (w1).frozen? ⟨w.heap.size, 0, none⟩ = false := F1k.out.frozen 0
    have pk1 : (w1).cell? ⟨w.heap.size, 1, none⟩ = some (.int .i64 d) := F1k.out.cell 1
    have fk1 : (w1).frozen? ⟨w.heap.size, 1, none⟩ = false := F1k.out.frozen 1
    go_quiet (fail)
    go_wp2_with fail
    go_ret
    exact ⟨ret_bool (by rw [HR.out]), Lib.hid (below_drewN HB1.out _)⟩
  have dt3 : decide (-1073741824 ≤ n) = true := decide_eq_true t3
  by_cases t4 : n ≤ 1073741824
  case neg =>
    have dd : decide (n ≤ 1073741824) = false := decide_eq_false t4
    have HR := Lib.hid (show vB n d = false by rw [vB, decide_eq_false_iff_not]; rintro ⟨a1, a2, a3, a4, _⟩; unfold MX at *; omega)
    clear t4
    go_enter Tryz.func29, Tryz.ntmps29
    go_wp2_with fail
    obtain ⟨w1, hw⟩ : ∃ z9 : World, z9 = (w.alloc (.cells #[.int .i64 n, .int .i64 d] 25)) := ⟨_, rfl⟩
    have HB1 := Lib.hid (show Below w.heap.size w w1 by rw [hw]; exact below_a1 _ _)
    have F1k := Lib.hid (show Blk w1 (w.heap.size) 25 #[.int .i64 n, .int .i64 d] by rw [hw]; exact Blk.new _ _ _)
    rw [← hw]
    clear hw
    have pk0 : (w1).cell? ⟨w.heap.size, 0, none⟩ = some (.int .i64 n) := F1k.out.cell 0
    have fk0 : (w1).frozen? ⟨w.heap.size, 0, none⟩ = false := F1k.out.frozen 0
    have pk1 : (w1).cell? ⟨w.heap.size, 1, none⟩ = some (.int .i64 d) := F1k.out.cell 1
    have fk1 : (w1).frozen? ⟨w.heap.size, 1, none⟩ = false := F1k.out.frozen 1
    go_quiet (fail)
    go_wp2_with fail
    go_ret
    exact ⟨ret_bool (by rw [HR.out]), Lib.hid (below_drewN HB1.out _)⟩
  have dt4 : decide (n ≤ 1073741824) = true := decide_eq_true t4
  by_cases t5 : Nat.gcd n.natAbs d.natAbs = 1
  · have d5 : (((Nat.gcd n.natAbs d.natAbs : Nat) : Int) == 1) = true := by simp; omega
    have HR := Lib.hid (show vB n d = true by rw [vB]; rw [decide_eq_true_iff]; exact ⟨t1, by unfold MX; omega, by unfold MX; omega, by unfold MX; omega, t5⟩)
    clear t5
    go_enter Tryz.func29, Tryz.ntmps29
    go_wp2_with fail
    obtain ⟨w1, hw⟩ : ∃ z9 : World, z9 = (w.alloc (.cells #[.int .i64 n, .int .i64 d] 25)) := ⟨_, rfl⟩
    have HB1 := Lib.hid (show Below w.heap.size w w1 by rw [hw]; exact below_a1 _ _)
    have F1k := Lib.hid (show Blk w1 (w.heap.size) 25 #[.int .i64 n, .int .i64 d] by rw [hw]; exact Blk.new _ _ _)
    rw [← hw]
    clear hw
    have pk0 : (w1).cell? ⟨w.heap.size, 0, none⟩ = some (.int .i64 n) := F1k.out.cell 0
    have fk0 : (w1).frozen? ⟨w.heap.size, 0, none⟩ = false := F1k.out.frozen 0
    have pk1 : (w1).cell? ⟨w.heap.size, 1, none⟩ = some (.int .i64 d) := F1k.out.cell 1
    have fk1 : (w1).frozen? ⟨w.heap.size, 1, none⟩ = false := F1k.out.frozen 1
    have KN := Lib.hid (fun q => size_q n (w1.drewN q) h1 h2)
    have KG := Lib.hid (fun q => gcd_q n.natAbs d.natAbs (w1.drewN q) (by omega) (by omega))
    have KD := Lib.hid (fun q => size_q d (w1.drewN q) h3 h4)
    go_quiet ((first | (go_at_call_of 59 (Value.int .i64 n); exact quiet_left (KN.out _)) | (go_at_call_of 59 (Value.int .i64 d); exact quiet_left (KD.out _)) | (go_at_call 58; exact quiet_left2 (KG.out _))))
    go_wp2_with fail
    go_ret
    exact ⟨ret_bool (by rw [HR.out]), Lib.hid (below_drewN HB1.out _)⟩
  · have d5 : (((Nat.gcd n.natAbs d.natAbs : Nat) : Int) == 1) = false := by simp; omega
    have HR := Lib.hid (show vB n d = false by rw [vB]; rw [decide_eq_false_iff_not]; rintro ⟨_, _, _, _, a5⟩; exact t5 a5)
    clear t5
    go_enter Tryz.func29, Tryz.ntmps29
    go_wp2_with fail
    obtain ⟨w1, hw⟩ : ∃ z9 : World, z9 = (w.alloc (.cells #[.int .i64 n, .int .i64 d] 25)) := ⟨_, rfl⟩
    have HB1 := Lib.hid (show Below w.heap.size w w1 by rw [hw]; exact below_a1 _ _)
    have F1k := Lib.hid (show Blk w1 (w.heap.size) 25 #[.int .i64 n, .int .i64 d] by rw [hw]; exact Blk.new _ _ _)
    rw [← hw]
    clear hw
    have pk0 : (w1).cell? ⟨w.heap.size, 0, none⟩ = some (.int .i64 n) := F1k.out.cell 0
    have fk0 : (w1).frozen? ⟨w.heap.size, 0, none⟩ = false := F1k.out.frozen 0
    have pk1 : (w1).cell? ⟨w.heap.size, 1, none⟩ = some (.int .i64 d) := F1k.out.cell 1
    have fk1 : (w1).frozen? ⟨w.heap.size, 1, none⟩ = false := F1k.out.frozen 1
    have KN := Lib.hid (fun q => size_q n (w1.drewN q) h1 h2)
    have KG := Lib.hid (fun q => gcd_q n.natAbs d.natAbs (w1.drewN q) (by omega) (by omega))
    have KD := Lib.hid (fun q => size_q d (w1.drewN q) h3 h4)
    go_quiet ((first | (go_at_call_of 59 (Value.int .i64 n); exact quiet_left (KN.out _)) | (go_at_call_of 59 (Value.int .i64 d); exact quiet_left (KD.out _)) | (go_at_call 58; exact quiet_left2 (KG.out _))))
    go_wp2_with fail
    go_ret
    exact ⟨ret_bool (by rw [HR.out]), Lib.hid (below_drewN HB1.out _)⟩

set_option maxHeartbeats 1000000 in
theorem valid_r (n d : Int) (w : World) (h1 : -9223372036854775808 ≤ n) (h2 : n ≤ 9223372036854775807) (h3 : -9223372036854775808 ≤ d) (h4 : d ≤ 9223372036854775807) :
    Calls Tryz.prog 30 #[.agg #[.int .i64 n, .int .i64 d]] w (Ret (.bool (vB n d)) w) := by
  by_cases t1 : 1 ≤ d
  case neg =>
    have dd : decide (1 ≤ d) = false := decide_eq_false t1
    have HR := Lib.hid (show vB n d = false by rw [vB, decide_eq_false_iff_not]; rintro ⟨a1, a2, a3, a4, _⟩; unfold MX at *; omega)
    clear t1
    go_enter Tryz.func30, Tryz.ntmps30
    go_wp2_with fail
    obtain ⟨w1, hw⟩ : ∃ z9 : World, z9 = (w.alloc (.cells #[.int .i64 n, .int .i64 d] 25)) := ⟨_, rfl⟩
    have HB1 := Lib.hid (show Below w.heap.size w w1 by rw [hw]; exact below_a1 _ _)
    have F1k := Lib.hid (show Blk w1 (w.heap.size) 25 #[.int .i64 n, .int .i64 d] by rw [hw]; exact Blk.new _ _ _)
    rw [← hw]
    clear hw
    have pk0 : (w1).cell? ⟨w.heap.size, 0, none⟩ = some (.int .i64 n) := F1k.out.cell 0
    have fk0 : (w1).frozen? ⟨w.heap.size, 0, none⟩ = false := F1k.out.frozen 0
    have pk1 : (w1).cell? ⟨w.heap.size, 1, none⟩ = some (.int .i64 d) := F1k.out.cell 1
    have fk1 : (w1).frozen? ⟨w.heap.size, 1, none⟩ = false := F1k.out.frozen 1
    go_quiet (fail)
    go_wp2_with fail
    go_ret
    exact ⟨ret_bool (by rw [HR.out]), Lib.hid (below_drewN HB1.out _)⟩
  have dt1 : decide (1 ≤ d) = true := decide_eq_true t1
  by_cases t2 : d ≤ 1073741824
  case neg =>
    have dd : decide (d ≤ 1073741824) = false := decide_eq_false t2
    have HR := Lib.hid (show vB n d = false by rw [vB, decide_eq_false_iff_not]; rintro ⟨a1, a2, a3, a4, _⟩; unfold MX at *; omega)
    clear t2
    go_enter Tryz.func30, Tryz.ntmps30
    go_wp2_with fail
    obtain ⟨w1, hw⟩ : ∃ z9 : World, z9 = (w.alloc (.cells #[.int .i64 n, .int .i64 d] 25)) := ⟨_, rfl⟩
    have HB1 := Lib.hid (show Below w.heap.size w w1 by rw [hw]; exact below_a1 _ _)
    have F1k := Lib.hid (show Blk w1 (w.heap.size) 25 #[.int .i64 n, .int .i64 d] by rw [hw]; exact Blk.new _ _ _)
    rw [← hw]
    clear hw
    have pk0 : (w1).cell? ⟨w.heap.size, 0, none⟩ = some (.int .i64 n) := F1k.out.cell 0
    have fk0 : (w1).frozen? ⟨w.heap.size, 0, none⟩ = false := F1k.out.frozen 0
    have pk1 : (w1).cell? ⟨w.heap.size, 1, none⟩ = some (.int .i64 d) := F1k.out.cell 1
    have fk1 : (w1).frozen? ⟨w.heap.size, 1, none⟩ = false := F1k.out.frozen 1
    go_quiet (fail)
    go_wp2_with fail
    go_ret
    exact ⟨ret_bool (by rw [HR.out]), Lib.hid (below_drewN HB1.out _)⟩
  have dt2 : decide (d ≤ 1073741824) = true := decide_eq_true t2
  by_cases t3 : -1073741824 ≤ n
  case neg =>
    have dd : decide (-1073741824 ≤ n) = false := decide_eq_false t3
    have HR := Lib.hid (show vB n d = false by rw [vB, decide_eq_false_iff_not]; rintro ⟨a1, a2, a3, a4, _⟩; unfold MX at *; omega)
    clear t3
    go_enter Tryz.func30, Tryz.ntmps30
    go_wp2_with fail
    obtain ⟨w1, hw⟩ : ∃ z9 : World, z9 = (w.alloc (.cells #[.int .i64 n, .int .i64 d] 25)) := ⟨_, rfl⟩
    have HB1 := Lib.hid (show Below w.heap.size w w1 by rw [hw]; exact below_a1 _ _)
    have F1k := Lib.hid (show Blk w1 (w.heap.size) 25 #[.int .i64 n, .int .i64 d] by rw [hw]; exact Blk.new _ _ _)
    rw [← hw]
    clear hw
    have pk0 : (w1).cell? ⟨w.heap.size, 0, none⟩ = some (.int .i64 n) := F1k.out.cell 0
    have fk0 : (w1).frozen? ⟨w.heap.size, 0, none⟩ = false := F1k.out.frozen 0
    have pk1 : (w1).cell? ⟨w.heap.size, 1, none⟩ = some (.int .i64 d) := F1k.out.cell 1
    have fk1 : (w1).frozen? ⟨w.heap.size, 1, none⟩ = false := F1k.out.frozen 1
    go_quiet (fail)
    go_wp2_with fail
    go_ret
    exact ⟨ret_bool (by rw [HR.out]), Lib.hid (below_drewN HB1.out _)⟩
  have dt3 : decide (-1073741824 ≤ n) = true := decide_eq_true t3
  by_cases t4 : n ≤ 1073741824
  case neg =>
    have dd : decide (n ≤ 1073741824) = false := decide_eq_false t4
    have HR := Lib.hid (show vB n d = false by rw [vB, decide_eq_false_iff_not]; rintro ⟨a1, a2, a3, a4, _⟩; unfold MX at *; omega)
    clear t4
    go_enter Tryz.func30, Tryz.ntmps30
    go_wp2_with fail
    obtain ⟨w1, hw⟩ : ∃ z9 : World, z9 = (w.alloc (.cells #[.int .i64 n, .int .i64 d] 25)) := ⟨_, rfl⟩
    have HB1 := Lib.hid (show Below w.heap.size w w1 by rw [hw]; exact below_a1 _ _)
    have F1k := Lib.hid (show Blk w1 (w.heap.size) 25 #[.int .i64 n, .int .i64 d] by rw [hw]; exact Blk.new _ _ _)
    rw [← hw]
    clear hw
    have pk0 : (w1).cell? ⟨w.heap.size, 0, none⟩ = some (.int .i64 n) := F1k.out.cell 0
    have fk0 : (w1).frozen? ⟨w.heap.size, 0, none⟩ = false := F1k.out.frozen 0
    have pk1 : (w1).cell? ⟨w.heap.size, 1, none⟩ = some (.int .i64 d) := F1k.out.cell 1
    have fk1 : (w1).frozen? ⟨w.heap.size, 1, none⟩ = false := F1k.out.frozen 1
    go_quiet (fail)
    go_wp2_with fail
    go_ret
    exact ⟨ret_bool (by rw [HR.out]), Lib.hid (below_drewN HB1.out _)⟩
  have dt4 : decide (n ≤ 1073741824) = true := decide_eq_true t4
  by_cases t5 : Nat.gcd n.natAbs d.natAbs = 1
  · have d5 : (((Nat.gcd n.natAbs d.natAbs : Nat) : Int) == 1) = true := by simp; omega
    have HR := Lib.hid (show vB n d = true by rw [vB]; rw [decide_eq_true_iff]; exact ⟨t1, by unfold MX; omega, by unfold MX; omega, by unfold MX; omega, t5⟩)
    clear t5
    go_enter Tryz.func30, Tryz.ntmps30
    go_wp2_with fail
    obtain ⟨w1, hw⟩ : ∃ z9 : World, z9 = (w.alloc (.cells #[.int .i64 n, .int .i64 d] 25)) := ⟨_, rfl⟩
    have HB1 := Lib.hid (show Below w.heap.size w w1 by rw [hw]; exact below_a1 _ _)
    have F1k := Lib.hid (show Blk w1 (w.heap.size) 25 #[.int .i64 n, .int .i64 d] by rw [hw]; exact Blk.new _ _ _)
    rw [← hw]
    clear hw
    have pk0 : (w1).cell? ⟨w.heap.size, 0, none⟩ = some (.int .i64 n) := F1k.out.cell 0
    have fk0 : (w1).frozen? ⟨w.heap.size, 0, none⟩ = false := F1k.out.frozen 0
    have pk1 : (w1).cell? ⟨w.heap.size, 1, none⟩ = some (.int .i64 d) := F1k.out.cell 1
    have fk1 : (w1).frozen? ⟨w.heap.size, 1, none⟩ = false := F1k.out.frozen 1
    have KN := Lib.hid (fun q => size_r n (w1.drewN q) h1 h2)
    have KG := Lib.hid (fun q => gcd_r n.natAbs d.natAbs (w1.drewN q) (by omega) (by omega))
    have HDD := Lib.hid (show (d.natAbs : Int) = d by omega)
    have hud : IntKind.u64.wrap d = (d.natAbs : Int) := by rw [HDD.out, IntKind.wrap_u64]; omega
    go_quiet ((first | (go_at_call_of 61 (Value.int .i64 n); exact quiet_left (KN.out _)) | (go_at_call 60; exact quiet_left2 (KG.out _))))
    go_wp2_with fail
    go_ret
    exact ⟨ret_bool (by rw [HR.out]), Lib.hid (below_drewN HB1.out _)⟩
  · have d5 : (((Nat.gcd n.natAbs d.natAbs : Nat) : Int) == 1) = false := by simp; omega
    have HR := Lib.hid (show vB n d = false by rw [vB]; rw [decide_eq_false_iff_not]; rintro ⟨_, _, _, _, a5⟩; exact t5 a5)
    clear t5
    go_enter Tryz.func30, Tryz.ntmps30
    go_wp2_with fail
    obtain ⟨w1, hw⟩ : ∃ z9 : World, z9 = (w.alloc (.cells #[.int .i64 n, .int .i64 d] 25)) := ⟨_, rfl⟩
    have HB1 := Lib.hid (show Below w.heap.size w w1 by rw [hw]; exact below_a1 _ _)
    have F1k := Lib.hid (show Blk w1 (w.heap.size) 25 #[.int .i64 n, .int .i64 d] by rw [hw]; exact Blk.new _ _ _)
    rw [← hw]
    clear hw
    have pk0 : (w1).cell? ⟨w.heap.size, 0, none⟩ = some (.int .i64 n) := F1k.out.cell 0
    have fk0 : (w1).frozen? ⟨w.heap.size, 0, none⟩ = false := F1k.out.frozen 0
    have pk1 : (w1).cell? ⟨w.heap.size, 1, none⟩ = some (.int .i64 d) := F1k.out.cell 1
    have fk1 : (w1).frozen? ⟨w.heap.size, 1, none⟩ = false := F1k.out.frozen 1
    have KN := Lib.hid (fun q => size_r n (w1.drewN q) h1 h2)
    have KG := Lib.hid (fun q => gcd_r n.natAbs d.natAbs (w1.drewN q) (by omega) (by omega))
    have HDD := Lib.hid (show (d.natAbs : Int) = d by omega)
    have hud : IntKind.u64.wrap d = (d.natAbs : Int) := by rw [HDD.out, IntKind.wrap_u64]; omega
    go_quiet ((first | (go_at_call_of 61 (Value.int .i64 n); exact quiet_left (KN.out _)) | (go_at_call 60; exact quiet_left2 (KG.out _))))
    go_wp2_with fail
    go_ret
    exact ⟨ret_bool (by rw [HR.out]), Lib.hid (below_drewN HB1.out _)⟩
end Go.Proofs.YtoogeihbhhcpaaaGreatDoor
namespace Go.Proofs.YtoogeihbhhcpaaaGreatDoor
open Go.RowKit Go.Fl Go.Fl.Nm Go.Fl.Dy Go.Fl.Rt

end Go.Proofs.YtoogeihbhhcpaaaGreatDoor
namespace Go.Proofs
open Go.Shelf
def Tryz.laysM171_ren : Go.Shelf.Ren := ⟨fun | 171 => 47 | 243 => 88 | 246 => 132 | 283 => 164 | 284 => 165 | 285 => 166 | 286 => 167 | 129 => 185 | 317 => 184 | 318 => 186 | 319 => 187 | 320 => 188 | 337 => 198 | 338 => 199 | n => n, fun | 3 => 3 | 9 => 9 | 2 => 2 | 4 => 4 | 171 => 166 | 0 => 0 | 53 => 101 | 37 => 66 | 5 => 5 | 173 => 169 | 212 => 184 | 51 => 125 | 20 => 20 | 213 => 185 | 46 => 157 | 232 => 193 | 233 => 194 | n => n, fun | 17 => 1 | 18 => 3 | 19 => 4 | n => n⟩
theorem Tryz.laysM171 : Go.Proofs.LaysM.n171 Tryz.prog Tryz.laysM171_ren := {
  mixed := by kernel_rfl
  f129 := Tryz.func185.trans (congrArg some (by kernel_rfl))
  f171 := Tryz.func47.trans (congrArg some (by kernel_rfl))
  f243 := Tryz.func88.trans (congrArg some (by kernel_rfl))
  f246 := Tryz.func132.trans (congrArg some (by kernel_rfl))
  f283 := Tryz.func164.trans (congrArg some (by kernel_rfl))
  f284 := Tryz.func165.trans (congrArg some (by kernel_rfl))
  f285 := Tryz.func166.trans (congrArg some (by kernel_rfl))
  f286 := Tryz.func167.trans (congrArg some (by kernel_rfl))
  f317 := Tryz.func184.trans (congrArg some (by kernel_rfl))
  f318 := Tryz.func186.trans (congrArg some (by kernel_rfl))
  f319 := Tryz.func187.trans (congrArg some (by kernel_rfl))
  f320 := Tryz.func188.trans (congrArg some (by kernel_rfl))
  f337 := Tryz.func198.trans (congrArg some (by kernel_rfl))
  f338 := Tryz.func199.trans (congrArg some (by kernel_rfl))
  t0 := Tryz.underlying0
  a0 := Tryz.isAgg0
  z0 := Tryz.sizeOf0
  v0 := Tryz.zeroValue0
  t2 := Tryz.underlying2
  a2 := Tryz.isAgg2
  z2 := Tryz.sizeOf2
  v2 := Tryz.zeroValue2
  t3 := Tryz.underlying3
  a3 := Tryz.isAgg3
  z3 := Tryz.sizeOf3
  v3 := Tryz.zeroValue3
  t4 := Tryz.underlying4
  a4 := Tryz.isAgg4
  z4 := Tryz.sizeOf4
  v4 := Tryz.zeroValue4
  t5 := Tryz.underlying5
  a5 := Tryz.isAgg5
  z5 := Tryz.sizeOf5
  v5 := Tryz.zeroValue5
  t9 := Tryz.underlying9
  a9 := Tryz.isAgg9
  z9 := Tryz.sizeOf9
  v9 := Tryz.zeroValue9
  t20 := Tryz.underlying20
  a20 := Tryz.isAgg20
  z20 := Tryz.sizeOf20
  v20 := Tryz.zeroValue20
  t37 := Tryz.underlying66
  a37 := Tryz.isAgg66
  z37 := Tryz.sizeOf66
  v37 := Tryz.zeroValue66
  t46 := Tryz.underlying157
  a46 := Tryz.isAgg157
  z46 := Tryz.sizeOf157
  v46 := Tryz.zeroValue157
  t51 := Tryz.underlying125
  a51 := Tryz.isAgg125
  z51 := Tryz.sizeOf125
  v51 := Tryz.zeroValue125
  t53 := Tryz.underlying101
  a53 := Tryz.isAgg101
  z53 := Tryz.sizeOf101
  v53 := Tryz.zeroValue101
  t171 := Tryz.underlying166
  a171 := Tryz.isAgg166
  z171 := Tryz.sizeOf166
  v171 := Tryz.zeroValue166
  t173 := Tryz.underlying169
  a173 := Tryz.isAgg169
  z173 := Tryz.sizeOf169
  v173 := Tryz.zeroValue169
  t212 := Tryz.underlying184
  a212 := Tryz.isAgg184
  z212 := Tryz.sizeOf184
  v212 := Tryz.zeroValue184
  t213 := Tryz.underlying185
  a213 := Tryz.isAgg185
  z213 := Tryz.sizeOf185
  t232 := Tryz.underlying193
  a232 := Tryz.isAgg193
  z232 := Tryz.sizeOf193
  v232 := Tryz.zeroValue193
  t233 := Tryz.underlying194
  a233 := Tryz.isAgg194
  z233 := Tryz.sizeOf194
  v233 := Tryz.zeroValue194
  g17 := by kernel_rfl
  g18 := by kernel_rfl
  g19 := by kernel_rfl
  i0 := by kernel_rfl
  i2 := by kernel_rfl
  i3 := by kernel_rfl
  i4 := by kernel_rfl
  i5 := by kernel_rfl
  i9 := by kernel_rfl
  i20 := by kernel_rfl
  i37 := by kernel_rfl
  i46 := by kernel_rfl
  i51 := by kernel_rfl
  i53 := by kernel_rfl
  i171 := by kernel_rfl
  i173 := by kernel_rfl
  i212 := by kernel_rfl
  i232 := by kernel_rfl
  i233 := by kernel_rfl
  m17 := by kernel_rfl
  m18 := by kernel_rfl
  m19 := by kernel_rfl }
open Go.RowKit Go.Sort Go.Lib in
/-- strconv.Itoa: "Itoa is equivalent to FormatInt(int64(i), 10).": i's DECIMAL NUMERAL ('Lib.itoa': a '-' where i is negative, then the digits), FOR EVERY int. The world behind the call: the world before it, new blocks behind the heap (the library's 'var a [24]byte'), draws. (LAID: no walk: one application.) -/
theorem Tryz.strconv_Itoa (n : Int) (h0 : -9223372036854775808 ≤ n) (h1 : n ≤ 9223372036854775807) (w : World) (htab : Lib.TabIs Tryz.prog w "internal/strconv.uint64pow10" .u64 Lib.pow10Tab) :
    Calls Tryz.prog 47 #[.int .i64 n] w fun e w' => e = .returned (.string ⟨(Lib.itoa n).toArray⟩) ∧ ∃ k os, w' = grow (w.drewN k) os := Any.strconv_Itoa Tryz.laysM171 n h0 h1 w htab
end Go.Proofs
namespace Go.Proofs.YtoogeihbhhcpaaaGreatDoor
open Go.RowKit Go.Fl Go.Fl.Nm Go.Fl.Dy Go.Fl.Rt
/-- A text. -/
def StrP (l : List UInt8) (w : World) (e : Ending) (w' : World) : Prop :=
  ∃ S : ByteArray, e = .returned (.string S) ∧ Hid (S.data.toList = l) ∧ Hid (Below w.heap.size w w')
def textE (n d : Int) : List UInt8 := if vB n d then textR n d else []
theorem grow_belowI (w : World) (k : Nat) (os : Array Obj) : Below w.heap.size w (Sort.grow (w.drewN k) os) :=
  ⟨rfl, rfl, rfl, by simp [Sort.grow, World.drewN], fun i hi => by simp [Sort.grow, World.drewN, Array.getElem?_append, hi]⟩
theorem itoa_any (n : Int) (w : World) (hT : RB w) (h1 : -9223372036854775808 ≤ n) (h2 : n ≤ 9223372036854775807) :
    Calls Tryz.prog 47 #[.int .i64 n] w (StrP (Lib.itoa n) w) :=
  (Tryz.strconv_Itoa n h1 h2 w hT.p10).mono fun e w' ⟨he, k, os, hw⟩ => ⟨_, he, Lib.hid rfl, Lib.hid (by rw [hw]; exact grow_belowI w k os)⟩
theorem size_itoa {A : ByteArray} {n : Int} (h : A.data.toList = Lib.itoa n) (h1 : -9223372036854775808 ≤ n) (h2 : n ≤ 9223372036854775807) : A.size ≤ 21 := by
  have e := Lib.itoa_length_le n h1 h2
  rw [← h] at e
  simpa using e
theorem size_sum {A B : ByteArray} {n d : Int} (hA : A.data.toList = Lib.itoa n) (hB : B.data.toList = Lib.itoa d) (h1 : -9223372036854775808 ≤ n) (h2 : n ≤ 9223372036854775807) (h3 : -9223372036854775808 ≤ d) (h4 : d ≤ 9223372036854775807) : ¬ 9223372036854775807 < A.size + (1 + B.size) := by
  have a := size_itoa hA h1 h2
  have b := size_itoa hB h3 h4
  omega
theorem data_app (a b : ByteArray) : (a ++ b).data.toList = a.data.toList ++ b.data.toList := by simp

set_option maxHeartbeats 1000000 in
theorem text_q (n d : Int) (w : World) (hT : RB w) (h1 : -9223372036854775808 ≤ n) (h2 : n ≤ 9223372036854775807) (h3 : -9223372036854775808 ≤ d) (h4 : d ≤ 9223372036854775807) :
    Calls Tryz.prog 23 #[.agg #[.int .i64 n, .int .i64 d]] w (StrP (textE n d) w) := by
  have HT := Lib.hid hT
  clear hT
  cases hv : vB n d with
  | false =>
    have HV := Lib.hid hv
    have HR := Lib.hid (show textE n d = [] by unfold textE; rw [hv]; rfl)
    clear hv
    go_enter Tryz.func23, Tryz.ntmps23
    go_wp2_with fail
    obtain ⟨w1, hw⟩ : ∃ z9 : World, z9 = (w.alloc (.cells #[.int .i64 n, .int .i64 d] 25)) := ⟨_, rfl⟩
    have HB1 := Lib.hid (show Below w.heap.size w w1 by rw [hw]; exact below_a1 _ _)
    have F1t := Lib.hid (HT.out.belowW HB1.out)
    have F1k := Lib.hid (show Blk w1 (w.heap.size) 25 #[.int .i64 n, .int .i64 d] by rw [hw]; exact Blk.new _ _ _)
    rw [← hw]
    clear hw
    refine (valid_q n d w1 h1 h2 h3 h4).mono ?_
    rw [HV.out]
    rintro e w2 ⟨rfl, HB2⟩
    have F2t := Lib.hid (F1t.out.belowW HB2.out)
    have F2k := Lib.hid (F1k.out.belowW HB2.out)
    have HL2 := Lib.hid (HB1.out.trans (HB2.out.mono HB1.out.size))
    go_wp2_with fail
    go_ret
    exact ⟨⟨#[]⟩, rfl, Lib.hid (by rw [HR.out]), HL2⟩
  | true =>
    have HV := Lib.hid hv
    by_cases hd : d = 1
    · have HR := Lib.hid (show textE n d = Lib.itoa n by unfold textE textR; rw [hv, if_pos hd]; simp)
      have dd : (d != 1) = false := by simp [hd]
      clear hv hd
      go_enter Tryz.func23, Tryz.ntmps23
      go_wp2_with fail
      obtain ⟨w1, hw⟩ : ∃ z9 : World, z9 = (w.alloc (.cells #[.int .i64 n, .int .i64 d] 25)) := ⟨_, rfl⟩
      have HB1 := Lib.hid (show Below w.heap.size w w1 by rw [hw]; exact below_a1 _ _)
      have F1t := Lib.hid (HT.out.belowW HB1.out)
      have F1k := Lib.hid (show Blk w1 (w.heap.size) 25 #[.int .i64 n, .int .i64 d] by rw [hw]; exact Blk.new _ _ _)
      rw [← hw]
      clear hw
      refine (valid_q n d w1 h1 h2 h3 h4).mono ?_
      rw [HV.out]
      rintro e w2 ⟨rfl, HB2⟩
      have F2t := Lib.hid (F1t.out.belowW HB2.out)
      have F2k := Lib.hid (F1k.out.belowW HB2.out)
      have HL2 := Lib.hid (HB1.out.trans (HB2.out.mono HB1.out.size))
      have pk0 : (w2).cell? ⟨w.heap.size, 0, none⟩ = some (.int .i64 n) := F2k.out.cell 0
      have fk0 : (w2).frozen? ⟨w.heap.size, 0, none⟩ = false := F2k.out.frozen 0
      have pk1 : (w2).cell? ⟨w.heap.size, 1, none⟩ = some (.int .i64 d) := F2k.out.cell 1
      have fk1 : (w2).frozen? ⟨w.heap.size, 1, none⟩ = false := F2k.out.frozen 1
      go_wp2_with fail
      refine (itoa_any n w2 F2t.out h1 h2).mono ?_
      rintro e w3 ⟨A, rfl, HA, HB3⟩
      have F3t := Lib.hid (F2t.out.belowW HB3.out)
      have F3k := Lib.hid (F2k.out.belowW HB3.out)
      have HL3 := Lib.hid (HL2.out.trans (HB3.out.mono HL2.out.size))
      clear pk0 pk1 fk0 fk1
      have pk0 : (w3).cell? ⟨w.heap.size, 0, none⟩ = some (.int .i64 n) := F3k.out.cell 0
      have fk0 : (w3).frozen? ⟨w.heap.size, 0, none⟩ = false := F3k.out.frozen 0
      have pk1 : (w3).cell? ⟨w.heap.size, 1, none⟩ = some (.int .i64 d) := F3k.out.cell 1
      have fk1 : (w3).frozen? ⟨w.heap.size, 1, none⟩ = false := F3k.out.frozen 1
      go_wp2_with fail
      go_ret
      exact ⟨A, rfl, Lib.hid (by rw [HR.out]; exact HA.out), HL3⟩
    · have HR := Lib.hid (show textE n d = Lib.itoa n ++ 47 :: Lib.itoa d by unfold textE textR; rw [hv, if_neg hd]; rfl)
      have dd : (d != 1) = true := by simp [hd]
      clear hv hd
      go_enter Tryz.func23, Tryz.ntmps23
      go_wp2_with fail
      obtain ⟨w1, hw⟩ : ∃ z9 : World, z9 = (w.alloc (.cells #[.int .i64 n, .int .i64 d] 25)) := ⟨_, rfl⟩
      have HB1 := Lib.hid (show Below w.heap.size w w1 by rw [hw]; exact below_a1 _ _)
      have F1t := Lib.hid (HT.out.belowW HB1.out)
      have F1k := Lib.hid (show Blk w1 (w.heap.size) 25 #[.int .i64 n, .int .i64 d] by rw [hw]; exact Blk.new _ _ _)
      rw [← hw]
      clear hw
      refine (valid_q n d w1 h1 h2 h3 h4).mono ?_
      rw [HV.out]
      rintro e w2 ⟨rfl, HB2⟩
      have F2t := Lib.hid (F1t.out.belowW HB2.out)
      have F2k := Lib.hid (F1k.out.belowW HB2.out)
      have HL2 := Lib.hid (HB1.out.trans (HB2.out.mono HB1.out.size))
      have pk0 : (w2).cell? ⟨w.heap.size, 0, none⟩ = some (.int .i64 n) := F2k.out.cell 0
      have fk0 : (w2).frozen? ⟨w.heap.size, 0, none⟩ = false := F2k.out.frozen 0
      have pk1 : (w2).cell? ⟨w.heap.size, 1, none⟩ = some (.int .i64 d) := F2k.out.cell 1
      have fk1 : (w2).frozen? ⟨w.heap.size, 1, none⟩ = false := F2k.out.frozen 1
      go_wp2_with fail
      refine (itoa_any n w2 F2t.out h1 h2).mono ?_
      rintro e w3 ⟨A, rfl, HA, HB3⟩
      have F3t := Lib.hid (F2t.out.belowW HB3.out)
      have F3k := Lib.hid (F2k.out.belowW HB3.out)
      have HL3 := Lib.hid (HL2.out.trans (HB3.out.mono HL2.out.size))
      clear pk0 pk1 fk0 fk1
      have pk0 : (w3).cell? ⟨w.heap.size, 0, none⟩ = some (.int .i64 n) := F3k.out.cell 0
      have fk0 : (w3).frozen? ⟨w.heap.size, 0, none⟩ = false := F3k.out.frozen 0
      have pk1 : (w3).cell? ⟨w.heap.size, 1, none⟩ = some (.int .i64 d) := F3k.out.cell 1
      have fk1 : (w3).frozen? ⟨w.heap.size, 1, none⟩ = false := F3k.out.frozen 1
      go_wp2_with fail
      refine (itoa_any d w3 F3t.out h3 h4).mono ?_
      rintro e w4 ⟨B, rfl, HYb, HB4⟩
      have F4t := Lib.hid (F3t.out.belowW HB4.out)
      have F4k := Lib.hid (F3k.out.belowW HB4.out)
      have HL4 := Lib.hid (HL3.out.trans (HB4.out.mono HL3.out.size))
      have zA : ¬ 9223372036854775807 < A.size + (1 + B.size) := size_sum HA.out HYb.out h1 h2 h3 h4
      have zB : ¬ 9223372036854775807 < 1 + B.size := by omega
      go_wp2_with fail
      go_ret
      exact ⟨A ++ (⟨#[47]⟩ ++ B), rfl, Lib.hid (by rw [HR.out, data_app, data_app, HA.out, HYb.out]; rfl), HL4⟩
end Go.Proofs.YtoogeihbhhcpaaaGreatDoor
