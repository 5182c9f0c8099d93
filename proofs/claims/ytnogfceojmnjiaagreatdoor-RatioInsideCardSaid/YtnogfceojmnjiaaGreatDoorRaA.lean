/-
  The walks of size, gcd, Valid (of ratio and of the reference), ratio.Make.
-/
import Derived.Test.YtnogfceojmnjiaaGreatDoorRoD
import Derived.Test.YtnogfceojmnjiaaGreatDoorDyPlain
set_option linter.unusedVariables false
namespace Go.Fl
open Go.RowKit
theorem store2_put {w : World} {g : Nat} {t : TypeId} {x y : Value} (hB : Blk w g t #[x, y]) (a b : Value) : (w.setCell ⟨g, 0, none⟩ a).setCell ⟨g, 1, none⟩ b = putB w g t #[a, b] := by
  rw [hB.setCell_eq 0 a]
  have h1 := hB.put ((#[x, y] : Array Value).setIfInBounds 0 a)
  rw [h1.setCell_eq 1 b, putB_putB]
  rfl
theorem store2_below {B : Nat} {w0 w : World} {g : Nat} {t : TypeId} {x y : Value} (h : Below B w0 w) (hB : Blk w g t #[x, y]) (a b : Value) (hg : B ≤ g) : Below B w0 ((w.setCell ⟨g, 0, none⟩ a).setCell ⟨g, 1, none⟩ b) := by
  rw [store2_put hB]
  exact h.trans (putB_below w g t _ hg)
theorem store2_far {w : World} {g g' i : Nat} {t : TypeId} {x y v : Value} (hB : Blk w g' t #[x, y]) (hc : w.cell? ⟨g, i, none⟩ = some v) (hne : g ≠ g') (a b : Value) : ((w.setCell ⟨g', 0, none⟩ a).setCell ⟨g', 1, none⟩ b).cell? ⟨g, i, none⟩ = some v := by
  rw [store2_put hB]
  exact (putB_grown w g' t _).cell hc (by simpa using hne)
end Go.Fl
namespace Go.Fl.Rt
def vB (n d : Int) : Bool := decide (valid n d)
theorem vB_iff {n d : Int} : vB n d = true ↔ valid n d := by simp [vB]
theorem gcd_step (x y : Nat) : Nat.gcd x y = Nat.gcd y (x % y) := by rw [Nat.gcd_comm x y, Nat.gcd_rec, Nat.gcd_comm]
end Go.Fl.Rt
namespace Go.Proofs.YtnogfceojmnjiaaGreatDoor
open Go.RowKit Go.Fl Go.Fl.Nm Go.Fl.Dy Go.Fl.Rt
def GcdPost (g : Nat) (w : World) (e : Ending) (w' : World) : Prop := e = .returned (.int .u64 (g : Nat)) ∧ ∃ q, w' = w.drewN q
/-- A ratio and an error. -/
def RtE (r : Int × Int × Int) (w : World) (e : Ending) (w' : World) : Prop := e = .returned (.tuple #[.agg #[.int .i64 r.1, .int .i64 r.2.1], .int .i64 r.2.2]) ∧ Hid (Below w.heap.size w w')

set_option maxHeartbeats 400000 in
theorem size_q (n : Int) (w : World) (h1 : -9223372036854775808 ≤ n) (h2 : n ≤ 9223372036854775807) :
    Calls Tryz.prog 60 #[.int .i64 n] w fun e w' => e = .returned (.int .u64 (n.natAbs : Nat)) ∧ w = w' := by
  by_cases hn : n < 0
  · have dn : decide (n < 0) = true := decide_eq_true hn
    have e1 : IntKind.u64.wrap (-n) = -n := by rw [IntKind.wrap_u64]; omega
    have e2 : (n.natAbs : Int) = -n := by omega
    by_cases hm : n = -9223372036854775808
    · subst hm
      go_enter Tryz.func60, Tryz.ntmps60
      go_wp2
      go_ret
      exact ⟨ret_int (by kernel_rfl), rfl⟩
    · have h3 : -n ≤ 9223372036854775807 := by omega
      have HE := Lib.hid e2
      clear e2 hm
      go_enter Tryz.func60, Tryz.ntmps60
      go_wp2
      go_ret
      exact ⟨ret_int (by rw [HE.out]), rfl⟩
  · have dn : decide (n < 0) = false := decide_eq_false hn
    have e1 : IntKind.u64.wrap n = n := by rw [IntKind.wrap_u64]; omega
    have HE := Lib.hid (show (n.natAbs : Int) = n by omega)
    go_enter Tryz.func60, Tryz.ntmps60
    go_wp2
    go_ret
    exact ⟨ret_int (by rw [HE.out]), rfl⟩

set_option maxHeartbeats 400000 in
theorem size_r (n : Int) (w : World) (h1 : -9223372036854775808 ≤ n) (h2 : n ≤ 9223372036854775807) :
    Calls Tryz.prog 51 #[.int .i64 n] w fun e w' => e = .returned (.int .u64 (n.natAbs : Nat)) ∧ w = w' := by
  by_cases hn : n < 0
  · have dn : decide (n < 0) = true := decide_eq_true hn
    have e1 : IntKind.u64.wrap (-(n + 1)) = -(n + 1) := by rw [IntKind.wrap_u64]; omega
    have e3 : IntKind.u64.wrap (-(n + 1) + 1) = -n := by rw [IntKind.wrap_u64]; omega
    have HE := Lib.hid (show (n.natAbs : Int) = -n by omega)
    go_enter Tryz.func51, Tryz.ntmps51
    go_wp2
    go_ret
    exact ⟨ret_int (by rw [HE.out]; try omega), rfl⟩
  · have dn : decide (n < 0) = false := decide_eq_false hn
    have e1 : IntKind.u64.wrap n = n := by rw [IntKind.wrap_u64]; omega
    have HE := Lib.hid (show (n.natAbs : Int) = n by omega)
    go_enter Tryz.func51, Tryz.ntmps51
    go_wp2
    go_ret
    exact ⟨ret_int (by rw [HE.out]), rfl⟩

set_option maxHeartbeats 400000 in
theorem gcd_q (a b : Nat) (w : World) (ha : a < 18446744073709551616) (hb : b < 18446744073709551616) :
    Calls Tryz.prog 61 #[.int .u64 a, .int .u64 b] w (GcdPost (Nat.gcd a b) w) := by
  go_enter Tryz.func61, Tryz.ntmps61
  go_wp2_with fail
  go_loopg [0, 1] b (fun k x y wr => ∃ (d X Y : Nat), wr = w.drewN d ∧ x = .int .u64 X ∧ y = .int .u64 Y ∧ X < 18446744073709551616 ∧ Y < 18446744073709551616 ∧ Y = k ∧ Hid (Nat.gcd X Y = Nat.gcd a b))
  case atStart => exact ⟨0, a, b, rfl, rfl, rfl, ha, hb, rfl, Lib.hid rfl⟩
  case round =>
    obtain ⟨d, X, Y, rfl, rfl, rfl, hX, hY, rfl, HG⟩ := hrel
    by_cases h0 : Y = 0
    · subst h0
      go_wp2_with fail
      go_ret
      exact ⟨ret_int (by rw [← HG.out, Nat.gcd_zero_right]), d, rfl⟩
    · have d0 : ((Y : Int) != 0) = true := by simp; exact h0
      have d1 : ((Y : Int) == 0) = false := by rw [beq_eq_false_iff_ne]; omega
      have hlt := Nat.mod_lt X (by omega : 0 < Y)
      have HG2 := Lib.hid (show Nat.gcd Y (X % Y) = Nat.gcd a b by rw [← gcd_step, HG.out])
      have HM := Lib.hid (show ((X : Int).tmod Y) = ((X % Y : Nat) : Int) by rw [Int.tmod_eq_emod_of_nonneg (by omega)]; rfl)
      go_wp2_with fail
      go_quiet (fail)
      go_wp2_with fail
      go_roundg (X % Y)
      case measure => exact hlt
      case rel => exact ⟨_, Y, X % Y, drewN_drewN w d _, rfl, by first | rfl | go_num, hY, by omega, rfl, HG2⟩

set_option maxHeartbeats 400000 in
theorem gcd_r (a b : Nat) (w : World) (ha : a < 18446744073709551616) (hb : b < 18446744073709551616) :
    Calls Tryz.prog 62 #[.int .u64 a, .int .u64 b] w (GcdPost (Nat.gcd a b) w) := by
  go_enter Tryz.func62, Tryz.ntmps62
  go_wp2_with fail
  go_loopg [0, 1] b (fun k x y wr => ∃ (d X Y : Nat), wr = w.drewN d ∧ x = .int .u64 X ∧ y = .int .u64 Y ∧ X < 18446744073709551616 ∧ Y < 18446744073709551616 ∧ Y = k ∧ Hid (Nat.gcd X Y = Nat.gcd a b))
  case atStart => exact ⟨0, a, b, rfl, rfl, rfl, ha, hb, rfl, Lib.hid rfl⟩
  case round =>
    obtain ⟨d, X, Y, rfl, rfl, rfl, hX, hY, rfl, HG⟩ := hrel
    by_cases h0 : Y = 0
    · subst h0
      go_wp2_with fail
      go_ret
      exact ⟨ret_int (by rw [← HG.out, Nat.gcd_zero_right]), d, rfl⟩
    · have d0 : ((Y : Int) != 0) = true := by simp; exact h0
      have d1 : ((Y : Int) == 0) = false := by rw [beq_eq_false_iff_ne]; omega
      have hlt := Nat.mod_lt X (by omega : 0 < Y)
      have HG2 := Lib.hid (show Nat.gcd Y (X % Y) = Nat.gcd a b by rw [← gcd_step, HG.out])
      have HM := Lib.hid (show ((X : Int).tmod Y) = ((X % Y : Nat) : Int) by rw [Int.tmod_eq_emod_of_nonneg (by omega)]; rfl)
      go_wp2_with fail
      go_quiet (fail)
      go_wp2_with fail
      go_roundg (X % Y)
      case measure => exact hlt
      case rel => exact ⟨_, Y, X % Y, drewN_drewN w d _, rfl, by first | rfl | go_num, hY, by omega, rfl, HG2⟩

set_option maxHeartbeats 1000000 in
theorem valid_q (n d : Int) (w : World) (h1 : -9223372036854775808 ≤ n) (h2 : n ≤ 9223372036854775807) (h3 : -9223372036854775808 ≤ d) (h4 : d ≤ 9223372036854775807) :
    Calls Tryz.prog 22 #[.agg #[.int .i64 n, .int .i64 d]] w (Ret (.bool (vB n d)) w) := by
  by_cases t1 : 1 ≤ d
  case neg =>
    have dd : decide (1 ≤ d) = false := decide_eq_false t1
    have HR := Lib.hid (show vB n d = false by rw [vB, decide_eq_false_iff_not]; rintro ⟨a1, a2, a3, a4, _⟩; unfold MX at *; omega)
    clear t1
    go_enter Tryz.func22, Tryz.ntmps22
    go_wp2_with fail
    obtain ⟨w1, hw⟩ : ∃ z9 : World, z9 = (w.alloc (.cells #[.int .i64 n, .int .i64 d] 23)) := ⟨_, rfl⟩
    have HB1 := Lib.hid (show Below w.heap.size w w1 by rw [hw]; exact below_a1 _ _)
    have F1k := Lib.hid (show Blk w1 (w.heap.size) 23 #[.int .i64 n, .int .i64 d] by rw [hw]; exact Blk.new _ _ _)
    rw [← hw]
    clear hw
    have pk0 : (w1).cell? ⟨w.heap.size, 0, none⟩ = some (.int .i64 n) := F1k.out.cell 0
    have fk0 : (w1).frozen? ⟨w.heap.size, 0, none⟩ = false := F1k.out.frozen 0
    have pk1 : (w1).cell? ⟨w.heap.size, 1, none⟩ = some (.int .i64 d) := F1k.out.cell 1
    have fk1 : (w1).frozen? ⟨w.heap.size, 1, none⟩ = false := F1k.out.frozen 1
    go_quiet (fail)
    go_wp2_with fail
    go_ret
    exact ⟨ret_bool (by rw [HR.out]), Lib.hid (below_drewN HB1.out _)⟩
  have dt1 : decide (1 ≤ d) = true := decide_eq_true t1
  by_cases t2 : d ≤ 1073741824
  case neg =>
    have dd : decide (d ≤ 1073741824) = false := decide_eq_false t2
    have HR := Lib.hid (show vB n d = false by rw [vB, decide_eq_false_iff_not]; rintro ⟨a1, a2, a3, a4, _⟩; unfold MX at *; omega)
    clear t2
    go_enter Tryz.func22, Tryz.ntmps22
    go_wp2_with fail
    obtain ⟨w1, hw⟩ : ∃ z9 : World, z9 = (w.alloc (.cells #[.int .i64 n, .int .i64 d] 23)) := ⟨_, rfl⟩
    have HB1 := Lib.hid (show Below w.heap.size w w1 by rw [hw]; exact below_a1 _ _)
    have F1k := Lib.hid (show Blk w1 (w.heap.size) 23 #[.int .i64 n, .int .i64 d] by rw [hw]; exact Blk.new _ _ _)
    rw [← hw]
    clear hw
    have pk0 : (w1).cell? ⟨w.heap.size, 0, none⟩ = some (.int .i64 n) := F1k.out.cell 0
    have fk0 : (w1).frozen? ⟨w.heap.size, 0, none⟩ = false := F1k.out.frozen 0
    have pk1 : (w1).cell? ⟨w.heap.size, 1, none⟩ = some (.int .i64 d) := F1k.out.cell 1
    have fk1 : (w1).frozen? ⟨w.heap.size, 1, none⟩ = false := F1k.out.frozen 1
    go_quiet (fail)
    go_wp2_with fail
    go_ret
    exact ⟨ret_bool (by rw [HR.out]), Lib.hid (below_drewN HB1.out _)⟩
  have dt2 : decide (d ≤ 1073741824) = true := decide_eq_true t2
  by_cases t3 : -1073741824 ≤ n
  case neg =>
    have dd : decide (-1073741824 ≤ n) = false := decide_eq_false t3
    have HR := Lib.hid (show vB n d = false by rw [vB, decide_eq_false_iff_not]; rintro ⟨a1, a2, a3, a4, _⟩; unfold MX at *; omega)
    clear t3
    go_enter Tryz.func22, Tryz.ntmps22
    go_wp2_with fail
    obtain ⟨w1, hw⟩ : ∃ z9 : World, z9 = (w.alloc (.cells #[.int .i64 n, .int .i64 d] 23)) := ⟨_, rfl⟩
    have HB1 := Lib.hid (show Below w.heap.size w w1 by rw [hw]; exact below_a1 _ _)
    have F1k := Lib.hid (show Blk w1 (w.heap.size) 23 #[.int .i64 n, .int .i64 d] by rw [hw]; exact Blk.new _ _ _)
    rw [← hw]
    clear hw
    have pk0 : (w1).cell? ⟨w.heap.size, 0, none⟩ = some (.int .i64 n) := F1k.out.cell 0
    have fk0 : (w1).frozen? ⟨w.heap.size, 0, none⟩ = false := F1k.out.frozen 0
    have pk1 : (w1).cell? ⟨w.heap.size, 1, none⟩ = some (.int .i64 d) := F1k.out.cell 1
    have fk1 : (w1).frozen? ⟨w.heap.size, 1, none⟩ = false := F1k.out.frozen 1
    go_quiet (fail)
    go_wp2_with fail
    go_ret
    exact ⟨ret_bool (by rw [HR.out]), Lib.hid (below_drewN HB1.out _)⟩
  have dt3 : decide (-1073741824 ≤ n) = true := decide_eq_true t3
  by_cases t4 : n ≤ 1073741824
  case neg =>
    have dd : decide (n ≤ 1073741824) = false := decide_eq_false t4
    have HR := Lib.hid (show vB n d = false by rw [vB, decide_eq_false_iff_not]; rintro ⟨a1, a2, a3, a4, _⟩; unfold MX at *; omega)
    clear t4
    go_enter Tryz.func22, Tryz.ntmps22
    go_wp2_with fail
    obtain ⟨w1, hw⟩ : ∃ z9 : World, z9 = (w.alloc (.cells #[.int .i64 n, .int .i64 d] 23)) := ⟨_, rfl⟩
    have HB1 := Lib.hid (show Below w.heap.size w w1 by rw [hw]; exact below_a1 _ _)
    have F1k := Lib.hid (show Blk w1 (w.heap.size) 23 #[.int .i64 n, .int .i64 d] by rw [hw]; exact Blk.new _ _ _)
    rw [← hw]
    clear hw
    have pk0 : (w1).cell? ⟨w.heap.size, 0, none⟩ = some (.int .i64 n) := F1k.out.cell 0
    have fk0 : (w1).frozen? ⟨w.heap.size, 0, none⟩ = false := F1k.out.frozen 0
    have pk1 : (w1).cell? ⟨w.heap.size, 1, none⟩ = some (.int .i64 d) := F1k.out.cell 1
    have fk1 : (w1).frozen? ⟨w.heap.size, 1, none⟩ = false := F1k.out.frozen 1
    go_quiet (fail)
    go_wp2_with fail
    go_ret
    exact ⟨ret_bool (by rw [HR.out]), Lib.hid (below_drewN HB1.out _)⟩
  have dt4 : decide (n ≤ 1073741824) = true := decide_eq_true t4
  by_cases t5 : Nat.gcd n.natAbs d.natAbs = 1
  · have d5 : (((Nat.gcd n.natAbs d.natAbs : Nat) : Int) == 1) = true := by simp; omega
    have HR := Lib.hid (show vB n d = true by rw [vB]; rw [decide_eq_true_iff]; exact ⟨t1, by unfold MX; omega, by unfold MX; omega, by unfold MX; omega, t5⟩)
    clear t5
    go_enter Tryz.func22, Tryz.ntmps22
    go_wp2_with fail
    obtain ⟨w1, hw⟩ : ∃ z9 : World, z9 = (w.alloc (.cells #[.int .i64 n, .int .i64 d] 23)) := ⟨_, rfl⟩
    have HB1 := Lib.hid (show Below w.heap.size w w1 by rw [hw]; exact below_a1 _ _)
    have F1k := Lib.hid (show Blk w1 (w.heap.size) 23 #[.int .i64 n, .int .i64 d] by rw [hw]; exact Blk.new _ _ _)
    rw [← hw]
    clear hw
    have pk0 : (w1).cell? ⟨w.heap.size, 0, none⟩ = some (.int .i64 n) := F1k.out.cell 0
    have fk0 : (w1).frozen? ⟨w.heap.size, 0, none⟩ = false := F1k.out.frozen 0
    have pk1 : (w1).cell? ⟨w.heap.size, 1, none⟩ = some (.int .i64 d) := F1k.out.cell 1
    have fk1 : (w1).frozen? ⟨w.heap.size, 1, none⟩ = false := F1k.out.frozen 1
    have KN := Lib.hid (fun q => size_q n (w1.drewN q) h1 h2)
    have KG := Lib.hid (fun q => gcd_q n.natAbs d.natAbs (w1.drewN q) (by omega) (by omega))
    have KD := Lib.hid (fun q => size_q d (w1.drewN q) h3 h4)
    go_quiet ((first | (go_at_call_of 60 (Value.int .i64 n); exact quiet_left (KN.out _)) | (go_at_call_of 60 (Value.int .i64 d); exact quiet_left (KD.out _)) | (go_at_call 61; exact quiet_left2 (KG.out _))))
    go_wp2_with fail
    go_ret
    exact ⟨ret_bool (by rw [HR.out]), Lib.hid (below_drewN HB1.out _)⟩
  · have d5 : (((Nat.gcd n.natAbs d.natAbs : Nat) : Int) == 1) = false := by simp; omega
    have HR := Lib.hid (show vB n d = false by rw [vB]; rw [decide_eq_false_iff_not]; rintro ⟨_, _, _, _, a5⟩; exact t5 a5)
    clear t5
    go_enter Tryz.func22, Tryz.ntmps22
    go_wp2_with fail
    obtain ⟨w1, hw⟩ : ∃ z9 : World, z9 = (w.alloc (.cells #[.int .i64 n, .int .i64 d] 23)) := ⟨_, rfl⟩
    have HB1 := Lib.hid (show Below w.heap.size w w1 by rw [hw]; exact below_a1 _ _)
    have F1k := Lib.hid (show Blk w1 (w.heap.size) 23 #[.int .i64 n, .int .i64 d] by rw [hw]; exact Blk.new _ _ _)
    rw [← hw]
    clear hw
    have pk0 : (w1).cell? ⟨w.heap.size, 0, none⟩ = some (.int .i64 n) := F1k.out.cell 0
    have fk0 : (w1).frozen? ⟨w.heap.size, 0, none⟩ = false := F1k.out.frozen 0
    have pk1 : (w1).cell? ⟨w.heap.size, 1, none⟩ = some (.int .i64 d) := F1k.out.cell 1
    have fk1 : (w1).frozen? ⟨w.heap.size, 1, none⟩ = false := F1k.out.frozen 1
    have KN := Lib.hid (fun q => size_q n (w1.drewN q) h1 h2)
    have KG := Lib.hid (fun q => gcd_q n.natAbs d.natAbs (w1.drewN q) (by omega) (by omega))
    have KD := Lib.hid (fun q => size_q d (w1.drewN q) h3 h4)
    go_quiet ((first | (go_at_call_of 60 (Value.int .i64 n); exact quiet_left (KN.out _)) | (go_at_call_of 60 (Value.int .i64 d); exact quiet_left (KD.out _)) | (go_at_call 61; exact quiet_left2 (KG.out _))))
    go_wp2_with fail
    go_ret
    exact ⟨ret_bool (by rw [HR.out]), Lib.hid (below_drewN HB1.out _)⟩

set_option maxHeartbeats 1000000 in
theorem valid_r (n d : Int) (w : World) (h1 : -9223372036854775808 ≤ n) (h2 : n ≤ 9223372036854775807) (h3 : -9223372036854775808 ≤ d) (h4 : d ≤ 9223372036854775807) :
    Calls Tryz.prog 23 #[.agg #[.int .i64 n, .int .i64 d]] w (Ret (.bool (vB n d)) w) := by
  by_cases t1 : 1 ≤ d
  case neg =>
    have dd : decide (1 ≤ d) = false := decide_eq_false t1
    have HR := Lib.hid (show vB n d = false by rw [vB, decide_eq_false_iff_not]; rintro ⟨a1, a2, a3, a4, _⟩; unfold MX at *; omega)
    clear t1
    go_enter Tryz.func23, Tryz.ntmps23
    go_wp2_with fail
    obtain ⟨w1, hw⟩ : ∃ z9 : World, z9 = (w.alloc (.cells #[.int .i64 n, .int .i64 d] 23)) := ⟨_, rfl⟩
    have HB1 := Lib.hid (show Below w.heap.size w w1 by rw [hw]; exact below_a1 _ _)
    have F1k := Lib.hid (show Blk w1 (w.heap.size) 23 #[.int .i64 n, .int .i64 d] by rw [hw]; exact Blk.new _ _ _)
    rw [← hw]
    clear hw
    have pk0 : (w1).cell? ⟨w.heap.size, 0, none⟩ = some (.int .i64 n) := F1k.out.cell 0
    have fk0 : (w1).frozen? ⟨w.heap.size, 0, none⟩ = false := F1k.out.frozen 0
    have pk1 : (w1).cell? ⟨w.heap.size, 1, none⟩ = some (.int .i64 d) := F1k.out.cell 1
    have fk1 : (w1).frozen? ⟨w.heap.size, 1, none⟩ = false := F1k.out.frozen 1
    go_quiet (fail)
    go_wp2_with fail
    go_ret
    exact ⟨ret_bool (by rw [HR.out]), Lib.hid (below_drewN HB1.out _)⟩
  have dt1 : decide (1 ≤ d) = true := decide_eq_true t1
  by_cases t2 : d ≤ 1073741824
  case neg =>
    have dd : decide (d ≤ 1073741824) = false := decide_eq_false t2
    have HR := Lib.hid (show vB n d = false by rw [vB, decide_eq_false_iff_not]; rintro ⟨a1, a2, a3, a4, _⟩; unfold MX at *; omega)
    clear t2
    go_enter Tryz.func23, Tryz.ntmps23
    go_wp2_with fail
    obtain ⟨w1, hw⟩ : ∃ z9 : World, z9 = (w.alloc (.cells #[.int .i64 n, .int .i64 d] 23)) := ⟨_, rfl⟩
    have HB1 := Lib.hid (show Below w.heap.size w w1 by rw [hw]; exact below_a1 _ _)
    have F1k := Lib.hid (show Blk w1 (w.heap.size) 23 #[.int .i64 n, .int .i64 d] by rw [hw]; exact Blk.new _ _ _)
    rw [← hw]
    clear hw
    have pk0 : (w1).cell? ⟨w.heap.size, 0, none⟩ = some (.int .i64 n) := F1k.out.cell 0
    have fk0 : (w1).frozen? ⟨w.heap.size, 0, none⟩ = false := F1k.out.frozen 0
    have pk1 : (w1).cell? ⟨w.heap.size, 1, none⟩ = some (.int .i64 d) := F1k.out.cell 1
    have fk1 : (w1).frozen? ⟨w.heap.size, 1, none⟩ = false := F1k.out.frozen 1
    go_quiet (fail)
    go_wp2_with fail
    go_ret
    exact ⟨ret_bool (by rw [HR.out]), Lib.hid (below_drewN HB1.out _)⟩
  have dt2 : decide (d ≤ 1073741824) = true := decide_eq_true t2
  by_cases t3 : -1073741824 ≤ n
  case neg =>
    have dd : decide (-1073741824 ≤ n) = false := decide_eq_false t3
    have HR := Lib.hid (show vB n d = false by rw [vB, decide_eq_false_iff_not]; rintro ⟨a1, a2, a3, a4, _⟩; unfold MX at *; omega)
    clear t3
    go_enter Tryz.func23, Tryz.ntmps23
    go_wp2_with fail
    obtain ⟨w1, hw⟩ : ∃ z9 : World, z9 = (w.alloc (.cells #[.int .i64 n, .int .i64 d] 23)) := ⟨_, rfl⟩
    have HB1 := Lib.hid (show Below w.heap.size w w1 by rw [hw]; exact below_a1 _ _)
    have F1k := Lib.hid (show Blk w1 (w.heap.size) 23 #[.int .i64 n, .int .i64 d] by rw [hw]; exact Blk.new _ _ _)
    rw [← hw]
    clear hw
    have pk0 : (w1).cell? ⟨w.heap.size, 0, none⟩ = some (.int .i64 n) := F1k.out.cell 0
    have fk0 : (w1).frozen? ⟨w.heap.size, 0, none⟩ = false := F1k.out.frozen 0
    have pk1 : (w1).cell? ⟨w.heap.size, 1, none⟩ = some (.int .i64 d) := F1k.out.cell 1
    have fk1 : (w1).frozen? ⟨w.heap.size, 1, none⟩ = false := F1k.out.frozen 1
    go_quiet (fail)
    go_wp2_with fail
    go_ret
    exact ⟨ret_bool (by rw [HR.out]), Lib.hid (below_drewN HB1.out _)⟩
  have dt3 : decide (-1073741824 ≤ n) = true := decide_eq_true t3
  by_cases t4 : n ≤ 1073741824
  case neg =>
    have dd : decide (n ≤ 1073741824) = false := decide_eq_false t4
    have HR := Lib.hid (show vB n d = false by rw [vB, decide_eq_false_iff_not]; rintro ⟨a1, a2, a3, a4, _⟩; unfold MX at *; omega)
    clear t4
    go_enter Tryz.func23, Tryz.ntmps23
    go_wp2_with fail
    obtain ⟨w1, hw⟩ : ∃ z9 : World, z9 = (w.alloc (.cells #[.int .i64 n, .int .i64 d] 23)) := ⟨_, rfl⟩
    have HB1 := Lib.hid (show Below w.heap.size w w1 by rw [hw]; exact below_a1 _ _)
    have F1k := Lib.hid (show Blk w1 (w.heap.size) 23 #[.int .i64 n, .int .i64 d] by rw [hw]; exact Blk.new _ _ _)
    rw [← hw]
    clear hw
    have pk0 : (w1).cell? ⟨w.heap.size, 0, none⟩ = some (.int .i64 n) := F1k.out.cell 0
    have fk0 : (w1).frozen? ⟨w.heap.size, 0, none⟩ = false := F1k.out.frozen 0
    have pk1 : (w1).cell? ⟨w.heap.size, 1, none⟩ = some (.int .i64 d) := F1k.out.cell 1
    have fk1 : (w1).frozen? ⟨w.heap.size, 1, none⟩ = false := F1k.out.frozen 1
    go_quiet (fail)
    go_wp2_with fail
    go_ret
    exact ⟨ret_bool (by rw [HR.out]), Lib.hid (below_drewN HB1.out _)⟩
  have dt4 : decide (n ≤ 1073741824) = true := decide_eq_true t4
  by_cases t5 : Nat.gcd n.natAbs d.natAbs = 1
  · have d5 : (((Nat.gcd n.natAbs d.natAbs : Nat) : Int) == 1) = true := by simp; omega
    have HR := Lib.hid (show vB n d = true by rw [vB]; rw [decide_eq_true_iff]; exact ⟨t1, by unfold MX; omega, by unfold MX; omega, by unfold MX; omega, t5⟩)
    clear t5
    go_enter Tryz.func23, Tryz.ntmps23
    go_wp2_with fail
    obtain ⟨w1, hw⟩ : ∃ z9 : World, z9 = (w.alloc (.cells #[.int .i64 n, .int .i64 d] 23)) := ⟨_, rfl⟩
    have HB1 := Lib.hid (show Below w.heap.size w w1 by rw [hw]; exact below_a1 _ _)
    have F1k := Lib.hid (show Blk w1 (w.heap.size) 23 #[.int .i64 n, .int .i64 d] by rw [hw]; exact Blk.new _ _ _)
    rw [← hw]
    clear hw
    have pk0 : (w1).cell? ⟨w.heap.size, 0, none⟩ = some (.int .i64 n) := F1k.out.cell 0
    have fk0 : (w1).frozen? ⟨w.heap.size, 0, none⟩ = false := F1k.out.frozen 0
    have pk1 : (w1).cell? ⟨w.heap.size, 1, none⟩ = some (.int .i64 d) := F1k.out.cell 1
    have fk1 : (w1).frozen? ⟨w.heap.size, 1, none⟩ = false := F1k.out.frozen 1
    have KN := Lib.hid (fun q => size_r n (w1.drewN q) h1 h2)
    have KG := Lib.hid (fun q => gcd_r n.natAbs d.natAbs (w1.drewN q) (by omega) (by omega))
    have HDD := Lib.hid (show (d.natAbs : Int) = d by omega)
    have hud : IntKind.u64.wrap d = (d.natAbs : Int) := by rw [HDD.out, IntKind.wrap_u64]; omega
    go_quiet ((first | (go_at_call_of 51 (Value.int .i64 n); exact quiet_left (KN.out _)) | (go_at_call 62; exact quiet_left2 (KG.out _))))
    go_wp2_with fail
    go_ret
    exact ⟨ret_bool (by rw [HR.out]), Lib.hid (below_drewN HB1.out _)⟩
  · have d5 : (((Nat.gcd n.natAbs d.natAbs : Nat) : Int) == 1) = false := by simp; omega
    have HR := Lib.hid (show vB n d = false by rw [vB]; rw [decide_eq_false_iff_not]; rintro ⟨_, _, _, _, a5⟩; exact t5 a5)
    clear t5
    go_enter Tryz.func23, Tryz.ntmps23
    go_wp2_with fail
    obtain ⟨w1, hw⟩ : ∃ z9 : World, z9 = (w.alloc (.cells #[.int .i64 n, .int .i64 d] 23)) := ⟨_, rfl⟩
    have HB1 := Lib.hid (show Below w.heap.size w w1 by rw [hw]; exact below_a1 _ _)
    have F1k := Lib.hid (show Blk w1 (w.heap.size) 23 #[.int .i64 n, .int .i64 d] by rw [hw]; exact Blk.new _ _ _)
    rw [← hw]
    clear hw
    have pk0 : (w1).cell? ⟨w.heap.size, 0, none⟩ = some (.int .i64 n) := F1k.out.cell 0
    have fk0 : (w1).frozen? ⟨w.heap.size, 0, none⟩ = false := F1k.out.frozen 0
    have pk1 : (w1).cell? ⟨w.heap.size, 1, none⟩ = some (.int .i64 d) := F1k.out.cell 1
    have fk1 : (w1).frozen? ⟨w.heap.size, 1, none⟩ = false := F1k.out.frozen 1
    have KN := Lib.hid (fun q => size_r n (w1.drewN q) h1 h2)
    have KG := Lib.hid (fun q => gcd_r n.natAbs d.natAbs (w1.drewN q) (by omega) (by omega))
    have HDD := Lib.hid (show (d.natAbs : Int) = d by omega)
    have hud : IntKind.u64.wrap d = (d.natAbs : Int) := by rw [HDD.out, IntKind.wrap_u64]; omega
    go_quiet ((first | (go_at_call_of 51 (Value.int .i64 n); exact quiet_left (KN.out _)) | (go_at_call 62; exact quiet_left2 (KG.out _))))
    go_wp2_with fail
    go_ret
    exact ⟨ret_bool (by rw [HR.out]), Lib.hid (below_drewN HB1.out _)⟩
end Go.Proofs.YtnogfceojmnjiaaGreatDoor
