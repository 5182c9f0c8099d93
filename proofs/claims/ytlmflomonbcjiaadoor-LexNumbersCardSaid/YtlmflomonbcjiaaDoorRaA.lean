/-
  The walks of size, gcd, Valid (of ratio and of the reference), ratio.Make.
-/
import Derived.Test.YtlmflomonbcjiaaDoorRoD
import Derived.Test.YtlmflomonbcjiaaDoorDyPlain
set_option linter.unusedVariables false
namespace Go.Fl
open Go.RowKit
theorem store2_put {w : World} {g : Nat} {t : TypeId} {x y : Value} (hB : Blk w g t #[x, y]) (a b : Value) : (w.setCell ⟨g, 0, none⟩ a).setCell ⟨g, 1, none⟩ b = putB w g t #[a, b] := by
  rw [hB.setCell_eq 0 a]
  have h1 := hB.put ((#[x, y] : Array Value).setIfInBounds 0 a)
  rw [h1.setCell_eq 1 b, putB_putB]
  rfl
theorem store2_below {B : Nat} {w0 w : World} {g : Nat} {t : TypeId} {x y : Value} (h : Below B w0 w) (hB : Blk w g t #[x, y]) (a b : Value) (hg : B ≤ g) : Below B w0 ((w.setCell ⟨g, 0, none⟩ a).setCell ⟨g, 1, none⟩ b) := by
  rw [store2_put hB]
  exact h.trans (putB_below w g t _ hg)
theorem store2_far {w : World} {g g' i : Nat} {t : TypeId} {x y v : Value} (hB : Blk w g' t #[x, y]) (hc : w.cell? ⟨g, i, none⟩ = some v) (hne : g ≠ g') (a b : Value) : ((w.setCell ⟨g', 0, none⟩ a).setCell ⟨g', 1, none⟩ b).cell? ⟨g, i, none⟩ = some v := by
  rw [store2_put hB]
  exact (putB_grown w g' t _).cell hc (by simpa using hne)
end Go.Fl
namespace Go.Fl.Rt
def vB (n d : Int) : Bool := decide (valid n d)
theorem vB_iff {n d : Int} : vB n d = true ↔ valid n d := by simp [vB]
theorem gcd_step (x y : Nat) : Nat.gcd x y = Nat.gcd y (x % y) := by rw [Nat.gcd_comm x y, Nat.gcd_rec, Nat.gcd_comm]
end Go.Fl.Rt
namespace Go.Proofs.YtlmflomonbcjiaaDoor
open Go.RowKit Go.Fl Go.Fl.Nm Go.Fl.Dy Go.Fl.Rt
def GcdPost (g : Nat) (w : World) (e : Ending) (w' : World) : Prop := e = .returned (.int .u64 (g : Nat)) ∧ ∃ q, w' = w.drewN q
/-- A ratio and an error. -/
def RtE (r : Int × Int × Int) (w : World) (e : Ending) (w' : World) : Prop := e = .returned (.tuple #[.agg #[.int .i64 r.1, .int .i64 r.2.1], .int .i64 r.2.2]) ∧ Hid (Below w.heap.size w w')

set_option maxHeartbeats 400000 in
theorem size_q (n : Int) (w : World) (h1 : -9223372036854775808 ≤ n) (h2 : n ≤ 9223372036854775807) :
    Calls Tryd.prog 35 #[.int .i64 n] w fun e w' => e = .returned (.int .u64 (n.natAbs : Nat)) ∧ w = w' := by
  by_cases hn : n < 0
  · have dn : decide (n < 0) = true := decide_eq_true hn
    have e1 : IntKind.u64.wrap (-n) = -n := by rw [IntKind.wrap_u64]; omega
    have e2 : (n.natAbs : Int) = -n := by omega
    by_cases hm : n = -9223372036854775808
    · subst hm
      go_enter Tryd.func35, Tryd.ntmps35
      go_wp2
      go_ret
      exact ⟨ret_int (by kernel_rfl), rfl⟩
    · have h3 : -n ≤ 9223372036854775807 := by omega
      have HE := Lib.hid e2
      clear e2 hm
      go_enter Tryd.func35, Tryd.ntmps35
      go_wp2
      go_ret
      exact ⟨ret_int (by rw [HE.out]), rfl⟩
  · have dn : decide (n < 0) = false := decide_eq_false hn
    have e1 : IntKind.u64.wrap n = n := by rw [IntKind.wrap_u64]; omega
    have HE := Lib.hid (show (n.natAbs : Int) = n by omega)
    go_enter Tryd.func35, Tryd.ntmps35
    go_wp2
    go_ret
    exact ⟨ret_int (by rw [HE.out]), rfl⟩

set_option maxHeartbeats 400000 in
theorem gcd_q (a b : Nat) (w : World) (ha : a < 18446744073709551616) (hb : b < 18446744073709551616) :
    Calls Tryd.prog 36 #[.int .u64 a, .int .u64 b] w (GcdPost (Nat.gcd a b) w) := by
  go_enter Tryd.func36, Tryd.ntmps36
  go_wp2_with fail
  go_loopg [0, 1] b (fun k x y wr => ∃ (d X Y : Nat), wr = w.drewN d ∧ x = .int .u64 X ∧ y = .int .u64 Y ∧ X < 18446744073709551616 ∧ Y < 18446744073709551616 ∧ Y = k ∧ Hid (Nat.gcd X Y = Nat.gcd a b))
  case atStart => exact ⟨0, a, b, rfl, rfl, rfl, ha, hb, rfl, Lib.hid rfl⟩
  case round =>
    obtain ⟨d, X, Y, rfl, rfl, rfl, hX, hY, rfl, HG⟩ := hrel
    by_cases h0 : Y = 0
    · subst h0
      go_wp2_with fail
      go_ret
      exact ⟨ret_int (by rw [← HG.out, Nat.gcd_zero_right]), d, rfl⟩
    · have d0 : ((Y : Int) != 0) = true := by simp; exact h0
      have d1 : ((Y : Int) == 0) = false := by rw [beq_eq_false_iff_ne]; omega
      have hlt := Nat.mod_lt X (by omega : 0 < Y)
      have HG2 := Lib.hid (show Nat.gcd Y (X % Y) = Nat.gcd a b by rw [← gcd_step, HG.out])
      have HM := Lib.hid (show ((X : Int).tmod Y) = ((X % Y : Nat) : Int) by rw [Int.tmod_eq_emod_of_nonneg (by omega)]; rfl)
      go_wp2_with fail
      go_quiet (fail)
      go_wp2_with fail
      go_roundg (X % Y)
      case measure => exact hlt
      case rel => exact ⟨_, Y, X % Y, drewN_drewN w d _, rfl, by first | rfl | go_num, hY, by omega, rfl, HG2⟩

end Go.Proofs.YtlmflomonbcjiaaDoor
