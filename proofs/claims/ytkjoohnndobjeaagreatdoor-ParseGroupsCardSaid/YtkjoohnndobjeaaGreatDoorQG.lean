/-
  The walks of size, gcd, Valid (of ratio and of the reference), ratio.Make.
  The walks of ratio.Make; the reference's lowest, checked, Make.
  The walk of ratio.Enclose.
  Contracts of the kit's shelf at this dump: written by its lay-shelf.mjs and lay-plain.mjs, cut down to what is used here (cutshelf.py).
  Contracts of the kit's shelf at this dump: written by its lay-shelf.mjs and lay-plain.mjs, cut down to what is used here (cutshelf.py).
  The walks of strings.Cut at one byte, ratio.digits, number.
  The walks of ratio.Text, the reference's decimal, Text.
-/
import Derived.Test.YtkjoohnndobjeaaGreatDoorQF
import Derived.Shelf.Strings.SlTrimAscii
import Derived.Shelf.Strings.Trim
import Derived.Test.YtkjoohnndobjeaaGreatDoorProg
import Derived.Shelf.Small.Utf8
import Derived.Shelf.Small.Bits
import Derived.Shelf.Small.Strs
import Derived.Shelf.Small.Wraps
import Derived.Shelf.Strconv.Itoa0
import Derived.Shelf.Strconv.Itoa1
import Derived.Shelf.LaysM
import Derived.Shelf.Strconv.Itoa2
import Derived.Shelf.Strconv.Itoa3
import Derived.Shelf.Strconv.ParseIntEmpty
import Derived.Shelf.Strconv.Clone
import Derived.Shelf.Strconv.SyntaxError
import Derived.Shelf.LaysC
import Derived.Shelf.Strconv.ToError
import Derived.Shelf.Strconv.Lower
import Derived.Shelf.Strconv.ParseUint10
import Derived.Shelf.Strconv.ParseUint10Empty
import Derived.Shelf.Strconv.ParseUint10Any
import Derived.Shelf.Strconv.ParseInt10
import Derived.Shelf.Strconv.RangeError
import Derived.Shelf.Strconv.ToErrorRange
import Derived.Shelf.Strconv.ParseUintEmpty
import Derived.Shelf.Strconv.ParseUint10b64
import Derived.Shelf.Strconv.ParseUint10b32
import Derived.Shelf.Strconv.ParseUint10b16
import Derived.Shelf.Strconv.ParseUint10b8
import Derived.Shelf.Strconv.ParseUint10At
import Derived.Shelf.Strconv.ParseInt10At64
import Derived.Shelf.Strconv.ParseInt10At32
import Derived.Shelf.Strconv.ParseInt10At16
import Derived.Shelf.Strconv.ParseInt10At8
import Derived.Shelf.Strconv.ParseInt10All
import Derived.Shelf.Strconv.ParseIntPublic10
import Derived.Shelf.Strconv.ErrVarParseInt
import Derived.Shelf.Strings.Search1
import Derived.Shelf.Strings.Search2
import Derived.Shelf.Strings.Cut
import Derived.Shelf.Strings.Shaped
import Derived.Shelf.Strings.Prefix
import Derived.Test.YtkjoohnndobjeaaGreatDoorQA
import Derived.Lib.SlTrimSet
import Derived.Lib.ParseIntBCases
import Derived.Laws.RangeAny
import Derived.Lib.ItoaLen
import Derived.Laws.BytesArg
set_option linter.unusedVariables false
namespace Go.Fl
open Go.RowKit
theorem store2_put {w : World} {g : Nat} {t : TypeId} {x y : Value} (hB : Blk w g t #[x, y]) (a b : Value) : (w.setCell ⟨g, 0, none⟩ a).setCell ⟨g, 1, none⟩ b = putB w g t #[a, b] := by
  rw [hB.setCell_eq 0 a]
  have h1 := hB.put ((#[x, y] : Array Value).setIfInBounds 0 a)
  rw [h1.setCell_eq 1 b, putB_putB]
  rfl
theorem store2_below {B : Nat} {w0 w : World} {g : Nat} {t : TypeId} {x y : Value} (h : Below B w0 w) (hB : Blk w g t #[x, y]) (a b : Value) (hg : B ≤ g) : Below B w0 ((w.setCell ⟨g, 0, none⟩ a).setCell ⟨g, 1, none⟩ b) := by
  rw [store2_put hB]
  exact h.trans (putB_below w g t _ hg)
end Go.Fl
namespace Go.Fl.Rt
def vB (n d : Int) : Bool := decide (valid n d)
theorem vB_iff {n d : Int} : vB n d = true ↔ valid n d := by simp [vB]
theorem gcd_step (x y : Nat) : Nat.gcd x y = Nat.gcd y (x % y) := by rw [Nat.gcd_comm x y, Nat.gcd_rec, Nat.gcd_comm]
end Go.Fl.Rt
namespace Go.Proofs.YtkjoohnndobjeaaGreatDoor
open Go.RowKit Go.Fl Go.Fl.Nm Go.Fl.Dy Go.Fl.Rt
def GcdPost (g : Nat) (w : World) (e : Ending) (w' : World) : Prop := e = .returned (.int .u64 (g : Nat)) ∧ ∃ q, w' = w.drewN q
/-- A ratio and an error. -/
def RtE (r : Int × Int × Int) (w : World) (e : Ending) (w' : World) : Prop := e = .returned (.tuple #[.agg #[.int .i64 r.1, .int .i64 r.2.1], .int .i64 r.2.2]) ∧ Hid (Below w.heap.size w w')

set_option maxHeartbeats 400000 in
theorem size_q (n : Int) (w : World) (h1 : -9223372036854775808 ≤ n) (h2 : n ≤ 9223372036854775807) :
    Calls Tryz.prog 119 #[.int .i64 n] w fun e w' => e = .returned (.int .u64 (n.natAbs : Nat)) ∧ w = w' := by
  by_cases hn : n < 0
  · have dn : decide (n < 0) = true := decide_eq_true hn
    have e1 : IntKind.u64.wrap (-n) = -n := by rw [IntKind.wrap_u64]; omega
    have e2 : (n.natAbs : Int) = -n := by omega
    by_cases hm : n = -9223372036854775808
    · subst hm
      go_enter Tryz.func119, Tryz.ntmps119
      go_wp2
      go_ret
      exact ⟨ret_int (by kernel_rfl), rfl⟩
    · have h3 : -n ≤ 9223372036854775807 := by omega
      have HE := Lib.hid e2
      clear e2 hm
      go_enter Tryz.func119, Tryz.ntmps119
      go_wp2
      go_ret
      exact ⟨ret_int (by rw [HE.out]), rfl⟩
  · have dn : decide (n < 0) = false := decide_eq_false hn
    have e1 : IntKind.u64.wrap n = n := by rw [IntKind.wrap_u64]; omega
    have HE := Lib.hid (show (n.natAbs : Int) = n by omega)
    go_enter Tryz.func119, Tryz.ntmps119
    go_wp2
    go_ret
    exact ⟨ret_int (by rw [HE.out]), rfl⟩

set_option maxHeartbeats 400000 in
theorem gcd_q (a b : Nat) (w : World) (ha : a < 18446744073709551616) (hb : b < 18446744073709551616) :
    Calls Tryz.prog 118 #[.int .u64 a, .int .u64 b] w (GcdPost (Nat.gcd a b) w) := by
  go_enter Tryz.func118, Tryz.ntmps118
  go_wp2_with fail
  go_loopg [0, 1] b (fun k x y wr => ∃ (d X Y : Nat), wr = w.drewN d ∧ x = .int .u64 X ∧ y = .int .u64 Y ∧ X < 18446744073709551616 ∧ Y < 18446744073709551616 ∧ Y = k ∧ Hid (Nat.gcd X Y = Nat.gcd a b))
  case atStart => exact ⟨0, a, b, rfl, rfl, rfl, ha, hb, rfl, Lib.hid rfl⟩
  case round =>
    obtain ⟨d, X, Y, rfl, rfl, rfl, hX, hY, rfl, HG⟩ := hrel
    by_cases h0 : Y = 0
    · subst h0
      go_wp2_with fail
      go_ret
      exact ⟨ret_int (by rw [← HG.out, Nat.gcd_zero_right]), d, rfl⟩
    · have d0 : ((Y : Int) != 0) = true := by simp; exact h0
      have d1 : ((Y : Int) == 0) = false := by rw [beq_eq_false_iff_ne]; omega
      have hlt := Nat.mod_lt X (by omega : 0 < Y)
      have HG2 := Lib.hid (show Nat.gcd Y (X % Y) = Nat.gcd a b by rw [← gcd_step, HG.out])
      have HM := Lib.hid (show ((X : Int).tmod Y) = ((X % Y : Nat) : Int) by rw [Int.tmod_eq_emod_of_nonneg (by omega)]; rfl)
      go_wp2_with fail
      go_quiet (fail)
      go_wp2_with fail
      go_roundg (X % Y)
      case measure => exact hlt
      case rel => exact ⟨_, Y, X % Y, drewN_drewN w d _, rfl, by first | rfl | go_num, hY, by omega, rfl, HG2⟩

set_option maxHeartbeats 1000000 in
theorem valid_q (n d : Int) (w : World) (h1 : -9223372036854775808 ≤ n) (h2 : n ≤ 9223372036854775807) (h3 : -9223372036854775808 ≤ d) (h4 : d ≤ 9223372036854775807) :
    Calls Tryz.prog 81 #[.agg #[.int .i64 n, .int .i64 d]] w (Ret (.bool (vB n d)) w) := by
  by_cases t1 : 1 ≤ d
  case neg =>
    have dd : decide (1 ≤ d) = false := decide_eq_false t1
    have HR := Lib.hid (show vB n d = false by rw [vB, decide_eq_false_iff_not]; rintro ⟨a1, a2, a3, a4, _⟩; unfold MX at *; omega)
    clear t1
    go_enter Tryz.func81, Tryz.ntmps81
    go_wp2_with fail
    obtain ⟨w1, hw⟩ : ∃ z9 : World, z9 = (w.alloc (.cells #[.int .i64 n, .int .i64 d] 26)) := ⟨_, rfl⟩
    have HB1 := Lib.hid (show Below w.heap.size w w1 by rw [hw]; exact below_a1 _ _)
    have F1k := Lib.hid (show Blk w1 (w.heap.size) 26 #[.int .i64 n, .int .i64 d] by rw [hw]; exact Blk.new _ _ _)
    rw [← hw]
    clear hw
    have pk0 : (w1).cell? ⟨w.heap.size, 0, none⟩ = some (.int .i64 n) := F1k.out.cell 0
    have fk0 : (w1).frozen? ⟨w.heap.size, 0, none⟩ = false := F1k.out.frozen 0
    have pk1 : (w1).cell? ⟨w.heap.size, 1, none⟩ = some (.int .i64 d) := F1k.out.cell 1
    have fk1 : (w1).frozen? ⟨w.heap.size, 1, none⟩ = false := F1k.out.frozen 1
    go_quiet (fail)
    go_wp2_with fail
    go_ret
    exact ⟨ret_bool (by rw [HR.out]), Lib.hid (below_drewN HB1.out _)⟩
  have dt1 : decide (1 ≤ d) = true := decide_eq_true t1
  by_cases t2 : d ≤ 1073741824
  case neg =>
    have dd : decide (d ≤ 1073741824) = false := decide_eq_false t2
    have HR := Lib.hid (show vB n d = false by rw [vB, decide_eq_false_iff_not]; rintro ⟨a1, a2, a3, a4, _⟩; unfold MX at *; omega)
    clear t2
    go_enter Tryz.func81, Tryz.ntmps81
    go_wp2_with fail
    obtain ⟨w1, hw⟩ : ∃ z9 : World, z9 = (w.alloc (.cells #[.int .i64 n, .int .i64 d] 26)) := ⟨_, rfl⟩
    have HB1 := Lib.hid (show Below w.heap.size w w1 by rw [hw]; exact below_a1 _ _)
    have F1k := Lib.hid (show Blk w1 (w.heap.size) 26 #[.int .i64 n, .int .i64 d] by rw [hw]; exact Blk.new _ _ _)
    rw [← hw]
    clear hw
    have pk0 : (w1).cell? ⟨w.heap.size, 0, none⟩ = some (.int .i64 n) := F1k.out.cell 0
    have fk0 : (w1).frozen? ⟨w.heap.size, 0, none⟩ = false := F1k.out.frozen 0
    have pk1 : (w1).cell? ⟨w.heap.size, 1, none⟩ = some (.int .i64 d) := F1k.out.cell 1
    have fk1 : (w1).frozen? ⟨w.heap.size, 1, none⟩ = false := F1k.out.frozen 1
    go_quiet (fail)
    go_wp2_with fail
    go_ret
    exact ⟨ret_bool (by rw [HR.out]), Lib.hid (below_drewN HB1.out _)⟩
  have dt2 : decide (d ≤ 1073741824) = true := decide_eq_true t2
  by_cases t3 : -1073741824 ≤ n
  case neg =>
    have dd : decide (-1073741824 ≤ n) = false := decide_eq_false t3
    have HR := Lib.hid (show vB n d = false by rw [vB, decide_eq_false_iff_not]; rintro ⟨a1, a2, a3, a4, _⟩; unfold MX at *; omega)
    clear t3
    go_enter Tryz.func81, Tryz.ntmps81
    go_wp2_with fail
    obtain ⟨w1, hw⟩ : ∃ z9 : World, z9 = (w.alloc (.cells #[.int .i64 n, .int .i64 d] 26)) := ⟨_, rfl⟩
    have HB1 := Lib.hid (show Below w.heap.size w w1 by rw [hw]; exact below_a1 _ _)
    have F1k := Lib.hid (show Blk w1 (w.heap.size) 26 #[.int .i64 n, .int .i64 d] by rw [hw]; exact Blk.new _ _ _)
    rw [← hw]
    clear hw
    have pk0 : (w1).cell? ⟨w.heap.size, 0, none⟩ = some (.int .i64 n) := F1k.out.cell 0
    have fk0 : (w1).frozen? ⟨w.heap.size, 0, none⟩ = false := F1k.out.frozen 0
    have pk1 : (w1).cell? ⟨w.heap.size, 1, none⟩ = some (.int .i64 d) := F1k.out.cell 1
    have fk1 : (w1).frozen? ⟨w.heap.size, 1, none⟩ = false := F1k.out.frozen 1
    go_quiet (fail)
    go_wp2_with fail
    go_ret
    exact ⟨ret_bool (by rw [HR.out]), Lib.hid (below_drewN HB1.out _)⟩
  have dt3 : decide (-1073741824 ≤ n) = true := decide_eq_true t3
  by_cases t4 : n ≤ 1073741824
  case neg =>
    have dd : decide (n ≤ 1073741824) = false := decide_eq_false t4
    have HR := Lib.hid (show vB n d = false by rw [vB, decide_eq_false_iff_not]; rintro ⟨a1, a2, a3, a4, _⟩; unfold MX at *; omega)
    clear t4
    go_enter Tryz.func81, Tryz.ntmps81
    go_wp2_with fail
    obtain ⟨w1, hw⟩ : ∃ z9 : World, z9 = (w.alloc (.cells #[.int .i64 n, .int .i64 d] 26)) := ⟨_, rfl⟩
    have HB1 := Lib.hid (show Below w.heap.size w w1 by rw [hw]; exact below_a1 _ _)
    have F1k := Lib.hid (show Blk w1 (w.heap.size) 26 #[.int .i64 n, .int .i64 d] by rw [hw]; exact Blk.new _ _ _)
    rw [← hw]
    clear hw
    have pk0 : (w1).cell? ⟨w.heap.size, 0, none⟩ = some (.int .i64 n) := F1k.out.cell 0
    have fk0 : (w1).frozen? ⟨w.heap.size, 0, none⟩ = false := F1k.out.frozen 0
    have pk1 : (w1).cell? ⟨w.heap.size, 1, none⟩ = some (.int .i64 d) := F1k.out.cell 1
    have fk1 : (w1).frozen? ⟨w.heap.size, 1, none⟩ = false := F1k.out.frozen 1
    go_quiet (fail)
    go_wp2_with fail
    go_ret
    exact ⟨ret_bool (by rw [HR.out]), Lib.hid (below_drewN HB1.out _)⟩
  have dt4 : decide (n ≤ 1073741824) = true := decide_eq_true t4
  by_cases t5 : Nat.gcd n.natAbs d.natAbs = 1
  · have d5 : (((Nat.gcd n.natAbs d.natAbs : Nat) : Int) == 1) = true := by simp; omega
    have HR := Lib.hid (show vB n d = true by rw [vB]; rw [decide_eq_true_iff]; exact ⟨t1, by unfold MX; omega, by unfold MX; omega, by unfold MX; omega, t5⟩)
    clear t5
    go_enter Tryz.func81, Tryz.ntmps81
    go_wp2_with fail
    obtain ⟨w1, hw⟩ : ∃ z9 : World, z9 = (w.alloc (.cells #[.int .i64 n, .int .i64 d] 26)) := ⟨_, rfl⟩
    have HB1 := Lib.hid (show Below w.heap.size w w1 by rw [hw]; exact below_a1 _ _)
    have F1k := Lib.hid (show Blk w1 (w.heap.size) 26 #[.int .i64 n, .int .i64 d] by rw [hw]; exact Blk.new _ _ _)
    rw [← hw]
    clear hw
    have pk0 : (w1).cell? ⟨w.heap.size, 0, none⟩ = some (.int .i64 n) := F1k.out.cell 0
    have fk0 : (w1).frozen? ⟨w.heap.size, 0, none⟩ = false := F1k.out.frozen 0
    have pk1 : (w1).cell? ⟨w.heap.size, 1, none⟩ = some (.int .i64 d) := F1k.out.cell 1
    have fk1 : (w1).frozen? ⟨w.heap.size, 1, none⟩ = false := F1k.out.frozen 1
    have KN := Lib.hid (fun q => size_q n (w1.drewN q) h1 h2)
    have KG := Lib.hid (fun q => gcd_q n.natAbs d.natAbs (w1.drewN q) (by omega) (by omega))
    have KD := Lib.hid (fun q => size_q d (w1.drewN q) h3 h4)
    go_quiet ((first | (go_at_call_of 119 (Value.int .i64 n); exact quiet_left (KN.out _)) | (go_at_call_of 119 (Value.int .i64 d); exact quiet_left (KD.out _)) | (go_at_call 118; exact quiet_left2 (KG.out _))))
    go_wp2_with fail
    go_ret
    exact ⟨ret_bool (by rw [HR.out]), Lib.hid (below_drewN HB1.out _)⟩
  · have d5 : (((Nat.gcd n.natAbs d.natAbs : Nat) : Int) == 1) = false := by simp; omega
    have HR := Lib.hid (show vB n d = false by rw [vB]; rw [decide_eq_false_iff_not]; rintro ⟨_, _, _, _, a5⟩; exact t5 a5)
    clear t5
    go_enter Tryz.func81, Tryz.ntmps81
    go_wp2_with fail
    obtain ⟨w1, hw⟩ : ∃ z9 : World, z9 = (w.alloc (.cells #[.int .i64 n, .int .i64 d] 26)) := ⟨_, rfl⟩
    have HB1 := Lib.hid (show Below w.heap.size w w1 by rw [hw]; exact below_a1 _ _)
    have F1k := Lib.hid (show Blk w1 (w.heap.size) 26 #[.int .i64 n, .int .i64 d] by rw [hw]; exact Blk.new _ _ _)
    rw [← hw]
    clear hw
    have pk0 : (w1).cell? ⟨w.heap.size, 0, none⟩ = some (.int .i64 n) := F1k.out.cell 0
    have fk0 : (w1).frozen? ⟨w.heap.size, 0, none⟩ = false := F1k.out.frozen 0
    have pk1 : (w1).cell? ⟨w.heap.size, 1, none⟩ = some (.int .i64 d) := F1k.out.cell 1
    have fk1 : (w1).frozen? ⟨w.heap.size, 1, none⟩ = false := F1k.out.frozen 1
    have KN := Lib.hid (fun q => size_q n (w1.drewN q) h1 h2)
    have KG := Lib.hid (fun q => gcd_q n.natAbs d.natAbs (w1.drewN q) (by omega) (by omega))
    have KD := Lib.hid (fun q => size_q d (w1.drewN q) h3 h4)
    go_quiet ((first | (go_at_call_of 119 (Value.int .i64 n); exact quiet_left (KN.out _)) | (go_at_call_of 119 (Value.int .i64 d); exact quiet_left (KD.out _)) | (go_at_call 118; exact quiet_left2 (KG.out _))))
    go_wp2_with fail
    go_ret
    exact ⟨ret_bool (by rw [HR.out]), Lib.hid (below_drewN HB1.out _)⟩

end Go.Proofs.YtkjoohnndobjeaaGreatDoor
namespace Go.Proofs.YtkjoohnndobjeaaGreatDoor
open Go.RowKit Go.Fl Go.Fl.Nm Go.Fl.Dy Go.Fl.Rt

set_option maxHeartbeats 2000000 in
theorem make_q (n d : Int) (w : World) (h1 : -9223372036854775808 ≤ n) (h2 : n ≤ 9223372036854775807) (h3 : -9223372036854775808 ≤ d) (h4 : d ≤ 9223372036854775807) :
    Calls Tryz.prog 167 #[.int .i64 n, .int .i64 d] w (RtE (make n d) w) := by
  by_cases hd : d = 0
  · have HR := Lib.hid (show make n d = (0, 0, 10) by unfold make; rw [if_pos hd])
    subst hd
    go_enter Tryz.func167, Tryz.ntmps167
    go_wp2_with fail
    refine bodyPost_ret (v := .tuple #[.agg #[.int .i64 0, .int .i64 0], .int .i64 10]) (by simp [results, Tryz.results167, go_sem]) rfl ?_
    rw [HR.out]
    exact ⟨rfl, Lib.hid (below_a1 _ _)⟩
  have dd : (d == 0) = false := by rw [beq_eq_false_iff_ne]; exact hd
  obtain ⟨g, hg⟩ : ∃ g, g = Nat.gcd n.natAbs d.natAbs := ⟨_, rfl⟩
  have hg0 : 0 < g := by rw [hg]; exact gcd_pos_of hd
  obtain ⟨X, hX⟩ : ∃ X, X = n.natAbs / g := ⟨_, rfl⟩
  obtain ⟨Y, hY⟩ : ∃ Y, Y = d.natAbs / g := ⟨_, rfl⟩
  have HG := Lib.hid hg.symm
  have HM := Lib.hid (show make n d = if MX < X ∨ MX < Y then (0, 0, 9) else (if decide (n < 0) != decide (d < 0) then -(X : Int) else (X : Int), (Y : Int), 0) by
    unfold make; rw [if_neg hd, hX, hY, hg])
  have hXb : X ≤ n.natAbs := by rw [hX]; exact Nat.div_le_self _ _
  have hYb : Y ≤ d.natAbs := by rw [hY]; exact Nat.div_le_self _ _
  have dg : ((g : Int) == 0) = false := by rw [beq_eq_false_iff_ne]; omega
  have ex : (n.natAbs : Int) / (g : Int) = (X : Int) := by rw [hX]; rfl
  have ey : (d.natAbs : Int) / (g : Int) = (Y : Int) := by rw [hY]; rfl
  clear hg hX hY hd
  by_cases c1 : 1073741824 < X
  · have e1 : decide ((1073741824 : Int) < X) = true := decide_eq_true (by omega)
    have HR := Lib.hid (show make n d = (0, 0, 9) by rw [HM.out, if_pos (.inl (by unfold MX; exact c1))])
    clear c1
    go_enter Tryz.func167, Tryz.ntmps167
    go_wp2_with fail
    obtain ⟨w1, hw⟩ : ∃ z9 : World, z9 = (w.alloc (.cells #[.int .i64 0, .int .i64 0] 26)) := ⟨_, rfl⟩
    have HB1 := Lib.hid (show Below w.heap.size w w1 by rw [hw]; exact below_a1 _ _)
    have F1r := Lib.hid (show Blk w1 (w.heap.size) 26 #[.int .i64 0, .int .i64 0] by rw [hw]; exact Blk.new _ _ _)
    rw [← hw]
    clear hw
    refine (size_q n w1 h1 h2).mono ?_
    rintro e w' ⟨rfl, rfl⟩
    go_wp2_with fail
    refine (size_q d w1 h3 h4).mono ?_
    rintro e w' ⟨rfl, rfl⟩
    go_wp2_with fail
    refine (gcd_q n.natAbs d.natAbs w1 (by omega) (by omega)).mono ?_
    rw [HG.out]
    rintro e w2 ⟨rfl, qd, hqd⟩
    have HB2 := Lib.hid (show Below w1.heap.size w1 w2 by rw [hqd]; exact below_drewN (Below.refl _ _) qd)
    clear hqd
    have F2r := Lib.hid (F1r.out.belowW HB2.out)
    have HL2 := Lib.hid (HB1.out.trans (HB2.out.mono HB1.out.size))
    go_wp2_with fail
    go_quiet (fail)
    rename_i nq
    obtain ⟨w3, hw⟩ : ∃ z9 : World, z9 = w2.drewN nq := ⟨_, rfl⟩
    have HB3 := Lib.hid (show Below w2.heap.size w2 w3 by rw [hw]; exact below_drewN (Below.refl _ _) _)
    rw [← hw]
    clear hw
    have F3r := Lib.hid (F2r.out.belowW HB3.out)
    have HL3 := Lib.hid (HL2.out.trans (HB3.out.mono HL2.out.size))
    have pr0 : (w3).cell? ⟨w.heap.size, 0, none⟩ = some (.int .i64 0) := F3r.out.cell 0
    have fr0 : (w3).frozen? ⟨w.heap.size, 0, none⟩ = false := F3r.out.frozen 0
    have pr1 : (w3).cell? ⟨w.heap.size, 1, none⟩ = some (.int .i64 0) := F3r.out.cell 1
    have fr1 : (w3).frozen? ⟨w.heap.size, 1, none⟩ = false := F3r.out.frozen 1
    go_wp2_with fail
    refine bodyPost_ret (v := .tuple #[.agg #[.int .i64 0, .int .i64 0], .int .i64 9]) (by simp [results, Tryz.results167, go_sem, pr0, pr1]) rfl ?_
    rw [HR.out]
    exact ⟨rfl, Lib.hid (store2_below HL3.out F3r.out _ _ (Nat.le_refl _))⟩
  have e1 : decide ((1073741824 : Int) < X) = false := decide_eq_false (by omega)
  by_cases c2 : 1073741824 < Y
  · have e2 : decide ((1073741824 : Int) < Y) = true := decide_eq_true (by omega)
    have HR := Lib.hid (show make n d = (0, 0, 9) by rw [HM.out, if_pos (.inr (by unfold MX; exact c2))])
    clear c2
    go_enter Tryz.func167, Tryz.ntmps167
    go_wp2_with fail
    obtain ⟨w1, hw⟩ : ∃ z9 : World, z9 = (w.alloc (.cells #[.int .i64 0, .int .i64 0] 26)) := ⟨_, rfl⟩
    have HB1 := Lib.hid (show Below w.heap.size w w1 by rw [hw]; exact below_a1 _ _)
    have F1r := Lib.hid (show Blk w1 (w.heap.size) 26 #[.int .i64 0, .int .i64 0] by rw [hw]; exact Blk.new _ _ _)
    rw [← hw]
    clear hw
    refine (size_q n w1 h1 h2).mono ?_
    rintro e w' ⟨rfl, rfl⟩
    go_wp2_with fail
    refine (size_q d w1 h3 h4).mono ?_
    rintro e w' ⟨rfl, rfl⟩
    go_wp2_with fail
    refine (gcd_q n.natAbs d.natAbs w1 (by omega) (by omega)).mono ?_
    rw [HG.out]
    rintro e w2 ⟨rfl, qd, hqd⟩
    have HB2 := Lib.hid (show Below w1.heap.size w1 w2 by rw [hqd]; exact below_drewN (Below.refl _ _) qd)
    clear hqd
    have F2r := Lib.hid (F1r.out.belowW HB2.out)
    have HL2 := Lib.hid (HB1.out.trans (HB2.out.mono HB1.out.size))
    go_wp2_with fail
    go_quiet (fail)
    rename_i nq
    obtain ⟨w3, hw⟩ : ∃ z9 : World, z9 = w2.drewN nq := ⟨_, rfl⟩
    have HB3 := Lib.hid (show Below w2.heap.size w2 w3 by rw [hw]; exact below_drewN (Below.refl _ _) _)
    rw [← hw]
    clear hw
    have F3r := Lib.hid (F2r.out.belowW HB3.out)
    have HL3 := Lib.hid (HL2.out.trans (HB3.out.mono HL2.out.size))
    have pr0 : (w3).cell? ⟨w.heap.size, 0, none⟩ = some (.int .i64 0) := F3r.out.cell 0
    have fr0 : (w3).frozen? ⟨w.heap.size, 0, none⟩ = false := F3r.out.frozen 0
    have pr1 : (w3).cell? ⟨w.heap.size, 1, none⟩ = some (.int .i64 0) := F3r.out.cell 1
    have fr1 : (w3).frozen? ⟨w.heap.size, 1, none⟩ = false := F3r.out.frozen 1
    go_wp2_with fail
    refine bodyPost_ret (v := .tuple #[.agg #[.int .i64 0, .int .i64 0], .int .i64 9]) (by simp [results, Tryz.results167, go_sem, pr0, pr1]) rfl ?_
    rw [HR.out]
    exact ⟨rfl, Lib.hid (store2_below HL3.out F3r.out _ _ (Nat.le_refl _))⟩
  have e2 : decide ((1073741824 : Int) < Y) = false := decide_eq_false (by omega)
  have HS := Lib.hid (show make n d = (if decide (n < 0) != decide (d < 0) then -(X : Int) else (X : Int), (Y : Int), 0) by rw [HM.out, if_neg (by unfold MX; omega)])
  by_cases n0 : n < 0
  case pos =>
    by_cases d0 : d < 0
    · have dn : decide (n < 0) = true := decide_eq_true n0
      have dm : decide (d < 0) = true := decide_eq_true d0
      have HR := Lib.hid (show make n d = ((X : Int), (Y : Int), 0) by rw [HS.out, dn, dm]; rfl)
      clear n0 d0
      go_enter Tryz.func167, Tryz.ntmps167
      go_wp2_with fail
      obtain ⟨w1, hw⟩ : ∃ z9 : World, z9 = (w.alloc (.cells #[.int .i64 0, .int .i64 0] 26)) := ⟨_, rfl⟩
      have HB1 := Lib.hid (show Below w.heap.size w w1 by rw [hw]; exact below_a1 _ _)
      have F1r := Lib.hid (show Blk w1 (w.heap.size) 26 #[.int .i64 0, .int .i64 0] by rw [hw]; exact Blk.new _ _ _)
      rw [← hw]
      clear hw
      refine (size_q n w1 h1 h2).mono ?_
      rintro e w' ⟨rfl, rfl⟩
      go_wp2_with fail
      refine (size_q d w1 h3 h4).mono ?_
      rintro e w' ⟨rfl, rfl⟩
      go_wp2_with fail
      refine (gcd_q n.natAbs d.natAbs w1 (by omega) (by omega)).mono ?_
      rw [HG.out]
      rintro e w2 ⟨rfl, qd, hqd⟩
      have HB2 := Lib.hid (show Below w1.heap.size w1 w2 by rw [hqd]; exact below_drewN (Below.refl _ _) qd)
      clear hqd
      have F2r := Lib.hid (F1r.out.belowW HB2.out)
      have HL2 := Lib.hid (HB1.out.trans (HB2.out.mono HB1.out.size))
      go_wp2_with fail
      go_quiet (fail)
      rename_i nq
      obtain ⟨w3, hw⟩ : ∃ z9 : World, z9 = w2.drewN nq := ⟨_, rfl⟩
      have HB3 := Lib.hid (show Below w2.heap.size w2 w3 by rw [hw]; exact below_drewN (Below.refl _ _) _)
      rw [← hw]
      clear hw
      have F3r := Lib.hid (F2r.out.belowW HB3.out)
      have HL3 := Lib.hid (HL2.out.trans (HB3.out.mono HL2.out.size))
      go_upto_region 9 with (fail)
      obtain ⟨w4, hw⟩ : ∃ z9 : World, z9 = w3.alloc (.cells #[.int .i64 (X : Int), .int .i64 (Y : Int)] 26) := ⟨_, rfl⟩
      have HB4 := Lib.hid (show Below w3.heap.size w3 w4 by rw [hw]; exact below_a1 _ _)
      have F4k := Lib.hid (show Blk w4 w3.heap.size 26 #[.int .i64 (X : Int), .int .i64 (Y : Int)] by rw [hw]; exact Blk.new _ _ _)
      rw [← hw]
      clear hw
      have F4r := Lib.hid (F3r.out.belowW HB4.out)
      have HL4 := Lib.hid (HL3.out.trans (HB4.out.mono HL3.out.size))
      have pk0 : (w4).cell? ⟨w3.heap.size, 0, none⟩ = some (.int .i64 (X : Int)) := F4k.out.cell 0
      have fk0 : (w4).frozen? ⟨w3.heap.size, 0, none⟩ = false := F4k.out.frozen 0
      have pk1 : (w4).cell? ⟨w3.heap.size, 1, none⟩ = some (.int .i64 (Y : Int)) := F4k.out.cell 1
      have fk1 : (w4).frozen? ⟨w3.heap.size, 1, none⟩ = false := F4k.out.frozen 1
      have pr0 : (w4).cell? ⟨w.heap.size, 0, none⟩ = some (.int .i64 0) := F4r.out.cell 0
      have fr0 : (w4).frozen? ⟨w.heap.size, 0, none⟩ = false := F4r.out.frozen 0
      have pr1 : (w4).cell? ⟨w.heap.size, 1, none⟩ = some (.int .i64 0) := F4r.out.cell 1
      have fr1 : (w4).frozen? ⟨w.heap.size, 1, none⟩ = false := F4r.out.frozen 1
      go_wp2_with fail
      refine bodyPost_ret (v := .tuple #[.agg #[.int .i64 (X : Int), .int .i64 (Y : Int)], .int .i64 0]) (by simp [results, Tryz.results167, go_sem, pr0, pr1]) rfl ?_
      rw [HR.out]
      exact ⟨rfl, Lib.hid (store2_below HL4.out F4r.out _ _ (Nat.le_refl _))⟩
    · have dn : decide (n < 0) = true := decide_eq_true n0
      have dm : decide (d < 0) = false := decide_eq_false d0
      have HR := Lib.hid (show make n d = ((-(X : Int)), (Y : Int), 0) by rw [HS.out, dn, dm]; rfl)
      clear n0 d0
      go_enter Tryz.func167, Tryz.ntmps167
      go_wp2_with fail
      obtain ⟨w1, hw⟩ : ∃ z9 : World, z9 = (w.alloc (.cells #[.int .i64 0, .int .i64 0] 26)) := ⟨_, rfl⟩
      have HB1 := Lib.hid (show Below w.heap.size w w1 by rw [hw]; exact below_a1 _ _)
      have F1r := Lib.hid (show Blk w1 (w.heap.size) 26 #[.int .i64 0, .int .i64 0] by rw [hw]; exact Blk.new _ _ _)
      rw [← hw]
      clear hw
      refine (size_q n w1 h1 h2).mono ?_
      rintro e w' ⟨rfl, rfl⟩
      go_wp2_with fail
      refine (size_q d w1 h3 h4).mono ?_
      rintro e w' ⟨rfl, rfl⟩
      go_wp2_with fail
      refine (gcd_q n.natAbs d.natAbs w1 (by omega) (by omega)).mono ?_
      rw [HG.out]
      rintro e w2 ⟨rfl, qd, hqd⟩
      have HB2 := Lib.hid (show Below w1.heap.size w1 w2 by rw [hqd]; exact below_drewN (Below.refl _ _) qd)
      clear hqd
      have F2r := Lib.hid (F1r.out.belowW HB2.out)
      have HL2 := Lib.hid (HB1.out.trans (HB2.out.mono HB1.out.size))
      go_wp2_with fail
      go_quiet (fail)
      rename_i nq
      obtain ⟨w3, hw⟩ : ∃ z9 : World, z9 = w2.drewN nq := ⟨_, rfl⟩
      have HB3 := Lib.hid (show Below w2.heap.size w2 w3 by rw [hw]; exact below_drewN (Below.refl _ _) _)
      rw [← hw]
      clear hw
      have F3r := Lib.hid (F2r.out.belowW HB3.out)
      have HL3 := Lib.hid (HL2.out.trans (HB3.out.mono HL2.out.size))
      go_upto_region 9 with (fail)
      obtain ⟨w4, hw⟩ : ∃ z9 : World, z9 = w3.alloc (.cells #[.int .i64 (X : Int), .int .i64 (Y : Int)] 26) := ⟨_, rfl⟩
      have HB4 := Lib.hid (show Below w3.heap.size w3 w4 by rw [hw]; exact below_a1 _ _)
      have F4k := Lib.hid (show Blk w4 w3.heap.size 26 #[.int .i64 (X : Int), .int .i64 (Y : Int)] by rw [hw]; exact Blk.new _ _ _)
      rw [← hw]
      clear hw
      have F4r := Lib.hid (F3r.out.belowW HB4.out)
      have HL4 := Lib.hid (HL3.out.trans (HB4.out.mono HL3.out.size))
      have pk0 : (w4).cell? ⟨w3.heap.size, 0, none⟩ = some (.int .i64 (X : Int)) := F4k.out.cell 0
      have fk0 : (w4).frozen? ⟨w3.heap.size, 0, none⟩ = false := F4k.out.frozen 0
      have pk1 : (w4).cell? ⟨w3.heap.size, 1, none⟩ = some (.int .i64 (Y : Int)) := F4k.out.cell 1
      have fk1 : (w4).frozen? ⟨w3.heap.size, 1, none⟩ = false := F4k.out.frozen 1
      have pr0 : (w4).cell? ⟨w.heap.size, 0, none⟩ = some (.int .i64 0) := F4r.out.cell 0
      have fr0 : (w4).frozen? ⟨w.heap.size, 0, none⟩ = false := F4r.out.frozen 0
      have pr1 : (w4).cell? ⟨w.heap.size, 1, none⟩ = some (.int .i64 0) := F4r.out.cell 1
      have fr1 : (w4).frozen? ⟨w.heap.size, 1, none⟩ = false := F4r.out.frozen 1
      have hne : w3.heap.size ≠ w.heap.size := fun e => by have := F4r.out.lt; have h9 := HB1.out.size; have := F3r.out.lt; omega
      go_upto_region 11 with (fail)
      rw [F4k.out.setCell_eq 0]
      obtain ⟨w9, hw⟩ : ∃ z9 : World, z9 = putB w4 w3.heap.size 26 ((#[.int .i64 (X : Int), .int .i64 (Y : Int)] : Array Value).setIfInBounds 0 (Value.int .i64 (-(X : Int)))) := ⟨_, rfl⟩
      have FK9 := Lib.hid (show Blk w9 w3.heap.size 26 #[.int .i64 (-(X : Int)), .int .i64 (Y : Int)] by rw [hw]; exact F4k.out.put _)
      have FR9 := Lib.hid (show Blk w9 w.heap.size 26 #[.int .i64 0, .int .i64 0] by rw [hw]; exact F4r.out.far (Ne.symm hne) _)
      have HL9 := Lib.hid (show Below w.heap.size w w9 by rw [hw]; exact HL4.out.trans (putB_below _ _ _ _ (by have := HL3.out.size; have := HB1.out.size; omega)))
      rw [← hw]
      clear hw pk0 pk1 fk0 fk1 pr0 pr1 fr0 fr1
      have pk0 : (w9).cell? ⟨w3.heap.size, 0, none⟩ = some (.int .i64 (-(X : Int))) := FK9.out.cell 0
      have fk0 : (w9).frozen? ⟨w3.heap.size, 0, none⟩ = false := FK9.out.frozen 0
      have pk1 : (w9).cell? ⟨w3.heap.size, 1, none⟩ = some (.int .i64 (Y : Int)) := FK9.out.cell 1
      have fk1 : (w9).frozen? ⟨w3.heap.size, 1, none⟩ = false := FK9.out.frozen 1
      have pr0 : (w9).cell? ⟨w.heap.size, 0, none⟩ = some (.int .i64 0) := FR9.out.cell 0
      have fr0 : (w9).frozen? ⟨w.heap.size, 0, none⟩ = false := FR9.out.frozen 0
      have pr1 : (w9).cell? ⟨w.heap.size, 1, none⟩ = some (.int .i64 0) := FR9.out.cell 1
      have fr1 : (w9).frozen? ⟨w.heap.size, 1, none⟩ = false := FR9.out.frozen 1
      go_wp2_with fail
      refine bodyPost_ret (v := .tuple #[.agg #[.int .i64 (-(X : Int)), .int .i64 (Y : Int)], .int .i64 0]) (by simp [results, Tryz.results167, go_sem, pr0, pr1]) rfl ?_
      rw [HR.out]
      exact ⟨rfl, Lib.hid (store2_below HL9.out FR9.out _ _ (Nat.le_refl _))⟩
  case neg =>
    by_cases d0 : d < 0
    · have dn : decide (n < 0) = false := decide_eq_false n0
      have dm : decide (d < 0) = true := decide_eq_true d0
      have HR := Lib.hid (show make n d = ((-(X : Int)), (Y : Int), 0) by rw [HS.out, dn, dm]; rfl)
      clear n0 d0
      go_enter Tryz.func167, Tryz.ntmps167
      go_wp2_with fail
      obtain ⟨w1, hw⟩ : ∃ z9 : World, z9 = (w.alloc (.cells #[.int .i64 0, .int .i64 0] 26)) := ⟨_, rfl⟩
      have HB1 := Lib.hid (show Below w.heap.size w w1 by rw [hw]; exact below_a1 _ _)
      have F1r := Lib.hid (show Blk w1 (w.heap.size) 26 #[.int .i64 0, .int .i64 0] by rw [hw]; exact Blk.new _ _ _)
      rw [← hw]
      clear hw
      refine (size_q n w1 h1 h2).mono ?_
      rintro e w' ⟨rfl, rfl⟩
      go_wp2_with fail
      refine (size_q d w1 h3 h4).mono ?_
      rintro e w' ⟨rfl, rfl⟩
      go_wp2_with fail
      refine (gcd_q n.natAbs d.natAbs w1 (by omega) (by omega)).mono ?_
      rw [HG.out]
      rintro e w2 ⟨rfl, qd, hqd⟩
      have HB2 := Lib.hid (show Below w1.heap.size w1 w2 by rw [hqd]; exact below_drewN (Below.refl _ _) qd)
      clear hqd
      have F2r := Lib.hid (F1r.out.belowW HB2.out)
      have HL2 := Lib.hid (HB1.out.trans (HB2.out.mono HB1.out.size))
      go_wp2_with fail
      go_quiet (fail)
      rename_i nq
      obtain ⟨w3, hw⟩ : ∃ z9 : World, z9 = w2.drewN nq := ⟨_, rfl⟩
      have HB3 := Lib.hid (show Below w2.heap.size w2 w3 by rw [hw]; exact below_drewN (Below.refl _ _) _)
      rw [← hw]
      clear hw
      have F3r := Lib.hid (F2r.out.belowW HB3.out)
      have HL3 := Lib.hid (HL2.out.trans (HB3.out.mono HL2.out.size))
      go_upto_region 9 with (fail)
      obtain ⟨w4, hw⟩ : ∃ z9 : World, z9 = w3.alloc (.cells #[.int .i64 (X : Int), .int .i64 (Y : Int)] 26) := ⟨_, rfl⟩
      have HB4 := Lib.hid (show Below w3.heap.size w3 w4 by rw [hw]; exact below_a1 _ _)
      have F4k := Lib.hid (show Blk w4 w3.heap.size 26 #[.int .i64 (X : Int), .int .i64 (Y : Int)] by rw [hw]; exact Blk.new _ _ _)
      rw [← hw]
      clear hw
      have F4r := Lib.hid (F3r.out.belowW HB4.out)
      have HL4 := Lib.hid (HL3.out.trans (HB4.out.mono HL3.out.size))
      have pk0 : (w4).cell? ⟨w3.heap.size, 0, none⟩ = some (.int .i64 (X : Int)) := F4k.out.cell 0
      have fk0 : (w4).frozen? ⟨w3.heap.size, 0, none⟩ = false := F4k.out.frozen 0
      have pk1 : (w4).cell? ⟨w3.heap.size, 1, none⟩ = some (.int .i64 (Y : Int)) := F4k.out.cell 1
      have fk1 : (w4).frozen? ⟨w3.heap.size, 1, none⟩ = false := F4k.out.frozen 1
      have pr0 : (w4).cell? ⟨w.heap.size, 0, none⟩ = some (.int .i64 0) := F4r.out.cell 0
      have fr0 : (w4).frozen? ⟨w.heap.size, 0, none⟩ = false := F4r.out.frozen 0
      have pr1 : (w4).cell? ⟨w.heap.size, 1, none⟩ = some (.int .i64 0) := F4r.out.cell 1
      have fr1 : (w4).frozen? ⟨w.heap.size, 1, none⟩ = false := F4r.out.frozen 1
      have hne : w3.heap.size ≠ w.heap.size := fun e => by have := F4r.out.lt; have h9 := HB1.out.size; have := F3r.out.lt; omega
      go_upto_region 11 with (fail)
      rw [F4k.out.setCell_eq 0]
      obtain ⟨w9, hw⟩ : ∃ z9 : World, z9 = putB w4 w3.heap.size 26 ((#[.int .i64 (X : Int), .int .i64 (Y : Int)] : Array Value).setIfInBounds 0 (Value.int .i64 (-(X : Int)))) := ⟨_, rfl⟩
      have FK9 := Lib.hid (show Blk w9 w3.heap.size 26 #[.int .i64 (-(X : Int)), .int .i64 (Y : Int)] by rw [hw]; exact F4k.out.put _)
      have FR9 := Lib.hid (show Blk w9 w.heap.size 26 #[.int .i64 0, .int .i64 0] by rw [hw]; exact F4r.out.far (Ne.symm hne) _)
      have HL9 := Lib.hid (show Below w.heap.size w w9 by rw [hw]; exact HL4.out.trans (putB_below _ _ _ _ (by have := HL3.out.size; have := HB1.out.size; omega)))
      rw [← hw]
      clear hw pk0 pk1 fk0 fk1 pr0 pr1 fr0 fr1
      have pk0 : (w9).cell? ⟨w3.heap.size, 0, none⟩ = some (.int .i64 (-(X : Int))) := FK9.out.cell 0
      have fk0 : (w9).frozen? ⟨w3.heap.size, 0, none⟩ = false := FK9.out.frozen 0
      have pk1 : (w9).cell? ⟨w3.heap.size, 1, none⟩ = some (.int .i64 (Y : Int)) := FK9.out.cell 1
      have fk1 : (w9).frozen? ⟨w3.heap.size, 1, none⟩ = false := FK9.out.frozen 1
      have pr0 : (w9).cell? ⟨w.heap.size, 0, none⟩ = some (.int .i64 0) := FR9.out.cell 0
      have fr0 : (w9).frozen? ⟨w.heap.size, 0, none⟩ = false := FR9.out.frozen 0
      have pr1 : (w9).cell? ⟨w.heap.size, 1, none⟩ = some (.int .i64 0) := FR9.out.cell 1
      have fr1 : (w9).frozen? ⟨w.heap.size, 1, none⟩ = false := FR9.out.frozen 1
      go_wp2_with fail
      refine bodyPost_ret (v := .tuple #[.agg #[.int .i64 (-(X : Int)), .int .i64 (Y : Int)], .int .i64 0]) (by simp [results, Tryz.results167, go_sem, pr0, pr1]) rfl ?_
      rw [HR.out]
      exact ⟨rfl, Lib.hid (store2_below HL9.out FR9.out _ _ (Nat.le_refl _))⟩
    · have dn : decide (n < 0) = false := decide_eq_false n0
      have dm : decide (d < 0) = false := decide_eq_false d0
      have HR := Lib.hid (show make n d = ((X : Int), (Y : Int), 0) by rw [HS.out, dn, dm]; rfl)
      clear n0 d0
      go_enter Tryz.func167, Tryz.ntmps167
      go_wp2_with fail
      obtain ⟨w1, hw⟩ : ∃ z9 : World, z9 = (w.alloc (.cells #[.int .i64 0, .int .i64 0] 26)) := ⟨_, rfl⟩
      have HB1 := Lib.hid (show Below w.heap.size w w1 by rw [hw]; exact below_a1 _ _)
      have F1r := Lib.hid (show Blk w1 (w.heap.size) 26 #[.int .i64 0, .int .i64 0] by rw [hw]; exact Blk.new _ _ _)
      rw [← hw]
      clear hw
      refine (size_q n w1 h1 h2).mono ?_
      rintro e w' ⟨rfl, rfl⟩
      go_wp2_with fail
      refine (size_q d w1 h3 h4).mono ?_
      rintro e w' ⟨rfl, rfl⟩
      go_wp2_with fail
      refine (gcd_q n.natAbs d.natAbs w1 (by omega) (by omega)).mono ?_
      rw [HG.out]
      rintro e w2 ⟨rfl, qd, hqd⟩
      have HB2 := Lib.hid (show Below w1.heap.size w1 w2 by rw [hqd]; exact below_drewN (Below.refl _ _) qd)
      clear hqd
      have F2r := Lib.hid (F1r.out.belowW HB2.out)
      have HL2 := Lib.hid (HB1.out.trans (HB2.out.mono HB1.out.size))
      go_wp2_with fail
      go_quiet (fail)
      rename_i nq
      obtain ⟨w3, hw⟩ : ∃ z9 : World, z9 = w2.drewN nq := ⟨_, rfl⟩
      have HB3 := Lib.hid (show Below w2.heap.size w2 w3 by rw [hw]; exact below_drewN (Below.refl _ _) _)
      rw [← hw]
      clear hw
      have F3r := Lib.hid (F2r.out.belowW HB3.out)
      have HL3 := Lib.hid (HL2.out.trans (HB3.out.mono HL2.out.size))
      go_upto_region 9 with (fail)
      obtain ⟨w4, hw⟩ : ∃ z9 : World, z9 = w3.alloc (.cells #[.int .i64 (X : Int), .int .i64 (Y : Int)] 26) := ⟨_, rfl⟩
      have HB4 := Lib.hid (show Below w3.heap.size w3 w4 by rw [hw]; exact below_a1 _ _)
      have F4k := Lib.hid (show Blk w4 w3.heap.size 26 #[.int .i64 (X : Int), .int .i64 (Y : Int)] by rw [hw]; exact Blk.new _ _ _)
      rw [← hw]
      clear hw
      have F4r := Lib.hid (F3r.out.belowW HB4.out)
      have HL4 := Lib.hid (HL3.out.trans (HB4.out.mono HL3.out.size))
      have pk0 : (w4).cell? ⟨w3.heap.size, 0, none⟩ = some (.int .i64 (X : Int)) := F4k.out.cell 0
      have fk0 : (w4).frozen? ⟨w3.heap.size, 0, none⟩ = false := F4k.out.frozen 0
      have pk1 : (w4).cell? ⟨w3.heap.size, 1, none⟩ = some (.int .i64 (Y : Int)) := F4k.out.cell 1
      have fk1 : (w4).frozen? ⟨w3.heap.size, 1, none⟩ = false := F4k.out.frozen 1
      have pr0 : (w4).cell? ⟨w.heap.size, 0, none⟩ = some (.int .i64 0) := F4r.out.cell 0
      have fr0 : (w4).frozen? ⟨w.heap.size, 0, none⟩ = false := F4r.out.frozen 0
      have pr1 : (w4).cell? ⟨w.heap.size, 1, none⟩ = some (.int .i64 0) := F4r.out.cell 1
      have fr1 : (w4).frozen? ⟨w.heap.size, 1, none⟩ = false := F4r.out.frozen 1
      go_wp2_with fail
      refine bodyPost_ret (v := .tuple #[.agg #[.int .i64 (X : Int), .int .i64 (Y : Int)], .int .i64 0]) (by simp [results, Tryz.results167, go_sem, pr0, pr1]) rfl ?_
      rw [HR.out]
      exact ⟨rfl, Lib.hid (store2_below HL4.out F4r.out _ _ (Nat.le_refl _))⟩
end Go.Proofs.YtkjoohnndobjeaaGreatDoor
namespace Go.Fl
open Go.RowKit
end Go.Fl
namespace Go.Fl.Dy
/-- What Enclose returns: the ends, and whether it is everything. -/
def encR (n d p : Int) : D × D × Bool :=
  if Rt.vB n d = true ∧ (divE (canon (decide (n < 0)) n.natAbs 0) (canon false d.natAbs 0) p false).2 = 0 ∧ (divE (canon (decide (n < 0)) n.natAbs 0) (canon false d.natAbs 0) p true).2 = 0 then
    ((divE (canon (decide (n < 0)) n.natAbs 0) (canon false d.natAbs 0) p false).1, (divE (canon (decide (n < 0)) n.natAbs 0) (canon false d.natAbs 0) p true).1, false)
  else (⟨false, 0, 0⟩, ⟨false, 0, 0⟩, true)
end Go.Fl.Dy
namespace Go.Proofs.YtkjoohnndobjeaaGreatDoor
open Go.RowKit Go.Fl Go.Fl.Nm Go.Fl.Dy Go.Fl.Rt
end Go.Proofs.YtkjoohnndobjeaaGreatDoor
namespace Go.Proofs
open Go.Shelf
def Tryz.lays160_ren : Go.Shelf.Ren := ⟨fun | 160 => 193 | 232 => 199 | 231 => 198 | 227 => 200 | 234 => 202 | 233 => 201 | 236 => 204 | 235 => 203 | 228 => 207 | 271 => 210 | 151 => 209 | 197 => 208 | 120 => 218 | 152 => 217 | 260 => 216 | 137 => 61 | 119 => 223 | 224 => 121 | 225 => 120 | 217 => 105 | 266 => 134 | n => n, fun | 9 => 9 | 4 => 4 | 3 => 3 | 5 => 5 | 117 => 218 | 116 => 217 | 0 => 0 | 124 => 221 | 21 => 21 | 105 => 226 | 46 => 167 | 119 => 241 | 139 => 244 | 138 => 243 | n => n, fun | 3 => 7 | 4 => 8 | n => n⟩
theorem Tryz.lays160 : Go.Proofs.Lays.n160 Tryz.prog Tryz.lays160_ren := {
  mixed := by kernel_rfl
  f119 := Tryz.func223.trans (congrArg some (by kernel_rfl))
  f120 := Tryz.func218.trans (congrArg some (by kernel_rfl))
  f137 := Tryz.func61.trans (congrArg some (by kernel_rfl))
  f151 := Tryz.func209.trans (congrArg some (by kernel_rfl))
  f152 := Tryz.func217.trans (congrArg some (by kernel_rfl))
  f160 := Tryz.func193.trans (congrArg some (by kernel_rfl))
  f197 := Tryz.func208.trans (congrArg some (by kernel_rfl))
  f217 := Tryz.func105.trans (congrArg some (by kernel_rfl))
  f224 := Tryz.func121.trans (congrArg some (by kernel_rfl))
  f225 := Tryz.func120.trans (congrArg some (by kernel_rfl))
  f227 := Tryz.func200.trans (congrArg some (by kernel_rfl))
  f228 := Tryz.func207.trans (congrArg some (by kernel_rfl))
  f231 := Tryz.func198.trans (congrArg some (by kernel_rfl))
  f232 := Tryz.func199.trans (congrArg some (by kernel_rfl))
  f233 := Tryz.func201.trans (congrArg some (by kernel_rfl))
  f234 := Tryz.func202.trans (congrArg some (by kernel_rfl))
  f235 := Tryz.func203.trans (congrArg some (by kernel_rfl))
  f236 := Tryz.func204.trans (congrArg some (by kernel_rfl))
  f260 := Tryz.func216.trans (congrArg some (by kernel_rfl))
  f266 := Tryz.func134.trans (congrArg some (by kernel_rfl))
  f271 := Tryz.func210.trans (congrArg some (by kernel_rfl))
  t0 := Tryz.underlying0
  a0 := Tryz.isAgg0
  z0 := Tryz.sizeOf0
  v0 := Tryz.zeroValue0
  t3 := Tryz.underlying3
  a3 := Tryz.isAgg3
  z3 := Tryz.sizeOf3
  v3 := Tryz.zeroValue3
  t4 := Tryz.underlying4
  a4 := Tryz.isAgg4
  z4 := Tryz.sizeOf4
  v4 := Tryz.zeroValue4
  t5 := Tryz.underlying5
  a5 := Tryz.isAgg5
  z5 := Tryz.sizeOf5
  v5 := Tryz.zeroValue5
  t9 := Tryz.underlying9
  a9 := Tryz.isAgg9
  z9 := Tryz.sizeOf9
  v9 := Tryz.zeroValue9
  t21 := Tryz.underlying21
  a21 := Tryz.isAgg21
  z21 := Tryz.sizeOf21
  v21 := Tryz.zeroValue21
  t46 := Tryz.underlying167
  a46 := Tryz.isAgg167
  z46 := Tryz.sizeOf167
  v46 := Tryz.zeroValue167
  t105 := Tryz.underlying226
  a105 := Tryz.isAgg226
  z105 := Tryz.sizeOf226
  v105 := Tryz.zeroValue226
  t116 := Tryz.underlying217
  a116 := Tryz.isAgg217
  z116 := Tryz.sizeOf217
  t117 := Tryz.underlying218
  a117 := Tryz.isAgg218
  z117 := Tryz.sizeOf218
  v117 := Tryz.zeroValue218
  t119 := Tryz.underlying241
  a119 := Tryz.isAgg241
  z119 := Tryz.sizeOf241
  t124 := Tryz.underlying221
  a124 := Tryz.isAgg221
  z124 := Tryz.sizeOf221
  v124 := Tryz.zeroValue221
  t138 := Tryz.underlying243
  a138 := Tryz.isAgg243
  z138 := Tryz.sizeOf243
  v138 := Tryz.zeroValue243
  t139 := Tryz.underlying244
  a139 := Tryz.isAgg244
  z139 := Tryz.sizeOf244
  v139 := Tryz.zeroValue244
  g3 := by kernel_rfl
  g4 := by kernel_rfl }
open Go.RowKit in
theorem Tryz.strings_Trim_digits (s : ByteArray) (w : World) (hs : s.size ≤ 9223372036854775807) :
    Calls Tryz.prog 193 #[.string s, .string ⟨#[48, 49, 50, 51, 52, 53, 54, 55, 56, 57]⟩] w fun e w' => e = .returned (.string ⟨(Lib.trimS s.data.toList [48, 49, 50, 51, 52, 53, 54, 55, 56, 57]).toArray⟩) ∧ Below w.heap.size w w' :=
  Any.strings_Trim_laid Tryz.lays160 (by kernel_rfl) s ⟨#[48, 49, 50, 51, 52, 53, 54, 55, 56, 57]⟩ w hs (by decide) (ascii_of_all (by decide))
end Go.Proofs
namespace Go.Proofs
open Go.Shelf
def Tryz.lays103_ren : Go.Shelf.Ren := ⟨fun | 103 => 181 | 210 => 192 | 206 => 197 | n => n, fun | 9 => 9 | 4 => 4 | 24 => 202 | 3 => 3 | n => n, fun | n => n⟩
theorem Tryz.lays103 : Go.Proofs.Lays.n103 Tryz.prog Tryz.lays103_ren := {
  mixed := by kernel_rfl
  f103 := Tryz.func181.trans (congrArg some (by kernel_rfl))
  f206 := Tryz.func197.trans (congrArg some (by kernel_rfl))
  f210 := Tryz.func192.trans (congrArg some (by kernel_rfl))
  t3 := Tryz.underlying3
  a3 := Tryz.isAgg3
  z3 := Tryz.sizeOf3
  v3 := Tryz.zeroValue3
  t4 := Tryz.underlying4
  a4 := Tryz.isAgg4
  z4 := Tryz.sizeOf4
  v4 := Tryz.zeroValue4
  t9 := Tryz.underlying9
  a9 := Tryz.isAgg9
  z9 := Tryz.sizeOf9
  v9 := Tryz.zeroValue9
  t24 := Tryz.underlying202
  a24 := Tryz.isAgg202
  z24 := Tryz.sizeOf202
  v24 := Tryz.zeroValue202 }
open Go.RowKit in
/-- strings.CutPrefix: "CutPrefix returns s without the provided leading prefix string and reports whether it found the prefix. If s doesn't start with prefix, CutPrefix returns s, false. If prefix is the empty string, CutPrefix returns s, true.": IT RETURNS '(Lib.trimPrefix s p, Lib.hasPrefix s p)'; the world is as it was. (LAID: no walk: one application.) -/
theorem Tryz.strings_CutPrefix (s p : ByteArray) (w : World) :
    Calls Tryz.prog 181 #[.string s, .string p] w fun e w' => e = .returned (.tuple #[.string ⟨(Lib.trimPrefix s.data.toList p.data.toList).toArray⟩, .bool (Lib.hasPrefix s.data.toList p.data.toList)]) ∧ w' = w := Any.strings_CutPrefix Tryz.lays103 s p w
def Tryz.laysC174_ren : Go.Shelf.Ren := ⟨fun | 174 => 194 | 247 => 205 | 245 => 206 | 287 => 211 | 279 => 212 | 280 => 213 | 281 => 214 | 282 => 215 | 321 => 219 | 322 => 220 | 316 => 221 | 171 => 103 | 205 => 222 | 243 => 133 | 246 => 163 | 283 => 177 | 284 => 178 | 285 => 179 | 286 => 180 | 129 => 188 | 317 => 187 | 318 => 189 | 319 => 190 | 320 => 191 | 337 => 195 | 338 => 196 | n => n, fun | 9 => 9 | 3 => 3 | 2 => 2 | 75 => 89 | 85 => 212 | 4 => 4 | 167 => 229 | 5 => 5 | 53 => 163 | 175 => 230 | 46 => 167 | 168 => 232 | 37 => 85 | 0 => 0 | 210 => 239 | 21 => 21 | 127 => 122 | 145 => 248 | 143 => 246 | 171 => 197 | 173 => 200 | 212 => 208 | 51 => 183 | 20 => 20 | 213 => 209 | 232 => 223 | 233 => 224 | 80 => 93 | n => n, fun | 15 => 5 | 16 => 6 | 17 => 2 | 18 => 3 | 19 => 4 | n => n⟩
theorem Tryz.laysC174 : Go.Proofs.LaysC.n174 Tryz.prog Tryz.laysC174_ren := {
  mixed := by kernel_rfl
  f129 := Tryz.func188.trans (congrArg some (by kernel_rfl))
  f171 := Tryz.func103.trans (congrArg some (by kernel_rfl))
  f174 := Tryz.func194.trans (congrArg some (by kernel_rfl))
  f205 := Tryz.func222.trans (congrArg some (by kernel_rfl))
  f243 := Tryz.func133.trans (congrArg some (by kernel_rfl))
  f245 := Tryz.func206.trans (congrArg some (by kernel_rfl))
  f246 := Tryz.func163.trans (congrArg some (by kernel_rfl))
  f247 := Tryz.func205.trans (congrArg some (by kernel_rfl))
  f279 := Tryz.func212.trans (congrArg some (by kernel_rfl))
  f280 := Tryz.func213.trans (congrArg some (by kernel_rfl))
  f281 := Tryz.func214.trans (congrArg some (by kernel_rfl))
  f282 := Tryz.func215.trans (congrArg some (by kernel_rfl))
  f283 := Tryz.func177.trans (congrArg some (by kernel_rfl))
  f284 := Tryz.func178.trans (congrArg some (by kernel_rfl))
  f285 := Tryz.func179.trans (congrArg some (by kernel_rfl))
  f286 := Tryz.func180.trans (congrArg some (by kernel_rfl))
  f287 := Tryz.func211.trans (congrArg some (by kernel_rfl))
  f316 := Tryz.func221.trans (congrArg some (by kernel_rfl))
  f317 := Tryz.func187.trans (congrArg some (by kernel_rfl))
  f318 := Tryz.func189.trans (congrArg some (by kernel_rfl))
  f319 := Tryz.func190.trans (congrArg some (by kernel_rfl))
  f320 := Tryz.func191.trans (congrArg some (by kernel_rfl))
  f321 := Tryz.func219.trans (congrArg some (by kernel_rfl))
  f322 := Tryz.func220.trans (congrArg some (by kernel_rfl))
  f337 := Tryz.func195.trans (congrArg some (by kernel_rfl))
  f338 := Tryz.func196.trans (congrArg some (by kernel_rfl))
  t0 := Tryz.underlying0
  a0 := Tryz.isAgg0
  z0 := Tryz.sizeOf0
  v0 := Tryz.zeroValue0
  t2 := Tryz.underlying2
  a2 := Tryz.isAgg2
  z2 := Tryz.sizeOf2
  v2 := Tryz.zeroValue2
  t3 := Tryz.underlying3
  a3 := Tryz.isAgg3
  z3 := Tryz.sizeOf3
  v3 := Tryz.zeroValue3
  t4 := Tryz.underlying4
  a4 := Tryz.isAgg4
  z4 := Tryz.sizeOf4
  v4 := Tryz.zeroValue4
  t5 := Tryz.underlying5
  a5 := Tryz.isAgg5
  z5 := Tryz.sizeOf5
  v5 := Tryz.zeroValue5
  t9 := Tryz.underlying9
  a9 := Tryz.isAgg9
  z9 := Tryz.sizeOf9
  v9 := Tryz.zeroValue9
  t20 := Tryz.underlying20
  a20 := Tryz.isAgg20
  z20 := Tryz.sizeOf20
  v20 := Tryz.zeroValue20
  t21 := Tryz.underlying21
  a21 := Tryz.isAgg21
  z21 := Tryz.sizeOf21
  v21 := Tryz.zeroValue21
  t37 := Tryz.underlying85
  a37 := Tryz.isAgg85
  z37 := Tryz.sizeOf85
  v37 := Tryz.zeroValue85
  t46 := Tryz.underlying167
  a46 := Tryz.isAgg167
  z46 := Tryz.sizeOf167
  v46 := Tryz.zeroValue167
  t51 := Tryz.underlying183
  a51 := Tryz.isAgg183
  z51 := Tryz.sizeOf183
  v51 := Tryz.zeroValue183
  t53 := Tryz.underlying163
  a53 := Tryz.isAgg163
  z53 := Tryz.sizeOf163
  v53 := Tryz.zeroValue163
  t75 := Tryz.underlying89
  a75 := Tryz.isAgg89
  z75 := Tryz.sizeOf89
  v75 := Tryz.zeroValue89
  t85 := Tryz.underlying212
  a85 := Tryz.isAgg212
  z85 := Tryz.sizeOf212
  v85 := Tryz.zeroValue212
  t127 := Tryz.underlying122
  a127 := Tryz.isAgg122
  z127 := Tryz.sizeOf122
  v127 := Tryz.zeroValue122
  t143 := Tryz.underlying246
  a143 := Tryz.isAgg246
  z143 := Tryz.sizeOf246
  v143 := Tryz.zeroValue246
  t145 := Tryz.underlying248
  a145 := Tryz.isAgg248
  z145 := Tryz.sizeOf248
  v145 := Tryz.zeroValue248
  t167 := Tryz.underlying229
  a167 := Tryz.isAgg229
  z167 := Tryz.sizeOf229
  v167 := Tryz.zeroValue229
  t168 := Tryz.underlying232
  a168 := Tryz.isAgg232
  z168 := Tryz.sizeOf232
  v168 := Tryz.zeroValue232
  t171 := Tryz.underlying197
  a171 := Tryz.isAgg197
  z171 := Tryz.sizeOf197
  v171 := Tryz.zeroValue197
  t173 := Tryz.underlying200
  a173 := Tryz.isAgg200
  z173 := Tryz.sizeOf200
  v173 := Tryz.zeroValue200
  t175 := Tryz.underlying230
  a175 := Tryz.isAgg230
  z175 := Tryz.sizeOf230
  v175 := Tryz.zeroValue230
  t210 := Tryz.underlying239
  a210 := Tryz.isAgg239
  z210 := Tryz.sizeOf239
  v210 := Tryz.zeroValue239
  t212 := Tryz.underlying208
  a212 := Tryz.isAgg208
  z212 := Tryz.sizeOf208
  v212 := Tryz.zeroValue208
  t213 := Tryz.underlying209
  a213 := Tryz.isAgg209
  z213 := Tryz.sizeOf209
  t232 := Tryz.underlying223
  a232 := Tryz.isAgg223
  z232 := Tryz.sizeOf223
  v232 := Tryz.zeroValue223
  t233 := Tryz.underlying224
  a233 := Tryz.isAgg224
  z233 := Tryz.sizeOf224
  v233 := Tryz.zeroValue224
  g15 := by kernel_rfl
  g16 := by kernel_rfl
  g17 := by kernel_rfl
  g18 := by kernel_rfl
  g19 := by kernel_rfl
  t80 := Tryz.underlying93
  a80 := Tryz.isAgg93
  z80 := Tryz.sizeOf93
  v80 := Tryz.zeroValue93
  i0 := by kernel_rfl
  i2 := by kernel_rfl
  i3 := by kernel_rfl
  i4 := by kernel_rfl
  i5 := by kernel_rfl
  i9 := by kernel_rfl
  i20 := by kernel_rfl
  i21 := by kernel_rfl
  i37 := by kernel_rfl
  i46 := by kernel_rfl
  i51 := by kernel_rfl
  i53 := by kernel_rfl
  i75 := by kernel_rfl
  i80 := by kernel_rfl
  i85 := by kernel_rfl
  i127 := by kernel_rfl
  i143 := by kernel_rfl
  i145 := by kernel_rfl
  i167 := by kernel_rfl
  i168 := by kernel_rfl
  i171 := by kernel_rfl
  i173 := by kernel_rfl
  i175 := by kernel_rfl
  i210 := by kernel_rfl
  i212 := by kernel_rfl
  i232 := by kernel_rfl
  i233 := by kernel_rfl
  m15 := by kernel_rfl
  m16 := by kernel_rfl
  m17 := by kernel_rfl
  m18 := by kernel_rfl
  m19 := by kernel_rfl
  c0 := by kernel_rfl
  c2 := by kernel_rfl
  c3 := by kernel_rfl
  c4 := by kernel_rfl
  c5 := by kernel_rfl
  c9 := by kernel_rfl
  c20 := by kernel_rfl
  c21 := by kernel_rfl
  c37 := by kernel_rfl
  c46 := by kernel_rfl
  c51 := by kernel_rfl
  c53 := by kernel_rfl
  c75 := by kernel_rfl
  c80 := by kernel_rfl
  c85 := by kernel_rfl
  c127 := by kernel_rfl
  c143 := by kernel_rfl
  c145 := by kernel_rfl
  c167 := by kernel_rfl
  c168 := by kernel_rfl
  c171 := by kernel_rfl
  c173 := by kernel_rfl
  c175 := by kernel_rfl
  c210 := by kernel_rfl
  c212 := by kernel_rfl
  c213 := by kernel_rfl
  c232 := by kernel_rfl
  c233 := by kernel_rfl }
open Go.RowKit in
/-- strconv.ParseInt(s, 10, 64), AT EVERY STRING THAT SPELLS AN int64 ('Lib.parseIntB 64 s.data.toList = .ok v'): v, AND NO ERROR. (LAID: no walk: one application.) -/
theorem Tryz.strconv_ParseInt_10_at64_ok (s : ByteArray) (hmax : s.size ≤ 9223372036854775806) (v : Int) (h : Lib.parseIntB 64 s.data.toList = .ok v) (w : World) :
    Calls Tryz.prog 194 #[.string s, .int .i64 10, .int .i64 64] w fun e w' => e = .returned (.tuple #[.int .i64 v, .nilIface]) ∧ (w' = w ∨ ∃ t, w' = Lib.bytesWorld w 5 t) := Any.strconv_ParseInt_10_at64_ok Tryz.laysC174 s hmax v h w
open Go.RowKit in
theorem Tryz.strconv_ParseInt_10_at64_range_var (s : ByteArray) (hlim : s.size ≤ 281474976710656) (h : Lib.parseIntB 64 s.data.toList = .range) (tp : TypeId) (p : Value) (w : World) (hvar : w.var? Tryz.prog "strconv.ErrRange" = some #[.iface tp p]) :
    Calls Tryz.prog 194 #[.string s, .int .i64 10, .int .i64 64] w fun e w' => ∃ N, e = .returned (.tuple #[.int .i64 (Lib.intSat 64 s.data.toList), .iface 232 (.pointer (some ⟨N, 0, none⟩))]) ∧ w.heap.size ≤ N ∧ w'.heap[N]? = some (.cells #[.string ⟨#[80, 97, 114, 115, 101, 73, 110, 116]⟩, .string s, .iface tp p] 239 (0, 0)) ∧ Below w.heap.size w w' := Any.strconv_ParseInt_10_at64_range_var Tryz.laysC174 s hlim h tp p w hvar
def Tryz.lays219_ren : Go.Shelf.Ren := ⟨fun | 219 => 89 | 217 => 105 | 225 => 120 | 224 => 121 | 267 => 122 | 266 => 134 | 314 => 154 | n => n, fun | 9 => 9 | 3 => 3 | 4 => 4 | 5 => 5 | 46 => 167 | 146 => 184 | 51 => 183 | n => n, fun | 1 => 0 | n => n⟩
theorem Tryz.lays219 : Go.Proofs.Lays.n219 Tryz.prog Tryz.lays219_ren := {
  mixed := by kernel_rfl
  f217 := Tryz.func105.trans (congrArg some (by kernel_rfl))
  f219 := Tryz.func89.trans (congrArg some (by kernel_rfl))
  f224 := Tryz.func121.trans (congrArg some (by kernel_rfl))
  f225 := Tryz.func120.trans (congrArg some (by kernel_rfl))
  f266 := Tryz.func134.trans (congrArg some (by kernel_rfl))
  f267 := Tryz.func122.trans (congrArg some (by kernel_rfl))
  f314 := Tryz.func154.trans (congrArg some (by kernel_rfl))
  t3 := Tryz.underlying3
  a3 := Tryz.isAgg3
  z3 := Tryz.sizeOf3
  v3 := Tryz.zeroValue3
  t4 := Tryz.underlying4
  a4 := Tryz.isAgg4
  z4 := Tryz.sizeOf4
  v4 := Tryz.zeroValue4
  t5 := Tryz.underlying5
  a5 := Tryz.isAgg5
  z5 := Tryz.sizeOf5
  v5 := Tryz.zeroValue5
  t9 := Tryz.underlying9
  a9 := Tryz.isAgg9
  z9 := Tryz.sizeOf9
  v9 := Tryz.zeroValue9
  t46 := Tryz.underlying167
  a46 := Tryz.isAgg167
  z46 := Tryz.sizeOf167
  v46 := Tryz.zeroValue167
  t51 := Tryz.underlying183
  a51 := Tryz.isAgg183
  z51 := Tryz.sizeOf183
  v51 := Tryz.zeroValue183
  t146 := Tryz.underlying184
  a146 := Tryz.isAgg184
  z146 := Tryz.sizeOf184
  v146 := Tryz.zeroValue184
  g1 := by kernel_rfl }
open Go.RowKit Go.Lib in
/-- internal/stringslite.Index (what strings.Index calls) AT A substr OF ONE BYTE c: IT RETURNS 'Lib.indexByte s c'; the world is as it was. (LAID: no walk: one application.) -/
theorem Tryz.stringslite_Index_one (s : ByteArray) (c : UInt8) (w : World) :
    Calls Tryz.prog 89 #[.string s, .string ⟨#[c]⟩] w fun e w' => e = .returned (.int .i64 (Lib.indexByte s.data.toList c)) ∧ w' = w := Any.stringslite_Index_one Tryz.lays219 s c w
end Go.Proofs
namespace Go.Fl.Rt
open Go.Lib Go.RowKit Go.Fl
theorem digits_contains (b : UInt8) : ([48, 49, 50, 51, 52, 53, 54, 55, 56, 57] : List UInt8).contains b = isDig b := by
  have h : ∀ k : Fin 256, ([48, 49, 50, 51, 52, 53, 54, 55, 56, 57] : List UInt8).contains (UInt8.ofNat k.val) = isDig (UInt8.ofNat k.val) := by decide +kernel
  have := h ⟨b.toNat, b.toNat_lt⟩
  simpa using this
theorem dw_nil (p : UInt8 → Bool) (l : List UInt8) : l.dropWhile p = [] ↔ ∀ x ∈ l, p x = true := by
  induction l with
  | nil => simp
  | cons x l ih =>
    by_cases h : p x = true
    · rw [List.dropWhile_cons_of_pos h, ih]; simp [h]
    · rw [List.dropWhile_cons_of_neg h]
      constructor
      · intro e; cases e
      · intro e; exact absurd (e x (by simp)) h
theorem dw_head {p : UInt8 → Bool} {l : List UInt8} {y : UInt8} {r : List UInt8} (h : l.dropWhile p = y :: r) : p y = false := by
  induction l with
  | nil => cases h
  | cons x l ih =>
    by_cases hx : p x = true
    · rw [List.dropWhile_cons_of_pos hx] at h; exact ih h
    · rw [List.dropWhile_cons_of_neg hx] at h
      injection h with h1 h2
      rw [← h1]; simpa using hx
theorem trim_digits (l : List UInt8) : (trimS l [48, 49, 50, 51, 52, 53, 54, 55, 56, 57] = []) ↔ l.all isDig = true := by
  have e : (fun b => ([48, 49, 50, 51, 52, 53, 54, 55, 56, 57] : List UInt8).contains b) = isDig := funext digits_contains
  unfold trimS trimLeftS trimRightS
  rw [e, dw_nil]
  constructor
  · intro h
    rw [List.all_eq_true]
    intro x hx
    cases hh : l.reverse.dropWhile isDig with
    | nil => exact (dw_nil _ _).1 hh x (by simpa using hx)
    | cons y r =>
      have h1 := dw_head hh
      have h2 := h y (by rw [hh]; simp)
      rw [h1] at h2
      cases h2
  · intro h x hx
    rw [List.all_eq_true] at h
    rw [(dw_nil isDig l.reverse).2 (fun y hy => h y (by simpa using hy))] at hx
    simp at hx
theorem fold_ge : ∀ (l : List UInt8) (v : Nat), v ≤ l.foldl (fun v b => 10 * v + (b.toNat - 48)) v := by
  intro l
  induction l with
  | nil => intro v; exact Nat.le_refl _
  | cons c l ih =>
    intro v
    have := ih (10 * v + (c.toNat - 48))
    show v ≤ l.foldl _ (10 * v + (c.toNat - 48))
    omega
theorem fold_lt : ∀ (l : List UInt8) (v : Nat), l.all isDig = true → l.foldl (fun v b => 10 * v + (b.toNat - 48)) v < (v + 1) * 10 ^ l.length := by
  intro l
  induction l with
  | nil => intro v _; simp
  | cons c l ih =>
    intro v h
    simp only [List.all_cons, Bool.and_eq_true] at h
    have hc := h.1
    unfold isDig at hc
    simp at hc
    have := ih (10 * v + (c.toNat - 48)) h.2
    refine Nat.lt_of_lt_of_le this ?_
    rw [List.length_cons, Nat.pow_succ, Nat.mul_comm (10 ^ l.length) 10, ← Nat.mul_assoc]
    exact Nat.mul_le_mul_right _ (by omega)
theorem dval_lt (l : List UInt8) (h : l.all isDig = true) : dval l < 10 ^ l.length := by have := fold_lt l 0 h; simpa [dval] using this
theorem pm_ok {M : Nat} (hM : M ≤ 18446744073709551615) : ∀ (l : List UInt8) (acc : Nat), l.all isDig = true → l.foldl (fun v b => 10 * v + (b.toNat - 48)) acc ≤ M → parseUintM M acc l = .ok (l.foldl (fun v b => 10 * v + (b.toNat - 48)) acc) := by
  intro l
  induction l with
  | nil => intro acc _ _; rfl
  | cons c l ih =>
    intro acc h hm
    simp only [List.all_cons, Bool.and_eq_true] at h
    have hc := h.1
    unfold isDig at hc
    simp at hc
    simp only [List.foldl_cons] at hm ⊢
    have hg := fold_ge l (10 * acc + (c.toNat - 48))
    unfold parseUintM
    rw [if_pos hc, if_neg (by omega), if_neg (by omega), Nat.mul_comm acc 10]
    exact ih _ h.2 hm
theorem pm_digits {M : Nat} : ∀ (l : List UInt8) (acc : Nat), l.all isDig = true → parseUintM M acc l = .range ∨ ∃ u, parseUintM M acc l = .ok u := by
  intro l
  induction l with
  | nil => intro acc _; exact .inr ⟨acc, rfl⟩
  | cons c l ih =>
    intro acc h
    simp only [List.all_cons, Bool.and_eq_true] at h
    have hc := h.1
    unfold isDig at hc
    simp at hc
    unfold parseUintM
    rw [if_pos hc]
    split
    · exact .inl rfl
    · split
      · exact .inl rfl
      · exact ih _ h.2
theorem digs_cons {l : List UInt8} (h : digs l = true) : ∃ c r, l = c :: r ∧ c.toNat ≠ 43 ∧ c.toNat ≠ 45 ∧ l.all isDig = true := by
  unfold digs at h
  simp only [Bool.and_eq_true, decide_eq_true_eq] at h
  obtain ⟨h1, h2⟩ := h
  cases l with
  | nil => exact absurd rfl h1
  | cons c r =>
    have hc := h2
    simp only [List.all_cons, Bool.and_eq_true] at hc
    have := hc.1
    unfold isDig at this
    simp at this
    exact ⟨c, r, rfl, by omega, by omega, h2⟩
theorem parse_ok {l : List UInt8} (h : digs l = true) (hl : l.length ≤ 18) : parseIntB 64 l = .ok (dval l : Int) := by
  obtain ⟨c, r, rfl, h1, h2, h3⟩ := digs_cons h
  have hv := dval_lt _ h3
  have hp : 10 ^ (c :: r).length ≤ 10 ^ 18 := Nat.pow_le_pow_right (by omega) hl
  have e18 : (10 : Nat) ^ 18 = 1000000000000000000 := by decide
  rw [e18] at hp
  rw [parseIntB_plain 64 c r h1 h2]
  unfold parseUintB
  rw [if_neg (by simp)]
  have e64 : (2 : Nat) ^ 64 - 1 = 18446744073709551615 := by decide
  rw [e64, pm_ok (Nat.le_refl _) (c :: r) 0 h3 (by show dval (c :: r) ≤ _; omega)]
  show signlessC _ (.ok (dval (c :: r))) = _
  have e63 : (2 : Nat) ^ (64 - 1) = 9223372036854775808 := by decide
  rw [e63]
  unfold signlessC
  simp only
  rw [if_neg (by omega)]
theorem parse_any {l : List UInt8} (h : digs l = true) : parseIntB 64 l = .range ∨ ∃ v : Int, parseIntB 64 l = .ok v := by
  obtain ⟨c, r, rfl, h1, h2, h3⟩ := digs_cons h
  rw [parseIntB_plain 64 c r h1 h2]
  unfold parseUintB
  rw [if_neg (by simp)]
  rcases pm_digits (M := 2 ^ 64 - 1) (c :: r) 0 h3 with e | ⟨u, e⟩
  · rw [e]; exact .inl rfl
  · rw [e]
    unfold signlessC
    simp only
    split
    · exact .inl rfl
    · exact .inr ⟨_, rfl⟩
theorem digs_append {a b : List UInt8} (ha : digs a = true) (hb : b.all isDig = true) : digs (a ++ b) = true := by
  unfold digs at ha ⊢
  simp only [Bool.and_eq_true, decide_eq_true_eq, List.all_append] at ha ⊢
  exact ⟨by simp [ha.1], ha.2, hb⟩
theorem digs_all {a : List UInt8} (ha : digs a = true) : a.all isDig = true := by
  unfold digs at ha
  simp only [Bool.and_eq_true] at ha
  exact ha.2
theorem bl_data (s : ByteArray) : s.toList = s.data.toList := ByteArray.toList_eq s
theorem read1_point {l rest a b : List UInt8} {ng : Bool} (hn : (l.head? == some 45) = ng) (hr : (if ng then l.tail else l) = rest) (hab : rest = a ++ 46 :: b) (h46 : (46 : UInt8) ∉ a) :
    read1 l = if !digs a || !digs b then (0, 0, 3) else if 18 < a.length + b.length then (0, 0, 5) else make (if ng then -(dval (a ++ b) : Int) else (dval (a ++ b) : Int)) ((10 ^ b.length : Nat) : Int) := by
  unfold read1
  simp only [hn, hr, hab, cut_some h46]
  simp
theorem read1_slash {l rest a b : List UInt8} {ng : Bool} (hn : (l.head? == some 45) = ng) (hr : (if ng then l.tail else l) = rest) (h46 : (46 : UInt8) ∉ rest) (hab : rest = a ++ 47 :: b) (h47 : (47 : UInt8) ∉ a) :
    read1 l = if !digs a || !digs b then (0, 0, 3) else if 18 < max a.length b.length then (0, 0, 5) else make (if ng then -(dval a : Int) else (dval a : Int)) (dval b : Int) := by
  unfold read1
  simp only [hn, hr, cut_none h46]
  rw [hab]
  simp [cut_some h47]
theorem read1_none {l rest : List UInt8} {ng : Bool} (hn : (l.head? == some 45) = ng) (hr : (if ng then l.tail else l) = rest) (h46 : (46 : UInt8) ∉ rest) (h47 : (47 : UInt8) ∉ rest) :
    read1 l = if !digs rest then (0, 0, 3) else if 18 < rest.length then (0, 0, 5) else make (if ng then -(dval rest : Int) else (dval rest : Int)) 1 := by
  unfold read1
  simp only [hn, hr, cut_none h46, cut_none h47]
  simp
theorem prefix_head (l : List UInt8) : Lib.hasPrefix l [45] = (l.head? == some 45) ∧ Lib.trimPrefix l [45] = if (l.head? == some 45) then l.tail else l := by
  unfold Lib.trimPrefix Lib.hasPrefix
  cases l with
  | nil => simp
  | cons c r =>
    by_cases h : c = 45
    · subst h; simp
    · have h2 : (45 == c) = false := by rw [beq_eq_false_iff_ne]; exact fun e => h e.symm
      have h3 : (c == 45) = false := by rw [beq_eq_false_iff_ne]; exact h
      simp [List.isPrefixOf, h2, h3]
end Go.Fl.Rt
namespace Go.Proofs.YtkjoohnndobjeaaGreatDoor
open Go.RowKit Go.Fl Go.Fl.Nm Go.Fl.Dy Go.Fl.Rt
/-- The tables, and the error of strconv for numbers out of range. -/
structure RX (w : World) : Prop extends RB w where
  er : ∃ tp p, w.var? Tryz.prog "strconv.ErrRange" = some #[.iface tp p]
theorem gER : Tryz.prog.globalNamed "strconv.ErrRange" = some 6 := by kernel_rfl
theorem RX.below {w w' : World} (h : RX w) (hb : Below w.heap.size w w') : RX w' := by
  refine ⟨h.toRB.below hb, ?_⟩
  obtain ⟨tp, p, hv⟩ := h.er
  refine ⟨tp, p, ?_⟩
  unfold World.var? at hv ⊢
  rw [gER] at hv ⊢
  simp only [Option.bind_some] at hv ⊢
  have hlt : 6 < w.heap.size := by
    rcases Nat.lt_or_ge 6 w.heap.size with h' | h'
    · exact h'
    · rw [Array.getElem?_eq_none h'] at hv; cases hv
  rw [hb.block _ hlt]
  exact hv
theorem RX.belowW {w w' : World} (h : RX w) (hb : Below w.heap.size w w') : RX w' := h.below hb
theorem RX.alloc {w : World} (h : RX w) (o : Obj) : RX (w.alloc o) := h.below (below_a1 _ _)
theorem RX.drewN {w : World} (h : RX w) (n : Nat) : RX (w.drewN n) := h.below (below_drewN (Below.refl _ _) n)

def CutP (a b : List UInt8) (w : World) (e : Ending) (w' : World) : Prop :=
  ∃ A B : ByteArray, e = .returned (.tuple #[.string A, .string B, .bool true]) ∧ Hid (A.data.toList = a) ∧ Hid (B.data.toList = b) ∧ Hid (Below w.heap.size w w')
theorem take_pre (a b : List UInt8) (c : UInt8) (k : Nat) (h : a.length = k) : (a ++ c :: b).take k = a ∧ (a ++ c :: b).drop (k + 1) = b := by
  subst h
  constructor
  · simp
  · rw [List.drop_append]
    simp
set_option maxHeartbeats 1000000 in
theorem cutl_yes (s : ByteArray) (c : UInt8) (a b : List UInt8) (w : World) (hs : s.size ≤ 100000) (h : s.data.toList = a ++ c :: b) (hc : c ∉ a) :
    Calls Tryz.prog 164 #[.string s, .string ⟨#[c]⟩] w (CutP a b w) := by
  have hlen : s.size = a.length + 1 + b.length := by rw [← length_data, h]; simp; omega
  rcases indexByte_spec s.data.toList c with ⟨h1, h2⟩ | ⟨h1, i, h2, h3, h4, h5, h6⟩
  · exact absurd (by rw [h]; simp) h1
  · have hp := tw_stop (p := (· != c)) (a := a) (b := b) (c := c) (fun x hx => by simp; exact fun e => hc (e ▸ hx)) (by simp)
    rw [h] at h3 h4
    rw [hp.1] at h4
    have hi : a.length = i := by
      have := congrArg List.length h4
      rw [List.length_take] at this
      omega
    obtain ⟨t1, t2⟩ := take_pre a b c i hi
    have HA := Lib.hid (show (s.extract 0 i).data.toList = a by rw [Lib.extract_data, h]; simpa using t1)
    have HB := Lib.hid (show (s.extract (i + 1) s.size).data.toList = b by rw [Lib.extract_to_end, h]; exact t2)
    have KI := Lib.hid (Tryz.stringslite_Index_one s c w)
    rw [h2] at KI
    have i1 : i + 1 ≤ s.size := by omega
    have i2 : i ≤ s.size := by omega
    have s1 : IntKind.i64.wrap ((i : Int) + 1) = i + 1 := IntWalk.i64_in _ (by omega)
    have s2 : ((i : Int) + 1).toNat = i + 1 := by omega
    have d0 : decide ((0 : Int) ≤ i) = true := decide_eq_true (by omega)
    have p0 : (0 : Int) ≤ i := by omega
    have p1 : (0 : Int) ≤ (i : Int) + 1 := by omega
    have p2 : (i : Int) ≤ s.size := by omega
    have p3 : (i : Int) + 1 ≤ s.size := by omega
    clear h h1 h2 h3 h4 h5 h6 hi t1 t2 hp hlen hc
    go_enter Tryz.func164, Tryz.ntmps164
    go_wp2_with fail
    refine KI.out.mono ?_
    rintro e w' ⟨rfl, hw⟩
    obtain rfl := hw.symm
    go_wp2_with fail
    go_quiet (fail)
    go_wp2_with fail
    refine bodyPost_ret (v := .tuple #[.string (s.extract 0 i), .string (s.extract (i + 1) s.size), .bool true]) (by simp [results, Tryz.results164, go_sem]) rfl ?_
    exact ⟨_, _, rfl, HA, HB, Lib.hid (below_drewN (Below.refl _ _) _)⟩
set_option maxHeartbeats 1000000 in
theorem cutl_no (s : ByteArray) (c : UInt8) (w : World) (hs : s.size ≤ 100000) (hc : c ∉ s.data.toList) :
    Calls Tryz.prog 164 #[.string s, .string ⟨#[c]⟩] w fun e w' => e = .returned (.tuple #[.string s, .string ⟨#[]⟩, .bool false]) ∧ w = w' := by
  rcases indexByte_spec s.data.toList c with ⟨h1, h2⟩ | ⟨h1, _⟩
  · have KI := Lib.hid (Tryz.stringslite_Index_one s c w)
    rw [h2] at KI
    clear h1 h2 hc
    go_enter Tryz.func164, Tryz.ntmps164
    go_wp2_with fail
    refine KI.out.mono ?_
    rintro e w' ⟨rfl, hw⟩
    obtain rfl := hw.symm
    go_wp2_with fail
    refine bodyPost_ret (v := .tuple #[.string s, .string ⟨#[]⟩, .bool false]) (by simp [results, Tryz.results164, go_sem]) rfl ?_
    exact ⟨rfl, rfl⟩
  · exact absurd h1 hc
set_option maxHeartbeats 1000000 in
theorem cut_yes (s : ByteArray) (c : UInt8) (a b : List UInt8) (w : World) (hs : s.size ≤ 100000) (h : s.data.toList = a ++ c :: b) (hc : c ∉ a) :
    Calls Tryz.prog 135 #[.string s, .string ⟨#[c]⟩] w (CutP a b w) := by
  have K := Lib.hid (cutl_yes s c a b w hs h hc)
  clear h hc
  go_enter Tryz.func135, Tryz.ntmps135
  go_wp2_with fail
  refine K.out.mono ?_
  rintro e w1 ⟨A, B, rfl, HA, HB, HL⟩
  go_wp2_with fail
  refine bodyPost_ret (v := .tuple #[.string A, .string B, .bool true]) (by simp [results, Tryz.results135, go_sem]) rfl ?_
  exact ⟨_, _, rfl, HA, HB, HL⟩
set_option maxHeartbeats 1000000 in
theorem cut_no (s : ByteArray) (c : UInt8) (w : World) (hs : s.size ≤ 100000) (hc : c ∉ s.data.toList) :
    Calls Tryz.prog 135 #[.string s, .string ⟨#[c]⟩] w fun e w' => e = .returned (.tuple #[.string s, .string ⟨#[]⟩, .bool false]) ∧ w = w' := by
  have K := Lib.hid (cutl_no s c w hs hc)
  clear hc
  go_enter Tryz.func135, Tryz.ntmps135
  go_wp2_with fail
  refine K.out.mono ?_
  rintro e w1 ⟨rfl, rfl⟩
  go_wp2_with fail
  refine bodyPost_ret (v := .tuple #[.string s, .string ⟨#[]⟩, .bool false]) (by simp [results, Tryz.results135, go_sem]) rfl ?_
  exact ⟨rfl, rfl⟩
set_option maxHeartbeats 1000000 in
theorem rdigits_any (s : ByteArray) (w : World) (hs : s.size ≤ 100000) :
    Calls Tryz.prog 182 #[.string s] w (Ret (.bool (digs s.data.toList)) w) := by
  by_cases h0 : s.data.toList = []
  · have HR := Lib.hid (show digs s.data.toList = false by rw [h0]; rfl)
    have e1 : s.toList.isEmpty = true := by rw [bl_data, h0]; rfl
    have e2 : s.toList = [] := by rw [bl_data, h0]
    clear h0
    go_enter Tryz.func182, Tryz.ntmps182
    go_wp2_with fail
    go_ret
    exact ⟨ret_bool HR.out.symm, Lib.hid (Below.refl _ _)⟩
  · have e1 : s.toList.isEmpty = false := by rw [bl_data]; cases hh : s.data.toList with | nil => exact absurd hh h0 | cons x r => rfl
    have KT := Lib.hid (Tryz.strings_Trim_digits s w (by omega))
    obtain ⟨ts, hts⟩ : ∃ ts : ByteArray, ts = ⟨(Lib.trimS s.data.toList [48, 49, 50, 51, 52, 53, 54, 55, 56, 57]).toArray⟩ := ⟨_, rfl⟩
    rw [← hts] at KT
    have hde : ts.toList = Lib.trimS s.data.toList [48, 49, 50, 51, 52, 53, 54, 55, 56, 57] := by rw [hts, bl_data]
    cases hall : s.data.toList.all isDig with
    | true =>
      have HR := Lib.hid (show digs s.data.toList = true by unfold digs; rw [hall]; simp [h0])
      have e3 : ts.toList = [] := by rw [hde]; exact (trim_digits _).2 hall
      have e4 : ts.toList.isEmpty = true := by rw [e3]; rfl
      clear h0 hts hde hall
      go_enter Tryz.func182, Tryz.ntmps182
      go_wp2_with fail
      refine KT.out.mono ?_
      rintro e w1 ⟨rfl, hb⟩
      have HB := Lib.hid hb
      clear hb
      go_wp2_with fail
      go_ret
      exact ⟨ret_bool HR.out.symm, HB⟩
    | false =>
      have HR := Lib.hid (show digs s.data.toList = false by unfold digs; rw [hall]; simp)
      have e4 : ts.toList.isEmpty = false := by
        rw [hde]
        cases hh : Lib.trimS s.data.toList [48, 49, 50, 51, 52, 53, 54, 55, 56, 57] with
        | nil => rw [(trim_digits _).1 hh] at hall; cases hall
        | cons x r => rfl
      clear h0 hts hde hall
      go_enter Tryz.func182, Tryz.ntmps182
      go_wp2_with fail
      refine KT.out.mono ?_
      rintro e w1 ⟨rfl, hb⟩
      have HB := Lib.hid hb
      clear hb
      go_wp2_with fail
      go_ret
      exact ⟨ret_bool HR.out.symm, HB⟩
theorem bytes_below (w : World) (t : ByteArray) : Below w.heap.size w (Lib.bytesWorld w 5 t) := Lib.bytesWorld_below w _ t
set_option maxHeartbeats 1000000 in
theorem number_ok (s : ByteArray) (w : World) (h : digs s.data.toList = true) (hl : s.data.toList.length ≤ 18) :
    Calls Tryz.prog 183 #[.string s] w (Ret (.int .i64 (dval s.data.toList : Nat)) w) := by
  have hsz : s.size ≤ 18 := by rw [← length_data]; exact hl
  have K := Lib.hid (Tryz.strconv_ParseInt_10_at64_ok s (by omega) _ (parse_ok h hl) w)
  have hv := dval_lt _ (digs_all h)
  have hp : 10 ^ s.data.toList.length ≤ 10 ^ 18 := Nat.pow_le_pow_right (by omega) hl
  have e18 : (10 : Nat) ^ 18 = 1000000000000000000 := by decide
  rw [e18] at hp
  have hv2 : dval s.data.toList < 1000000000000000000 := by omega
  clear h hl hv hp e18
  go_enter Tryz.func183, Tryz.ntmps183
  go_wp2_with fail
  refine K.out.mono ?_
  rintro e w1 ⟨rfl, hw⟩
  have HB := Lib.hid (show Below w.heap.size w w1 by rcases hw with rfl | ⟨t, rfl⟩ <;> first | exact Below.refl _ _ | exact bytes_below _ _)
  clear hw
  go_wp2_with fail
  go_ret
  exact ⟨rfl, HB⟩
def NumP (w : World) (e : Ending) (w' : World) : Prop := ∃ v : Int, e = .returned (.int .i64 v) ∧ Hid (Below w.heap.size w w')
set_option maxHeartbeats 1000000 in
theorem rnumber_any (s : ByteArray) (w : World) (h : digs s.data.toList = true) (hs : s.size ≤ 100000) (hT : RX w) :
    Calls Tryz.prog 183 #[.string s] w (NumP w) := by
  rcases parse_any h with h1 | ⟨v, h1⟩
  · obtain ⟨tp, p, hv⟩ := hT.er
    have K := Lib.hid (Tryz.strconv_ParseInt_10_at64_range_var s (by omega) h1 tp p w hv)
    clear h h1 hv hT
    go_enter Tryz.func183, Tryz.ntmps183
    go_wp2_with fail
    refine K.out.mono ?_
    rintro e w1 ⟨N, rfl, _, _, hb⟩
    have HB := Lib.hid hb
    clear hb
    go_wp2_with fail
    go_ret
    exact ⟨_, rfl, HB⟩
  · have K := Lib.hid (Tryz.strconv_ParseInt_10_at64_ok s (by omega) _ h1 w)
    clear h h1 hT
    go_enter Tryz.func183, Tryz.ntmps183
    go_wp2_with fail
    refine K.out.mono ?_
    rintro e w1 ⟨rfl, hw⟩
    have HB := Lib.hid (show Below w.heap.size w w1 by rcases hw with rfl | ⟨t, rfl⟩ <;> first | exact Below.refl _ _ | exact bytes_below _ _)
    clear hw
    go_wp2_with fail
    go_ret
    exact ⟨_, rfl, HB⟩
end Go.Proofs.YtkjoohnndobjeaaGreatDoor
namespace Go.Proofs.YtkjoohnndobjeaaGreatDoor
open Go.RowKit Go.Fl Go.Fl.Nm Go.Fl.Dy Go.Fl.Rt
end Go.Proofs.YtkjoohnndobjeaaGreatDoor
