/-
  The walk of ratio.Of.
-/
import Derived.Test.YtnogfceojmnjiaaGreatDoorRaSS
set_option linter.unusedVariables false
namespace Go.Fl.Dy
open Go.Fl.Nm
/-- Whether a valid dyadic number may be a ratio. -/
def ofOk (x : D) : Bool := decide ((blen x.k : Int) ≤ 31) && decide (-30 ≤ x.e) && decide ((blen x.k : Int) + x.e ≤ 31)
/-- The ratio of a valid dyadic number, and whether there is one. -/
def ofV (x : D) : Int × Int × Bool :=
  if ofOk x = true then
    ((Rt.make ((if x.neg then -(x.k : Int) else x.k) * 2 ^ x.e.toNat) (2 ^ (-x.e).toNat)).1, (Rt.make ((if x.neg then -(x.k : Int) else x.k) * 2 ^ x.e.toNat) (2 ^ (-x.e).toNat)).2.1, decide ((Rt.make ((if x.neg then -(x.k : Int) else x.k) * 2 ^ x.e.toNat) (2 ^ (-x.e).toNat)).2.2 = 0))
  else (0, 0, false)
def ofD (ng : Bool) (l : List Nat) (ex : Int) : Int × Int × Bool := if vldL ng l ex = true then ofV ⟨ng, val l, ex⟩ else (0, 0, false)
theorem limbs_short {k : Nat} (h : blen k ≤ 31) (h0 : k ≠ 0) : limbs k = [k] := by
  have hk := blen_lt h
  rw [limbs_pos h0, BB_eq, Nat.mod_eq_of_lt (by omega), Nat.div_eq_of_lt (by omega), limbs_zero]
theorem pow_bd {k : Nat} {e : Int} (h0 : k ≠ 0) (h : (blen k : Int) + e ≤ 31) (he : 0 ≤ e) : k * 2 ^ e.toNat < 2147483648 := by
  have h1 := blen_lt (Nat.le_refl (blen k))
  have h2 : k * 2 ^ e.toNat < 2 ^ blen k * 2 ^ e.toNat := Nat.mul_lt_mul_of_pos_right h1 (Nat.two_pow_pos _)
  rw [← Nat.pow_add] at h2
  exact Nat.lt_of_lt_of_le h2 (Nat.pow_le_pow_right (n := 2) (by decide) (by omega : blen k + e.toNat ≤ 31))
theorem or_zero (k : Nat) (h : k < 4294967296) : Go.bits .or .i64 0 (k : Int) = (k : Int) := by
  have := bits_join .i64 63 (by decide) (fun n h0 h1 => by rw [IntKind.wrap_i64]; omega) 32 0 k (by omega) (by omega) (by omega) (by omega) (by omega) (by omega)
  rw [this]; omega
theorem wrap64_nat (k : Nat) (h : k ≤ 1073741824) : RowKit.wrap64 (k : Int) = (k : Int) := by unfold RowKit.wrap64; omega
theorem wrap64_in {a : Int} (h : -2147483648 < a ∧ a < 2147483648) : RowKit.wrap64 a = a := by unfold RowKit.wrap64; omega
theorem ofM_bd {x : D} (hb : (blen x.k : Int) ≤ 31) (h : (blen x.k : Int) + x.e ≤ 31) : -2147483648 < (if x.neg then -(x.k : Int) else x.k) * 2 ^ x.e.toNat ∧ (if x.neg then -(x.k : Int) else x.k) * 2 ^ x.e.toNat < 2147483648 := by
  have h1 : x.k * 2 ^ x.e.toNat < 2147483648 := by
    by_cases h0 : x.k = 0
    · rw [h0]; simp
    · by_cases he : 0 ≤ x.e
      · exact pow_bd h0 h he
      · rw [show x.e.toNat = 0 by omega, Nat.pow_zero, Nat.mul_one]
        exact blen_lt (k := 31) (by omega)
  have h2 : ((x.k * 2 ^ x.e.toNat : Nat) : Int) = (x.k : Int) * 2 ^ x.e.toNat := by rw [Int.natCast_mul, Int.natCast_pow]; rfl
  cases x.neg with
  | true => simp only [if_true]; rw [Int.neg_mul, ← h2]; omega
  | false => simp only [Bool.false_eq_true, if_false]; rw [← h2]; omega
theorem pow_le30 {e : Int} (h : -30 ≤ e) : 2 ^ (-e).toNat ≤ 1073741824 := Nat.pow_le_pow_right (n := 2) (by decide) (by omega : (-e).toNat ≤ 30)
end Go.Fl.Dy
namespace Go.Proofs.YtnogfceojmnjiaaGreatDoor
open Go.RowKit Go.Fl Go.Fl.Nm Go.Fl.Dy Go.Fl.Rt
/-- A ratio and a bool. -/
def RtB (r : Int × Int × Bool) (w : World) (e : Ending) (w' : World) : Prop := e = .returned (.tuple #[.agg #[.int .i64 r.1, .int .i64 r.2.1], .bool r.2.2]) ∧ Hid (Below w.heap.size w w')

set_option maxHeartbeats 1000000 in
theorem top_nought (x : D) (A : Option Addr) (m c : Nat) (w : World) (hx : Sl w A m c (limbs x.k)) (vx : vld x) (hz : x.k = 0) :
    Calls Tryz.prog 80 #[.agg #[.bool x.neg, .slice A m c, .int .i64 x.e]] w (Ret (.int .i64 0) w) := by
  have HX := Lib.hid hx
  have VX := Lib.hid vx
  obtain rfl : m = 0 := by rw [← hx.len, hz, limbs_zero]; rfl
  clear hx vx hz
  go_enter Tryz.func80, Tryz.ntmps80
  go_wp2_with fail
  obtain ⟨w1, hw⟩ : ∃ z9 : World, z9 = (w.alloc (.cells #[.bool x.neg, .slice A 0 c, .int .i64 x.e] 28)) := ⟨_, rfl⟩
  have HB1 := Lib.hid (show Below w.heap.size w w1 by rw [hw]; exact below_a1 _ _)
  have F1x := Lib.hid (HX.out.belowW HB1.out)
  have F1kx := Lib.hid (show Blk w1 (w.heap.size) 28 #[.bool x.neg, .slice A 0 c, .int .i64 x.e] by rw [hw]; exact Blk.new _ _ _)
  rw [← hw]
  clear hw
  have pkx0 : (w1).cell? ⟨w.heap.size, 0, none⟩ = some (.bool x.neg) := F1kx.out.cell 0
  have fkx0 : (w1).frozen? ⟨w.heap.size, 0, none⟩ = false := F1kx.out.frozen 0
  have pkx1 : (w1).cell? ⟨w.heap.size, 1, none⟩ = some (.slice A 0 c) := F1kx.out.cell 1
  have fkx1 : (w1).frozen? ⟨w.heap.size, 1, none⟩ = false := F1kx.out.frozen 1
  have pkx2 : (w1).cell? ⟨w.heap.size, 2, none⟩ = some (.int .i64 x.e) := F1kx.out.cell 2
  have fkx2 : (w1).frozen? ⟨w.heap.size, 2, none⟩ = false := F1kx.out.frozen 2
  go_wp2_with fail
  refine (valid_yes x A 0 c w1 F1x.out VX.out).mono ?_
  rintro e w2 ⟨rfl, HB2⟩
  have F2x := Lib.hid (F1x.out.belowW HB2.out)
  have F2kx := Lib.hid (F1kx.out.belowW HB2.out)
  have HL2 := Lib.hid (HB1.out.trans (HB2.out.mono HB1.out.size))
  clear pkx0 fkx0 pkx1 fkx1 pkx2 fkx2
  have pkx0 : (w2).cell? ⟨w.heap.size, 0, none⟩ = some (.bool x.neg) := F2kx.out.cell 0
  have fkx0 : (w2).frozen? ⟨w.heap.size, 0, none⟩ = false := F2kx.out.frozen 0
  have pkx1 : (w2).cell? ⟨w.heap.size, 1, none⟩ = some (.slice A 0 c) := F2kx.out.cell 1
  have fkx1 : (w2).frozen? ⟨w.heap.size, 1, none⟩ = false := F2kx.out.frozen 1
  have pkx2 : (w2).cell? ⟨w.heap.size, 2, none⟩ = some (.int .i64 x.e) := F2kx.out.cell 2
  have fkx2 : (w2).frozen? ⟨w.heap.size, 2, none⟩ = false := F2kx.out.frozen 2
  go_wp2_with fail
  go_ret
  exact ⟨rfl, HL2⟩
theorem top_all (x : D) (A : Option Addr) (m c : Nat) (w : World) (hx : Sl w A m c (limbs x.k)) (vx : vld x) :
    Calls Tryz.prog 80 #[.agg #[.bool x.neg, .slice A m c, .int .i64 x.e]] w (Ret (.int .i64 ((blen x.k : Int) + x.e)) w) := by
  by_cases hz : x.k = 0
  · have e : (blen x.k : Int) + x.e = 0 := by
      rcases vx with ⟨_, _, h⟩ | ⟨h, _⟩
      · rw [hz, h, blen_zero]; rfl
      · rw [hz] at h; simp at h
    rw [e]
    exact top_nought x A m c w hx vx hz
  · exact top_any x A m c w hx vx hz

set_option maxHeartbeats 1000000 in
theorem of_no (ng : Bool) (A : Option Addr) (m c : Nat) (ex : Int) (l : List Nat) (w : World) (hx : Sl w A m c l) (hv : vldL ng l ex = false) :
    Calls Tryz.prog 41 #[.agg #[.bool ng, .slice A m c, .int .i64 ex]] w (RtB (0, 0, false) w) := by
  have HX := Lib.hid hx
  have VX := Lib.hid hv
  clear hx hv
  go_enter Tryz.func41, Tryz.ntmps41
  go_wp2_with fail
  obtain ⟨w1, hw⟩ : ∃ z9 : World, z9 = ((w.alloc (.cells #[.bool ng, .slice A m c, .int .i64 ex] 28)).alloc (.cells #[.int .i64 0, .int .i64 0] 23)) := ⟨_, rfl⟩
  have HB1 := Lib.hid (show Below w.heap.size w w1 by rw [hw]; exact below_a2 _ _ _)
  have F1x := Lib.hid (HX.out.belowW HB1.out)
  have F1kx := Lib.hid (show Blk w1 (w.heap.size) 28 #[.bool ng, .slice A m c, .int .i64 ex] by rw [hw]; exact (Blk.new _ _ _).alloc _)
  have F1r := Lib.hid (show Blk w1 (w.heap.size + 1) 23 #[.int .i64 0, .int .i64 0] by rw [hw]; exact Blk.new1 _ _ _ _)
  rw [← hw]
  clear hw
  have pkx0 : (w1).cell? ⟨w.heap.size, 0, none⟩ = some (.bool ng) := F1kx.out.cell 0
  have fkx0 : (w1).frozen? ⟨w.heap.size, 0, none⟩ = false := F1kx.out.frozen 0
  have pkx1 : (w1).cell? ⟨w.heap.size, 1, none⟩ = some (.slice A m c) := F1kx.out.cell 1
  have fkx1 : (w1).frozen? ⟨w.heap.size, 1, none⟩ = false := F1kx.out.frozen 1
  have pkx2 : (w1).cell? ⟨w.heap.size, 2, none⟩ = some (.int .i64 ex) := F1kx.out.cell 2
  have fkx2 : (w1).frozen? ⟨w.heap.size, 2, none⟩ = false := F1kx.out.frozen 2
  have pr0 : (w1).cell? ⟨w.heap.size + 1, 0, none⟩ = some (.int .i64 0) := F1r.out.cell 0
  have fr0 : (w1).frozen? ⟨w.heap.size + 1, 0, none⟩ = false := F1r.out.frozen 0
  have pr1 : (w1).cell? ⟨w.heap.size + 1, 1, none⟩ = some (.int .i64 0) := F1r.out.cell 1
  have fr1 : (w1).frozen? ⟨w.heap.size + 1, 1, none⟩ = false := F1r.out.frozen 1
  go_wp2_with fail
  refine (valid_any ng A m c ex l w1 F1x.out).mono ?_
  rw [VX.out]
  rintro e w2 ⟨rfl, HB2⟩
  have F2x := Lib.hid (F1x.out.belowW HB2.out)
  have F2kx := Lib.hid (F1kx.out.belowW HB2.out)
  have F2r := Lib.hid (F1r.out.belowW HB2.out)
  have HL2 := Lib.hid (HB1.out.trans (HB2.out.mono HB1.out.size))
  clear pkx0 fkx0 pkx1 fkx1 pkx2 fkx2 pr0 fr0 pr1 fr1
  have pkx0 : (w2).cell? ⟨w.heap.size, 0, none⟩ = some (.bool ng) := F2kx.out.cell 0
  have fkx0 : (w2).frozen? ⟨w.heap.size, 0, none⟩ = false := F2kx.out.frozen 0
  have pkx1 : (w2).cell? ⟨w.heap.size, 1, none⟩ = some (.slice A m c) := F2kx.out.cell 1
  have fkx1 : (w2).frozen? ⟨w.heap.size, 1, none⟩ = false := F2kx.out.frozen 1
  have pkx2 : (w2).cell? ⟨w.heap.size, 2, none⟩ = some (.int .i64 ex) := F2kx.out.cell 2
  have fkx2 : (w2).frozen? ⟨w.heap.size, 2, none⟩ = false := F2kx.out.frozen 2
  have pr0 : (w2).cell? ⟨w.heap.size + 1, 0, none⟩ = some (.int .i64 0) := F2r.out.cell 0
  have fr0 : (w2).frozen? ⟨w.heap.size + 1, 0, none⟩ = false := F2r.out.frozen 0
  have pr1 : (w2).cell? ⟨w.heap.size + 1, 1, none⟩ = some (.int .i64 0) := F2r.out.cell 1
  have fr1 : (w2).frozen? ⟨w.heap.size + 1, 1, none⟩ = false := F2r.out.frozen 1
  go_wp2_with fail
  refine bodyPost_ret (v := .tuple #[.agg #[.int .i64 0, .int .i64 0], .bool false]) (by simp [results, Tryz.results41, go_sem, pr0, pr1]) rfl ?_
  exact ⟨rfl, Lib.hid (store2_below HL2.out F2r.out _ _ (by omega))⟩

set_option maxHeartbeats 2000000 in
theorem of_yes (x : D) (A : Option Addr) (m c : Nat) (w : World) (hx : Sl w A m c (limbs x.k)) (vx : vld x) :
    Calls Tryz.prog 41 #[.agg #[.bool x.neg, .slice A m c, .int .i64 x.e]] w (RtB (ofV x) w) := by
  have HX := Lib.hid hx
  have VX := Lib.hid vx
  have hb := vld_bits vx
  have he := vld_ebd vx
  have HLN := Lib.hid hx.len
  obtain ⟨B, hB⟩ : ∃ B, blen x.k = B := ⟨_, rfl⟩
  obtain ⟨t, ht⟩ : ∃ t, (B : Int) + x.e = t := ⟨_, rfl⟩
  have HBB := Lib.hid hB
  have HTT := Lib.hid (show (blen x.k : Int) + x.e = t by rw [hB]; exact ht)
  have HOK := Lib.hid (show ofOk x = (decide ((B : Int) ≤ 31) && decide (-30 ≤ x.e) && decide (t ≤ 31)) by unfold ofOk; rw [hB, ht])
  have t1 : -20000 ≤ t ∧ t ≤ 30000 := by omega
  rw [hB] at hb
  clear hx vx hB
  by_cases k1 : (B : Int) ≤ 31
  case neg =>
    have d1 : decide (31 < (B : Int)) = true := decide_eq_true (by omega)
    have HR := Lib.hid (show ofV x = (0, 0, false) by unfold ofV; rw [HOK.out, decide_eq_false k1]; rfl)
    rw [HR.out]
    clear ht
    go_enter Tryz.func41, Tryz.ntmps41
    go_wp2_with fail
    obtain ⟨w1, hw⟩ : ∃ z9 : World, z9 = ((w.alloc (.cells #[.bool x.neg, .slice A m c, .int .i64 x.e] 28)).alloc (.cells #[.int .i64 0, .int .i64 0] 23)) := ⟨_, rfl⟩
    have HB1 := Lib.hid (show Below w.heap.size w w1 by rw [hw]; exact below_a2 _ _ _)
    have F1x := Lib.hid (HX.out.belowW HB1.out)
    have F1kx := Lib.hid (show Blk w1 (w.heap.size) 28 #[.bool x.neg, .slice A m c, .int .i64 x.e] by rw [hw]; exact (Blk.new _ _ _).alloc _)
    have F1r := Lib.hid (show Blk w1 (w.heap.size + 1) 23 #[.int .i64 0, .int .i64 0] by rw [hw]; exact Blk.new1 _ _ _ _)
    rw [← hw]
    clear hw
    have pkx0 : (w1).cell? ⟨w.heap.size, 0, none⟩ = some (.bool x.neg) := F1kx.out.cell 0
    have fkx0 : (w1).frozen? ⟨w.heap.size, 0, none⟩ = false := F1kx.out.frozen 0
    have pkx1 : (w1).cell? ⟨w.heap.size, 1, none⟩ = some (.slice A m c) := F1kx.out.cell 1
    have fkx1 : (w1).frozen? ⟨w.heap.size, 1, none⟩ = false := F1kx.out.frozen 1
    have pkx2 : (w1).cell? ⟨w.heap.size, 2, none⟩ = some (.int .i64 x.e) := F1kx.out.cell 2
    have fkx2 : (w1).frozen? ⟨w.heap.size, 2, none⟩ = false := F1kx.out.frozen 2
    have pr0 : (w1).cell? ⟨w.heap.size + 1, 0, none⟩ = some (.int .i64 0) := F1r.out.cell 0
    have fr0 : (w1).frozen? ⟨w.heap.size + 1, 0, none⟩ = false := F1r.out.frozen 0
    have pr1 : (w1).cell? ⟨w.heap.size + 1, 1, none⟩ = some (.int .i64 0) := F1r.out.cell 1
    have fr1 : (w1).frozen? ⟨w.heap.size + 1, 1, none⟩ = false := F1r.out.frozen 1
    go_wp2_with fail
    refine (valid_yes x A m c w1 F1x.out VX.out).mono ?_
    rintro e w2 ⟨rfl, HB2⟩
    have F2x := Lib.hid (F1x.out.belowW HB2.out)
    have F2kx := Lib.hid (F1kx.out.belowW HB2.out)
    have F2r := Lib.hid (F1r.out.belowW HB2.out)
    have HL2 := Lib.hid (HB1.out.trans (HB2.out.mono HB1.out.size))
    clear pkx0 fkx0 pkx1 fkx1 pkx2 fkx2 pr0 fr0 pr1 fr1
    have pkx0 : (w2).cell? ⟨w.heap.size, 0, none⟩ = some (.bool x.neg) := F2kx.out.cell 0
    have fkx0 : (w2).frozen? ⟨w.heap.size, 0, none⟩ = false := F2kx.out.frozen 0
    have pkx1 : (w2).cell? ⟨w.heap.size, 1, none⟩ = some (.slice A m c) := F2kx.out.cell 1
    have fkx1 : (w2).frozen? ⟨w.heap.size, 1, none⟩ = false := F2kx.out.frozen 1
    have pkx2 : (w2).cell? ⟨w.heap.size, 2, none⟩ = some (.int .i64 x.e) := F2kx.out.cell 2
    have fkx2 : (w2).frozen? ⟨w.heap.size, 2, none⟩ = false := F2kx.out.frozen 2
    have pr0 : (w2).cell? ⟨w.heap.size + 1, 0, none⟩ = some (.int .i64 0) := F2r.out.cell 0
    have fr0 : (w2).frozen? ⟨w.heap.size + 1, 0, none⟩ = false := F2r.out.frozen 0
    have pr1 : (w2).cell? ⟨w.heap.size + 1, 1, none⟩ = some (.int .i64 0) := F2r.out.cell 1
    have fr1 : (w2).frozen? ⟨w.heap.size + 1, 1, none⟩ = false := F2r.out.frozen 1
    go_wp2_with fail
    refine (dbits_any x A m c w2 F2x.out VX.out).mono ?_
    rw [HBB.out]
    rintro e w3 ⟨rfl, HB3⟩
    have F3x := Lib.hid (F2x.out.belowW HB3.out)
    have F3kx := Lib.hid (F2kx.out.belowW HB3.out)
    have F3r := Lib.hid (F2r.out.belowW HB3.out)
    have HL3 := Lib.hid (HL2.out.trans (HB3.out.mono HL2.out.size))
    clear pkx0 fkx0 pkx1 fkx1 pkx2 fkx2 pr0 fr0 pr1 fr1
    have pkx0 : (w3).cell? ⟨w.heap.size, 0, none⟩ = some (.bool x.neg) := F3kx.out.cell 0
    have fkx0 : (w3).frozen? ⟨w.heap.size, 0, none⟩ = false := F3kx.out.frozen 0
    have pkx1 : (w3).cell? ⟨w.heap.size, 1, none⟩ = some (.slice A m c) := F3kx.out.cell 1
    have fkx1 : (w3).frozen? ⟨w.heap.size, 1, none⟩ = false := F3kx.out.frozen 1
    have pkx2 : (w3).cell? ⟨w.heap.size, 2, none⟩ = some (.int .i64 x.e) := F3kx.out.cell 2
    have fkx2 : (w3).frozen? ⟨w.heap.size, 2, none⟩ = false := F3kx.out.frozen 2
    have pr0 : (w3).cell? ⟨w.heap.size + 1, 0, none⟩ = some (.int .i64 0) := F3r.out.cell 0
    have fr0 : (w3).frozen? ⟨w.heap.size + 1, 0, none⟩ = false := F3r.out.frozen 0
    have pr1 : (w3).cell? ⟨w.heap.size + 1, 1, none⟩ = some (.int .i64 0) := F3r.out.cell 1
    have fr1 : (w3).frozen? ⟨w.heap.size + 1, 1, none⟩ = false := F3r.out.frozen 1
    go_wp2_with fail
    refine bodyPost_ret (v := .tuple #[.agg #[.int .i64 0, .int .i64 0], .bool false]) (by simp [results, Tryz.results41, go_sem, pr0, pr1]) rfl ?_
    exact ⟨rfl, Lib.hid (store2_below HL3.out F3r.out _ _ (by omega))⟩
  have d1 : decide (31 < (B : Int)) = false := decide_eq_false (by omega)
  by_cases k2 : -30 ≤ x.e
  case neg =>
    have d2 : decide (x.e < -30) = true := decide_eq_true (by omega)
    have HR := Lib.hid (show ofV x = (0, 0, false) by unfold ofV; rw [HOK.out, decide_eq_false k2, Bool.and_false]; rfl)
    rw [HR.out]
    clear ht
    go_enter Tryz.func41, Tryz.ntmps41
    go_wp2_with fail
    obtain ⟨w1, hw⟩ : ∃ z9 : World, z9 = ((w.alloc (.cells #[.bool x.neg, .slice A m c, .int .i64 x.e] 28)).alloc (.cells #[.int .i64 0, .int .i64 0] 23)) := ⟨_, rfl⟩
    have HB1 := Lib.hid (show Below w.heap.size w w1 by rw [hw]; exact below_a2 _ _ _)
    have F1x := Lib.hid (HX.out.belowW HB1.out)
    have F1kx := Lib.hid (show Blk w1 (w.heap.size) 28 #[.bool x.neg, .slice A m c, .int .i64 x.e] by rw [hw]; exact (Blk.new _ _ _).alloc _)
    have F1r := Lib.hid (show Blk w1 (w.heap.size + 1) 23 #[.int .i64 0, .int .i64 0] by rw [hw]; exact Blk.new1 _ _ _ _)
    rw [← hw]
    clear hw
    have pkx0 : (w1).cell? ⟨w.heap.size, 0, none⟩ = some (.bool x.neg) := F1kx.out.cell 0
    have fkx0 : (w1).frozen? ⟨w.heap.size, 0, none⟩ = false := F1kx.out.frozen 0
    have pkx1 : (w1).cell? ⟨w.heap.size, 1, none⟩ = some (.slice A m c) := F1kx.out.cell 1
    have fkx1 : (w1).frozen? ⟨w.heap.size, 1, none⟩ = false := F1kx.out.frozen 1
    have pkx2 : (w1).cell? ⟨w.heap.size, 2, none⟩ = some (.int .i64 x.e) := F1kx.out.cell 2
    have fkx2 : (w1).frozen? ⟨w.heap.size, 2, none⟩ = false := F1kx.out.frozen 2
    have pr0 : (w1).cell? ⟨w.heap.size + 1, 0, none⟩ = some (.int .i64 0) := F1r.out.cell 0
    have fr0 : (w1).frozen? ⟨w.heap.size + 1, 0, none⟩ = false := F1r.out.frozen 0
    have pr1 : (w1).cell? ⟨w.heap.size + 1, 1, none⟩ = some (.int .i64 0) := F1r.out.cell 1
    have fr1 : (w1).frozen? ⟨w.heap.size + 1, 1, none⟩ = false := F1r.out.frozen 1
    go_wp2_with fail
    refine (valid_yes x A m c w1 F1x.out VX.out).mono ?_
    rintro e w2 ⟨rfl, HB2⟩
    have F2x := Lib.hid (F1x.out.belowW HB2.out)
    have F2kx := Lib.hid (F1kx.out.belowW HB2.out)
    have F2r := Lib.hid (F1r.out.belowW HB2.out)
    have HL2 := Lib.hid (HB1.out.trans (HB2.out.mono HB1.out.size))
    clear pkx0 fkx0 pkx1 fkx1 pkx2 fkx2 pr0 fr0 pr1 fr1
    have pkx0 : (w2).cell? ⟨w.heap.size, 0, none⟩ = some (.bool x.neg) := F2kx.out.cell 0
    have fkx0 : (w2).frozen? ⟨w.heap.size, 0, none⟩ = false := F2kx.out.frozen 0
    have pkx1 : (w2).cell? ⟨w.heap.size, 1, none⟩ = some (.slice A m c) := F2kx.out.cell 1
    have fkx1 : (w2).frozen? ⟨w.heap.size, 1, none⟩ = false := F2kx.out.frozen 1
    have pkx2 : (w2).cell? ⟨w.heap.size, 2, none⟩ = some (.int .i64 x.e) := F2kx.out.cell 2
    have fkx2 : (w2).frozen? ⟨w.heap.size, 2, none⟩ = false := F2kx.out.frozen 2
    have pr0 : (w2).cell? ⟨w.heap.size + 1, 0, none⟩ = some (.int .i64 0) := F2r.out.cell 0
    have fr0 : (w2).frozen? ⟨w.heap.size + 1, 0, none⟩ = false := F2r.out.frozen 0
    have pr1 : (w2).cell? ⟨w.heap.size + 1, 1, none⟩ = some (.int .i64 0) := F2r.out.cell 1
    have fr1 : (w2).frozen? ⟨w.heap.size + 1, 1, none⟩ = false := F2r.out.frozen 1
    go_wp2_with fail
    refine (dbits_any x A m c w2 F2x.out VX.out).mono ?_
    rw [HBB.out]
    rintro e w3 ⟨rfl, HB3⟩
    have F3x := Lib.hid (F2x.out.belowW HB3.out)
    have F3kx := Lib.hid (F2kx.out.belowW HB3.out)
    have F3r := Lib.hid (F2r.out.belowW HB3.out)
    have HL3 := Lib.hid (HL2.out.trans (HB3.out.mono HL2.out.size))
    clear pkx0 fkx0 pkx1 fkx1 pkx2 fkx2 pr0 fr0 pr1 fr1
    have pkx0 : (w3).cell? ⟨w.heap.size, 0, none⟩ = some (.bool x.neg) := F3kx.out.cell 0
    have fkx0 : (w3).frozen? ⟨w.heap.size, 0, none⟩ = false := F3kx.out.frozen 0
    have pkx1 : (w3).cell? ⟨w.heap.size, 1, none⟩ = some (.slice A m c) := F3kx.out.cell 1
    have fkx1 : (w3).frozen? ⟨w.heap.size, 1, none⟩ = false := F3kx.out.frozen 1
    have pkx2 : (w3).cell? ⟨w.heap.size, 2, none⟩ = some (.int .i64 x.e) := F3kx.out.cell 2
    have fkx2 : (w3).frozen? ⟨w.heap.size, 2, none⟩ = false := F3kx.out.frozen 2
    have pr0 : (w3).cell? ⟨w.heap.size + 1, 0, none⟩ = some (.int .i64 0) := F3r.out.cell 0
    have fr0 : (w3).frozen? ⟨w.heap.size + 1, 0, none⟩ = false := F3r.out.frozen 0
    have pr1 : (w3).cell? ⟨w.heap.size + 1, 1, none⟩ = some (.int .i64 0) := F3r.out.cell 1
    have fr1 : (w3).frozen? ⟨w.heap.size + 1, 1, none⟩ = false := F3r.out.frozen 1
    go_wp2_with fail
    refine bodyPost_ret (v := .tuple #[.agg #[.int .i64 0, .int .i64 0], .bool false]) (by simp [results, Tryz.results41, go_sem, pr0, pr1]) rfl ?_
    exact ⟨rfl, Lib.hid (store2_below HL3.out F3r.out _ _ (by omega))⟩
  have d2 : decide (x.e < -30) = false := decide_eq_false (by omega)
  by_cases k3 : t ≤ 31
  case neg =>
    have d3 : decide (31 < t) = true := decide_eq_true (by omega)
    have HR := Lib.hid (show ofV x = (0, 0, false) by unfold ofV; rw [HOK.out, decide_eq_false k3, Bool.and_false]; rfl)
    rw [HR.out]
    clear ht
    go_enter Tryz.func41, Tryz.ntmps41
    go_wp2_with fail
    obtain ⟨w1, hw⟩ : ∃ z9 : World, z9 = ((w.alloc (.cells #[.bool x.neg, .slice A m c, .int .i64 x.e] 28)).alloc (.cells #[.int .i64 0, .int .i64 0] 23)) := ⟨_, rfl⟩
    have HB1 := Lib.hid (show Below w.heap.size w w1 by rw [hw]; exact below_a2 _ _ _)
    have F1x := Lib.hid (HX.out.belowW HB1.out)
    have F1kx := Lib.hid (show Blk w1 (w.heap.size) 28 #[.bool x.neg, .slice A m c, .int .i64 x.e] by rw [hw]; exact (Blk.new _ _ _).alloc _)
    have F1r := Lib.hid (show Blk w1 (w.heap.size + 1) 23 #[.int .i64 0, .int .i64 0] by rw [hw]; exact Blk.new1 _ _ _ _)
    rw [← hw]
    clear hw
    have pkx0 : (w1).cell? ⟨w.heap.size, 0, none⟩ = some (.bool x.neg) := F1kx.out.cell 0
    have fkx0 : (w1).frozen? ⟨w.heap.size, 0, none⟩ = false := F1kx.out.frozen 0
    have pkx1 : (w1).cell? ⟨w.heap.size, 1, none⟩ = some (.slice A m c) := F1kx.out.cell 1
    have fkx1 : (w1).frozen? ⟨w.heap.size, 1, none⟩ = false := F1kx.out.frozen 1
    have pkx2 : (w1).cell? ⟨w.heap.size, 2, none⟩ = some (.int .i64 x.e) := F1kx.out.cell 2
    have fkx2 : (w1).frozen? ⟨w.heap.size, 2, none⟩ = false := F1kx.out.frozen 2
    have pr0 : (w1).cell? ⟨w.heap.size + 1, 0, none⟩ = some (.int .i64 0) := F1r.out.cell 0
    have fr0 : (w1).frozen? ⟨w.heap.size + 1, 0, none⟩ = false := F1r.out.frozen 0
    have pr1 : (w1).cell? ⟨w.heap.size + 1, 1, none⟩ = some (.int .i64 0) := F1r.out.cell 1
    have fr1 : (w1).frozen? ⟨w.heap.size + 1, 1, none⟩ = false := F1r.out.frozen 1
    go_wp2_with fail
    refine (valid_yes x A m c w1 F1x.out VX.out).mono ?_
    rintro e w2 ⟨rfl, HB2⟩
    have F2x := Lib.hid (F1x.out.belowW HB2.out)
    have F2kx := Lib.hid (F1kx.out.belowW HB2.out)
    have F2r := Lib.hid (F1r.out.belowW HB2.out)
    have HL2 := Lib.hid (HB1.out.trans (HB2.out.mono HB1.out.size))
    clear pkx0 fkx0 pkx1 fkx1 pkx2 fkx2 pr0 fr0 pr1 fr1
    have pkx0 : (w2).cell? ⟨w.heap.size, 0, none⟩ = some (.bool x.neg) := F2kx.out.cell 0
    have fkx0 : (w2).frozen? ⟨w.heap.size, 0, none⟩ = false := F2kx.out.frozen 0
    have pkx1 : (w2).cell? ⟨w.heap.size, 1, none⟩ = some (.slice A m c) := F2kx.out.cell 1
    have fkx1 : (w2).frozen? ⟨w.heap.size, 1, none⟩ = false := F2kx.out.frozen 1
    have pkx2 : (w2).cell? ⟨w.heap.size, 2, none⟩ = some (.int .i64 x.e) := F2kx.out.cell 2
    have fkx2 : (w2).frozen? ⟨w.heap.size, 2, none⟩ = false := F2kx.out.frozen 2
    have pr0 : (w2).cell? ⟨w.heap.size + 1, 0, none⟩ = some (.int .i64 0) := F2r.out.cell 0
    have fr0 : (w2).frozen? ⟨w.heap.size + 1, 0, none⟩ = false := F2r.out.frozen 0
    have pr1 : (w2).cell? ⟨w.heap.size + 1, 1, none⟩ = some (.int .i64 0) := F2r.out.cell 1
    have fr1 : (w2).frozen? ⟨w.heap.size + 1, 1, none⟩ = false := F2r.out.frozen 1
    go_wp2_with fail
    refine (dbits_any x A m c w2 F2x.out VX.out).mono ?_
    rw [HBB.out]
    rintro e w3 ⟨rfl, HB3⟩
    have F3x := Lib.hid (F2x.out.belowW HB3.out)
    have F3kx := Lib.hid (F2kx.out.belowW HB3.out)
    have F3r := Lib.hid (F2r.out.belowW HB3.out)
    have HL3 := Lib.hid (HL2.out.trans (HB3.out.mono HL2.out.size))
    clear pkx0 fkx0 pkx1 fkx1 pkx2 fkx2 pr0 fr0 pr1 fr1
    have pkx0 : (w3).cell? ⟨w.heap.size, 0, none⟩ = some (.bool x.neg) := F3kx.out.cell 0
    have fkx0 : (w3).frozen? ⟨w.heap.size, 0, none⟩ = false := F3kx.out.frozen 0
    have pkx1 : (w3).cell? ⟨w.heap.size, 1, none⟩ = some (.slice A m c) := F3kx.out.cell 1
    have fkx1 : (w3).frozen? ⟨w.heap.size, 1, none⟩ = false := F3kx.out.frozen 1
    have pkx2 : (w3).cell? ⟨w.heap.size, 2, none⟩ = some (.int .i64 x.e) := F3kx.out.cell 2
    have fkx2 : (w3).frozen? ⟨w.heap.size, 2, none⟩ = false := F3kx.out.frozen 2
    have pr0 : (w3).cell? ⟨w.heap.size + 1, 0, none⟩ = some (.int .i64 0) := F3r.out.cell 0
    have fr0 : (w3).frozen? ⟨w.heap.size + 1, 0, none⟩ = false := F3r.out.frozen 0
    have pr1 : (w3).cell? ⟨w.heap.size + 1, 1, none⟩ = some (.int .i64 0) := F3r.out.cell 1
    have fr1 : (w3).frozen? ⟨w.heap.size + 1, 1, none⟩ = false := F3r.out.frozen 1
    go_wp2_with fail
    refine (top_all x A m c w3 F3x.out VX.out).mono ?_
    rw [HTT.out]
    rintro e w4 ⟨rfl, HB4⟩
    have F4x := Lib.hid (F3x.out.belowW HB4.out)
    have F4kx := Lib.hid (F3kx.out.belowW HB4.out)
    have F4r := Lib.hid (F3r.out.belowW HB4.out)
    have HL4 := Lib.hid (HL3.out.trans (HB4.out.mono HL3.out.size))
    clear pkx0 fkx0 pkx1 fkx1 pkx2 fkx2 pr0 fr0 pr1 fr1
    have pkx0 : (w4).cell? ⟨w.heap.size, 0, none⟩ = some (.bool x.neg) := F4kx.out.cell 0
    have fkx0 : (w4).frozen? ⟨w.heap.size, 0, none⟩ = false := F4kx.out.frozen 0
    have pkx1 : (w4).cell? ⟨w.heap.size, 1, none⟩ = some (.slice A m c) := F4kx.out.cell 1
    have fkx1 : (w4).frozen? ⟨w.heap.size, 1, none⟩ = false := F4kx.out.frozen 1
    have pkx2 : (w4).cell? ⟨w.heap.size, 2, none⟩ = some (.int .i64 x.e) := F4kx.out.cell 2
    have fkx2 : (w4).frozen? ⟨w.heap.size, 2, none⟩ = false := F4kx.out.frozen 2
    have pr0 : (w4).cell? ⟨w.heap.size + 1, 0, none⟩ = some (.int .i64 0) := F4r.out.cell 0
    have fr0 : (w4).frozen? ⟨w.heap.size + 1, 0, none⟩ = false := F4r.out.frozen 0
    have pr1 : (w4).cell? ⟨w.heap.size + 1, 1, none⟩ = some (.int .i64 0) := F4r.out.cell 1
    have fr1 : (w4).frozen? ⟨w.heap.size + 1, 1, none⟩ = false := F4r.out.frozen 1
    go_wp2_with fail
    refine bodyPost_ret (v := .tuple #[.agg #[.int .i64 0, .int .i64 0], .bool false]) (by simp [results, Tryz.results41, go_sem, pr0, pr1]) rfl ?_
    exact ⟨rfl, Lib.hid (store2_below HL4.out F4r.out _ _ (by omega))⟩
  have d3 : decide (31 < t) = false := decide_eq_false (by omega)
  have p1 := pow_le30 k2
  obtain ⟨M, hM⟩ : ∃ M : Int, (if x.neg then -(x.k : Int) else x.k) * 2 ^ x.e.toNat = M := ⟨_, rfl⟩
  obtain ⟨K, hK⟩ : ∃ K : Nat, 2 ^ (-x.e).toNat = K := ⟨_, rfl⟩
  obtain ⟨rn, rd, re, hr⟩ : ∃ a b c, make M (K : Int) = (a, b, c) := ⟨_, _, _, rfl⟩
  have HMK := Lib.hid hr
  have HR := Lib.hid (show ofV x = (rn, rd, decide (re = 0)) by
    unfold ofV
    rw [if_pos (by rw [HOK.out, decide_eq_true k1, decide_eq_true k2, decide_eq_true k3]; rfl), hM, show ((2 : Int) ^ (-x.e).toNat) = (K : Int) by rw [← hK, Int.natCast_pow]; rfl, hr])
  rw [hK] at p1
  have M1 : -2147483648 < M ∧ M < 2147483648 := by
    rw [← hM]
    exact ofM_bd (by rw [HBB.out]; omega) (by rw [HBB.out]; omega)
  have K1 : 0 < K := by rw [← hK]; exact Nat.two_pow_pos _
  clear hr
  by_cases hz : x.k = 0
  · obtain rfl : m = 0 := by rw [← HLN.out, hz, limbs_zero]; rfl
    have hxe : x.neg = false ∧ x.e = 0 := by
      rcases VX.out with ⟨_, h1, h2⟩ | ⟨h, _⟩
      · exact ⟨h1, h2⟩
      · rw [hz] at h; simp at h
    obtain rfl : M = 0 := by rw [← hM, hz, hxe.1]; simp
    obtain rfl : K = 1 := by rw [← hK, hxe.2]; rfl
    have HXN := Lib.hid hxe.1
    have HXE := Lib.hid hxe.2
    clear hxe hM hK hz ht
    go_enter Tryz.func41, Tryz.ntmps41
    go_wp2_with fail
    obtain ⟨w1, hw⟩ : ∃ z9 : World, z9 = ((w.alloc (.cells #[.bool x.neg, .slice A 0 c, .int .i64 x.e] 28)).alloc (.cells #[.int .i64 0, .int .i64 0] 23)) := ⟨_, rfl⟩
    have HB1 := Lib.hid (show Below w.heap.size w w1 by rw [hw]; exact below_a2 _ _ _)
    have F1x := Lib.hid (HX.out.belowW HB1.out)
    have F1kx := Lib.hid (show Blk w1 (w.heap.size) 28 #[.bool x.neg, .slice A 0 c, .int .i64 x.e] by rw [hw]; exact (Blk.new _ _ _).alloc _)
    have F1r := Lib.hid (show Blk w1 (w.heap.size + 1) 23 #[.int .i64 0, .int .i64 0] by rw [hw]; exact Blk.new1 _ _ _ _)
    rw [← hw]
    clear hw
    have pkx0 : (w1).cell? ⟨w.heap.size, 0, none⟩ = some (.bool x.neg) := F1kx.out.cell 0
    have fkx0 : (w1).frozen? ⟨w.heap.size, 0, none⟩ = false := F1kx.out.frozen 0
    have pkx1 : (w1).cell? ⟨w.heap.size, 1, none⟩ = some (.slice A 0 c) := F1kx.out.cell 1
    have fkx1 : (w1).frozen? ⟨w.heap.size, 1, none⟩ = false := F1kx.out.frozen 1
    have pkx2 : (w1).cell? ⟨w.heap.size, 2, none⟩ = some (.int .i64 x.e) := F1kx.out.cell 2
    have fkx2 : (w1).frozen? ⟨w.heap.size, 2, none⟩ = false := F1kx.out.frozen 2
    have pr0 : (w1).cell? ⟨w.heap.size + 1, 0, none⟩ = some (.int .i64 0) := F1r.out.cell 0
    have fr0 : (w1).frozen? ⟨w.heap.size + 1, 0, none⟩ = false := F1r.out.frozen 0
    have pr1 : (w1).cell? ⟨w.heap.size + 1, 1, none⟩ = some (.int .i64 0) := F1r.out.cell 1
    have fr1 : (w1).frozen? ⟨w.heap.size + 1, 1, none⟩ = false := F1r.out.frozen 1
    go_wp2_with fail
    refine (valid_yes x A 0 c w1 F1x.out VX.out).mono ?_
    rintro e w2 ⟨rfl, HB2⟩
    have F2x := Lib.hid (F1x.out.belowW HB2.out)
    have F2kx := Lib.hid (F1kx.out.belowW HB2.out)
    have F2r := Lib.hid (F1r.out.belowW HB2.out)
    have HL2 := Lib.hid (HB1.out.trans (HB2.out.mono HB1.out.size))
    clear pkx0 fkx0 pkx1 fkx1 pkx2 fkx2 pr0 fr0 pr1 fr1
    have pkx0 : (w2).cell? ⟨w.heap.size, 0, none⟩ = some (.bool x.neg) := F2kx.out.cell 0
    have fkx0 : (w2).frozen? ⟨w.heap.size, 0, none⟩ = false := F2kx.out.frozen 0
    have pkx1 : (w2).cell? ⟨w.heap.size, 1, none⟩ = some (.slice A 0 c) := F2kx.out.cell 1
    have fkx1 : (w2).frozen? ⟨w.heap.size, 1, none⟩ = false := F2kx.out.frozen 1
    have pkx2 : (w2).cell? ⟨w.heap.size, 2, none⟩ = some (.int .i64 x.e) := F2kx.out.cell 2
    have fkx2 : (w2).frozen? ⟨w.heap.size, 2, none⟩ = false := F2kx.out.frozen 2
    have pr0 : (w2).cell? ⟨w.heap.size + 1, 0, none⟩ = some (.int .i64 0) := F2r.out.cell 0
    have fr0 : (w2).frozen? ⟨w.heap.size + 1, 0, none⟩ = false := F2r.out.frozen 0
    have pr1 : (w2).cell? ⟨w.heap.size + 1, 1, none⟩ = some (.int .i64 0) := F2r.out.cell 1
    have fr1 : (w2).frozen? ⟨w.heap.size + 1, 1, none⟩ = false := F2r.out.frozen 1
    go_wp2_with fail
    refine (dbits_any x A 0 c w2 F2x.out VX.out).mono ?_
    rw [HBB.out]
    rintro e w3 ⟨rfl, HB3⟩
    have F3x := Lib.hid (F2x.out.belowW HB3.out)
    have F3kx := Lib.hid (F2kx.out.belowW HB3.out)
    have F3r := Lib.hid (F2r.out.belowW HB3.out)
    have HL3 := Lib.hid (HL2.out.trans (HB3.out.mono HL2.out.size))
    clear pkx0 fkx0 pkx1 fkx1 pkx2 fkx2 pr0 fr0 pr1 fr1
    have pkx0 : (w3).cell? ⟨w.heap.size, 0, none⟩ = some (.bool x.neg) := F3kx.out.cell 0
    have fkx0 : (w3).frozen? ⟨w.heap.size, 0, none⟩ = false := F3kx.out.frozen 0
    have pkx1 : (w3).cell? ⟨w.heap.size, 1, none⟩ = some (.slice A 0 c) := F3kx.out.cell 1
    have fkx1 : (w3).frozen? ⟨w.heap.size, 1, none⟩ = false := F3kx.out.frozen 1
    have pkx2 : (w3).cell? ⟨w.heap.size, 2, none⟩ = some (.int .i64 x.e) := F3kx.out.cell 2
    have fkx2 : (w3).frozen? ⟨w.heap.size, 2, none⟩ = false := F3kx.out.frozen 2
    have pr0 : (w3).cell? ⟨w.heap.size + 1, 0, none⟩ = some (.int .i64 0) := F3r.out.cell 0
    have fr0 : (w3).frozen? ⟨w.heap.size + 1, 0, none⟩ = false := F3r.out.frozen 0
    have pr1 : (w3).cell? ⟨w.heap.size + 1, 1, none⟩ = some (.int .i64 0) := F3r.out.cell 1
    have fr1 : (w3).frozen? ⟨w.heap.size + 1, 1, none⟩ = false := F3r.out.frozen 1
    go_wp2_with fail
    refine (top_all x A 0 c w3 F3x.out VX.out).mono ?_
    rw [HTT.out]
    rintro e w4 ⟨rfl, HB4⟩
    have F4x := Lib.hid (F3x.out.belowW HB4.out)
    have F4kx := Lib.hid (F3kx.out.belowW HB4.out)
    have F4r := Lib.hid (F3r.out.belowW HB4.out)
    have HL4 := Lib.hid (HL3.out.trans (HB4.out.mono HL3.out.size))
    clear pkx0 fkx0 pkx1 fkx1 pkx2 fkx2 pr0 fr0 pr1 fr1
    have pkx0 : (w4).cell? ⟨w.heap.size, 0, none⟩ = some (.bool x.neg) := F4kx.out.cell 0
    have fkx0 : (w4).frozen? ⟨w.heap.size, 0, none⟩ = false := F4kx.out.frozen 0
    have pkx1 : (w4).cell? ⟨w.heap.size, 1, none⟩ = some (.slice A 0 c) := F4kx.out.cell 1
    have fkx1 : (w4).frozen? ⟨w.heap.size, 1, none⟩ = false := F4kx.out.frozen 1
    have pkx2 : (w4).cell? ⟨w.heap.size, 2, none⟩ = some (.int .i64 x.e) := F4kx.out.cell 2
    have fkx2 : (w4).frozen? ⟨w.heap.size, 2, none⟩ = false := F4kx.out.frozen 2
    have pr0 : (w4).cell? ⟨w.heap.size + 1, 0, none⟩ = some (.int .i64 0) := F4r.out.cell 0
    have fr0 : (w4).frozen? ⟨w.heap.size + 1, 0, none⟩ = false := F4r.out.frozen 0
    have pr1 : (w4).cell? ⟨w.heap.size + 1, 1, none⟩ = some (.int .i64 0) := F4r.out.cell 1
    have fr1 : (w4).frozen? ⟨w.heap.size + 1, 1, none⟩ = false := F4r.out.frozen 1
    rw [HXN.out] at pkx0
    rw [HXE.out] at pkx2
    go_wp2_with fail
    go_loop [4, 31] (fun v i => v = .int .i64 0 ∧ i = .int .i64 0) (fun _ _ => 0)
    case atStart => exact ⟨rfl, rfl⟩
    case round =>
      obtain ⟨rfl, rfl⟩ := hrel
      go_wp2_with fail
      refine (make_q 0 1 w4 (by omega) (by omega) (by omega) (by omega)).mono ?_
      rw [show make 0 1 = (rn, rd, re) from HMK.out]
      rintro e w5 ⟨rfl, HB5⟩
      have F5x := Lib.hid (F4x.out.belowW HB5.out)
      have F5kx := Lib.hid (F4kx.out.belowW HB5.out)
      have F5r := Lib.hid (F4r.out.belowW HB5.out)
      have HL5 := Lib.hid (HL4.out.trans (HB5.out.mono HL4.out.size))
      go_upto_region 15 with (fail)
      obtain ⟨w6, hw⟩ : ∃ z9 : World, z9 = w5.alloc (.cells #[.int .i64 rn, .int .i64 rd] 23) := ⟨_, rfl⟩
      have HB6 := Lib.hid (show Below w5.heap.size w5 w6 by rw [hw]; exact below_a1 _ _)
      have F6v := Lib.hid (show Blk w6 w5.heap.size 23 #[.int .i64 rn, .int .i64 rd] by rw [hw]; exact Blk.new _ _ _)
      rw [← hw]
      clear hw
      have F6x := Lib.hid (F5x.out.belowW HB6.out)
      have F6kx := Lib.hid (F5kx.out.belowW HB6.out)
      have F6r := Lib.hid (F5r.out.belowW HB6.out)
      have HL6 := Lib.hid (HL5.out.trans (HB6.out.mono HL5.out.size))
      clear pkx0 fkx0 pkx1 fkx1 pkx2 fkx2 pr0 fr0 pr1 fr1
      have pr0 : (w6).cell? ⟨w.heap.size + 1, 0, none⟩ = some (.int .i64 0) := F6r.out.cell 0
      have fr0 : (w6).frozen? ⟨w.heap.size + 1, 0, none⟩ = false := F6r.out.frozen 0
      have pr1 : (w6).cell? ⟨w.heap.size + 1, 1, none⟩ = some (.int .i64 0) := F6r.out.cell 1
      have fr1 : (w6).frozen? ⟨w.heap.size + 1, 1, none⟩ = false := F6r.out.frozen 1
      have pv0 : (w6).cell? ⟨w5.heap.size, 0, none⟩ = some (.int .i64 rn) := F6v.out.cell 0
      have fv0 : (w6).frozen? ⟨w5.heap.size, 0, none⟩ = false := F6v.out.frozen 0
      have pv1 : (w6).cell? ⟨w5.heap.size, 1, none⟩ = some (.int .i64 rd) := F6v.out.cell 1
      have fv1 : (w6).frozen? ⟨w5.heap.size, 1, none⟩ = false := F6v.out.frozen 1
      go_wp2_with fail
      refine bodyPost_ret (v := .tuple #[.agg #[.int .i64 rn, .int .i64 rd], .bool (re == 0)]) (by simp [results, Tryz.results41, go_sem, pr0, pr1]) rfl ?_
      rw [HR.out]
      exact ⟨rfl, Lib.hid (store2_below HL6.out F6r.out _ _ (by omega))⟩
  · have HLM := Lib.hid (limbs_short (k := x.k) (by rw [HBB.out]; omega) hz)
    obtain rfl : m = 1 := by rw [← HLN.out, HLM.out]; rfl
    obtain ⟨b, off, y, hA, hb0, hy, hyB, hcell⟩ := HX.out.at_ (i := 0) (by omega)
    subst hA
    rw [HLM.out] at hy
    obtain rfl : x.k = y := by simpa using hy
    unfold BB at hyB
    rw [Nat.add_zero] at hcell
    clear hz hy
    go_enter Tryz.func41, Tryz.ntmps41
    go_wp2_with fail
    obtain ⟨w1, hw⟩ : ∃ z9 : World, z9 = ((w.alloc (.cells #[.bool x.neg, .slice (some ⟨b, off, none⟩) 1 c, .int .i64 x.e] 28)).alloc (.cells #[.int .i64 0, .int .i64 0] 23)) := ⟨_, rfl⟩
    have HB1 := Lib.hid (show Below w.heap.size w w1 by rw [hw]; exact below_a2 _ _ _)
    have F1x := Lib.hid (HX.out.belowW HB1.out)
    have F1kx := Lib.hid (show Blk w1 (w.heap.size) 28 #[.bool x.neg, .slice (some ⟨b, off, none⟩) 1 c, .int .i64 x.e] by rw [hw]; exact (Blk.new _ _ _).alloc _)
    have F1r := Lib.hid (show Blk w1 (w.heap.size + 1) 23 #[.int .i64 0, .int .i64 0] by rw [hw]; exact Blk.new1 _ _ _ _)
    rw [← hw]
    clear hw
    have pkx0 : (w1).cell? ⟨w.heap.size, 0, none⟩ = some (.bool x.neg) := F1kx.out.cell 0
    have fkx0 : (w1).frozen? ⟨w.heap.size, 0, none⟩ = false := F1kx.out.frozen 0
    have pkx1 : (w1).cell? ⟨w.heap.size, 1, none⟩ = some (.slice (some ⟨b, off, none⟩) 1 c) := F1kx.out.cell 1
    have fkx1 : (w1).frozen? ⟨w.heap.size, 1, none⟩ = false := F1kx.out.frozen 1
    have pkx2 : (w1).cell? ⟨w.heap.size, 2, none⟩ = some (.int .i64 x.e) := F1kx.out.cell 2
    have fkx2 : (w1).frozen? ⟨w.heap.size, 2, none⟩ = false := F1kx.out.frozen 2
    have pr0 : (w1).cell? ⟨w.heap.size + 1, 0, none⟩ = some (.int .i64 0) := F1r.out.cell 0
    have fr0 : (w1).frozen? ⟨w.heap.size + 1, 0, none⟩ = false := F1r.out.frozen 0
    have pr1 : (w1).cell? ⟨w.heap.size + 1, 1, none⟩ = some (.int .i64 0) := F1r.out.cell 1
    have fr1 : (w1).frozen? ⟨w.heap.size + 1, 1, none⟩ = false := F1r.out.frozen 1
    go_wp2_with fail
    refine (valid_yes x (some ⟨b, off, none⟩) 1 c w1 F1x.out VX.out).mono ?_
    rintro e w2 ⟨rfl, HB2⟩
    have F2x := Lib.hid (F1x.out.belowW HB2.out)
    have F2kx := Lib.hid (F1kx.out.belowW HB2.out)
    have F2r := Lib.hid (F1r.out.belowW HB2.out)
    have HL2 := Lib.hid (HB1.out.trans (HB2.out.mono HB1.out.size))
    clear pkx0 fkx0 pkx1 fkx1 pkx2 fkx2 pr0 fr0 pr1 fr1
    have pkx0 : (w2).cell? ⟨w.heap.size, 0, none⟩ = some (.bool x.neg) := F2kx.out.cell 0
    have fkx0 : (w2).frozen? ⟨w.heap.size, 0, none⟩ = false := F2kx.out.frozen 0
    have pkx1 : (w2).cell? ⟨w.heap.size, 1, none⟩ = some (.slice (some ⟨b, off, none⟩) 1 c) := F2kx.out.cell 1
    have fkx1 : (w2).frozen? ⟨w.heap.size, 1, none⟩ = false := F2kx.out.frozen 1
    have pkx2 : (w2).cell? ⟨w.heap.size, 2, none⟩ = some (.int .i64 x.e) := F2kx.out.cell 2
    have fkx2 : (w2).frozen? ⟨w.heap.size, 2, none⟩ = false := F2kx.out.frozen 2
    have pr0 : (w2).cell? ⟨w.heap.size + 1, 0, none⟩ = some (.int .i64 0) := F2r.out.cell 0
    have fr0 : (w2).frozen? ⟨w.heap.size + 1, 0, none⟩ = false := F2r.out.frozen 0
    have pr1 : (w2).cell? ⟨w.heap.size + 1, 1, none⟩ = some (.int .i64 0) := F2r.out.cell 1
    have fr1 : (w2).frozen? ⟨w.heap.size + 1, 1, none⟩ = false := F2r.out.frozen 1
    go_wp2_with fail
    refine (dbits_any x (some ⟨b, off, none⟩) 1 c w2 F2x.out VX.out).mono ?_
    rw [HBB.out]
    rintro e w3 ⟨rfl, HB3⟩
    have F3x := Lib.hid (F2x.out.belowW HB3.out)
    have F3kx := Lib.hid (F2kx.out.belowW HB3.out)
    have F3r := Lib.hid (F2r.out.belowW HB3.out)
    have HL3 := Lib.hid (HL2.out.trans (HB3.out.mono HL2.out.size))
    clear pkx0 fkx0 pkx1 fkx1 pkx2 fkx2 pr0 fr0 pr1 fr1
    have pkx0 : (w3).cell? ⟨w.heap.size, 0, none⟩ = some (.bool x.neg) := F3kx.out.cell 0
    have fkx0 : (w3).frozen? ⟨w.heap.size, 0, none⟩ = false := F3kx.out.frozen 0
    have pkx1 : (w3).cell? ⟨w.heap.size, 1, none⟩ = some (.slice (some ⟨b, off, none⟩) 1 c) := F3kx.out.cell 1
    have fkx1 : (w3).frozen? ⟨w.heap.size, 1, none⟩ = false := F3kx.out.frozen 1
    have pkx2 : (w3).cell? ⟨w.heap.size, 2, none⟩ = some (.int .i64 x.e) := F3kx.out.cell 2
    have fkx2 : (w3).frozen? ⟨w.heap.size, 2, none⟩ = false := F3kx.out.frozen 2
    have pr0 : (w3).cell? ⟨w.heap.size + 1, 0, none⟩ = some (.int .i64 0) := F3r.out.cell 0
    have fr0 : (w3).frozen? ⟨w.heap.size + 1, 0, none⟩ = false := F3r.out.frozen 0
    have pr1 : (w3).cell? ⟨w.heap.size + 1, 1, none⟩ = some (.int .i64 0) := F3r.out.cell 1
    have fr1 : (w3).frozen? ⟨w.heap.size + 1, 1, none⟩ = false := F3r.out.frozen 1
    go_wp2_with fail
    refine (top_all x (some ⟨b, off, none⟩) 1 c w3 F3x.out VX.out).mono ?_
    rw [HTT.out]
    rintro e w4 ⟨rfl, HB4⟩
    have F4x := Lib.hid (F3x.out.belowW HB4.out)
    have F4kx := Lib.hid (F3kx.out.belowW HB4.out)
    have F4r := Lib.hid (F3r.out.belowW HB4.out)
    have HL4 := Lib.hid (HL3.out.trans (HB4.out.mono HL3.out.size))
    clear pkx0 fkx0 pkx1 fkx1 pkx2 fkx2 pr0 fr0 pr1 fr1
    have pkx0 : (w4).cell? ⟨w.heap.size, 0, none⟩ = some (.bool x.neg) := F4kx.out.cell 0
    have fkx0 : (w4).frozen? ⟨w.heap.size, 0, none⟩ = false := F4kx.out.frozen 0
    have pkx1 : (w4).cell? ⟨w.heap.size, 1, none⟩ = some (.slice (some ⟨b, off, none⟩) 1 c) := F4kx.out.cell 1
    have fkx1 : (w4).frozen? ⟨w.heap.size, 1, none⟩ = false := F4kx.out.frozen 1
    have pkx2 : (w4).cell? ⟨w.heap.size, 2, none⟩ = some (.int .i64 x.e) := F4kx.out.cell 2
    have fkx2 : (w4).frozen? ⟨w.heap.size, 2, none⟩ = false := F4kx.out.frozen 2
    have pr0 : (w4).cell? ⟨w.heap.size + 1, 0, none⟩ = some (.int .i64 0) := F4r.out.cell 0
    have fr0 : (w4).frozen? ⟨w.heap.size + 1, 0, none⟩ = false := F4r.out.frozen 0
    have pr1 : (w4).cell? ⟨w.heap.size + 1, 1, none⟩ = some (.int .i64 0) := F4r.out.cell 1
    have fr1 : (w4).frozen? ⟨w.heap.size + 1, 1, none⟩ = false := F4r.out.frozen 1
    have hc : w4.cell? ⟨b, off, none⟩ = some (.int .u32 (x.k : Int)) := HL4.out.cell (p := ⟨b, off, none⟩) hb0 ▸ hcell
    go_wp2_with fail
    go_loop [4, 31] (fun v i => (v = .int .i64 0 ∧ i = .int .i64 0) ∨ (v = .int .i64 (x.k : Int) ∧ i = .int .i64 1)) (fun _ i => 1 - (intOf i).toNat)
    case atStart => exact .inl ⟨rfl, rfl⟩
    case round =>
      rcases hrel with ⟨rfl, rfl⟩ | ⟨rfl, rfl⟩
      · have hor : bits .or .i64 0 (x.k : Int) = (x.k : Int) := or_zero x.k hyB
        go_wp2_with fail
        refine ⟨.inr ⟨rfl, rfl⟩, ?_⟩
        simp [intOf]
      by_cases he0 : 0 ≤ x.e
      · have de : decide (0 ≤ x.e) = true := decide_eq_true he0
        obtain rfl : K = 1 := by rw [← hK, show (-x.e).toNat = 0 by omega, Nat.pow_zero]
        cases hng : x.neg with
        | true =>
          have em : wrap64 (-(x.k : Int) * 2 ^ x.e.toNat) = M := by rw [← hM, hng]; exact wrap64_in (by have := M1; rw [← hM, hng] at this; exact this)
          have HM2 := Lib.hid (show make M 1 = (rn, rd, re) from HMK.out)
          rw [hng] at pkx0
          clear hM hK hng
          go_wp2_with fail
          refine (make_q M 1 w4 (by omega) (by omega) (by omega) (by omega)).mono ?_
          rw [HM2.out]
          rintro e w5 ⟨rfl, HB5⟩
          have F5x := Lib.hid (F4x.out.belowW HB5.out)
          have F5kx := Lib.hid (F4kx.out.belowW HB5.out)
          have F5r := Lib.hid (F4r.out.belowW HB5.out)
          have HL5 := Lib.hid (HL4.out.trans (HB5.out.mono HL4.out.size))
          go_upto_region 15 with (fail)
          obtain ⟨w6, hw⟩ : ∃ z9 : World, z9 = w5.alloc (.cells #[.int .i64 rn, .int .i64 rd] 23) := ⟨_, rfl⟩
          have HB6 := Lib.hid (show Below w5.heap.size w5 w6 by rw [hw]; exact below_a1 _ _)
          have F6v := Lib.hid (show Blk w6 w5.heap.size 23 #[.int .i64 rn, .int .i64 rd] by rw [hw]; exact Blk.new _ _ _)
          rw [← hw]
          clear hw
          have F6x := Lib.hid (F5x.out.belowW HB6.out)
          have F6kx := Lib.hid (F5kx.out.belowW HB6.out)
          have F6r := Lib.hid (F5r.out.belowW HB6.out)
          have HL6 := Lib.hid (HL5.out.trans (HB6.out.mono HL5.out.size))
          clear pkx0 fkx0 pkx1 fkx1 pkx2 fkx2 pr0 fr0 pr1 fr1
          have pr0 : (w6).cell? ⟨w.heap.size + 1, 0, none⟩ = some (.int .i64 0) := F6r.out.cell 0
          have fr0 : (w6).frozen? ⟨w.heap.size + 1, 0, none⟩ = false := F6r.out.frozen 0
          have pr1 : (w6).cell? ⟨w.heap.size + 1, 1, none⟩ = some (.int .i64 0) := F6r.out.cell 1
          have fr1 : (w6).frozen? ⟨w.heap.size + 1, 1, none⟩ = false := F6r.out.frozen 1
          have pv0 : (w6).cell? ⟨w5.heap.size, 0, none⟩ = some (.int .i64 rn) := F6v.out.cell 0
          have fv0 : (w6).frozen? ⟨w5.heap.size, 0, none⟩ = false := F6v.out.frozen 0
          have pv1 : (w6).cell? ⟨w5.heap.size, 1, none⟩ = some (.int .i64 rd) := F6v.out.cell 1
          have fv1 : (w6).frozen? ⟨w5.heap.size, 1, none⟩ = false := F6v.out.frozen 1
          go_wp2_with fail
          refine bodyPost_ret (v := .tuple #[.agg #[.int .i64 rn, .int .i64 rd], .bool (re == 0)]) (by simp [results, Tryz.results41, go_sem, pr0, pr1]) rfl ?_
          rw [HR.out]
          exact ⟨rfl, Lib.hid (store2_below HL6.out F6r.out _ _ (by omega))⟩
        | false =>
          have em : wrap64 ((x.k : Int) * 2 ^ x.e.toNat) = M := by rw [← hM, hng]; exact wrap64_in (by have := M1; rw [← hM, hng] at this; exact this)
          have HM2 := Lib.hid (show make M 1 = (rn, rd, re) from HMK.out)
          rw [hng] at pkx0
          clear hM hK hng
          go_wp2_with fail
          refine (make_q M 1 w4 (by omega) (by omega) (by omega) (by omega)).mono ?_
          rw [HM2.out]
          rintro e w5 ⟨rfl, HB5⟩
          have F5x := Lib.hid (F4x.out.belowW HB5.out)
          have F5kx := Lib.hid (F4kx.out.belowW HB5.out)
          have F5r := Lib.hid (F4r.out.belowW HB5.out)
          have HL5 := Lib.hid (HL4.out.trans (HB5.out.mono HL4.out.size))
          go_upto_region 15 with (fail)
          obtain ⟨w6, hw⟩ : ∃ z9 : World, z9 = w5.alloc (.cells #[.int .i64 rn, .int .i64 rd] 23) := ⟨_, rfl⟩
          have HB6 := Lib.hid (show Below w5.heap.size w5 w6 by rw [hw]; exact below_a1 _ _)
          have F6v := Lib.hid (show Blk w6 w5.heap.size 23 #[.int .i64 rn, .int .i64 rd] by rw [hw]; exact Blk.new _ _ _)
          rw [← hw]
          clear hw
          have F6x := Lib.hid (F5x.out.belowW HB6.out)
          have F6kx := Lib.hid (F5kx.out.belowW HB6.out)
          have F6r := Lib.hid (F5r.out.belowW HB6.out)
          have HL6 := Lib.hid (HL5.out.trans (HB6.out.mono HL5.out.size))
          clear pkx0 fkx0 pkx1 fkx1 pkx2 fkx2 pr0 fr0 pr1 fr1
          have pr0 : (w6).cell? ⟨w.heap.size + 1, 0, none⟩ = some (.int .i64 0) := F6r.out.cell 0
          have fr0 : (w6).frozen? ⟨w.heap.size + 1, 0, none⟩ = false := F6r.out.frozen 0
          have pr1 : (w6).cell? ⟨w.heap.size + 1, 1, none⟩ = some (.int .i64 0) := F6r.out.cell 1
          have fr1 : (w6).frozen? ⟨w.heap.size + 1, 1, none⟩ = false := F6r.out.frozen 1
          have pv0 : (w6).cell? ⟨w5.heap.size, 0, none⟩ = some (.int .i64 rn) := F6v.out.cell 0
          have fv0 : (w6).frozen? ⟨w5.heap.size, 0, none⟩ = false := F6v.out.frozen 0
          have pv1 : (w6).cell? ⟨w5.heap.size, 1, none⟩ = some (.int .i64 rd) := F6v.out.cell 1
          have fv1 : (w6).frozen? ⟨w5.heap.size, 1, none⟩ = false := F6v.out.frozen 1
          go_wp2_with fail
          refine bodyPost_ret (v := .tuple #[.agg #[.int .i64 rn, .int .i64 rd], .bool (re == 0)]) (by simp [results, Tryz.results41, go_sem, pr0, pr1]) rfl ?_
          rw [HR.out]
          exact ⟨rfl, Lib.hid (store2_below HL6.out F6r.out _ _ (by omega))⟩
      · have de : decide (0 ≤ x.e) = false := decide_eq_false he0
        have ek : wrap64 (2 ^ (-x.e).toNat) = (K : Int) := by rw [← wrap64_nat K (by omega), ← hK, Int.natCast_pow]; rfl
        have ek3 : 0 ≤ -x.e := by omega
        have ek2 : IntKind.i64.wrap (-x.e) = -x.e := IntWalk.i64_in _ (by omega)
        cases hng : x.neg with
        | true =>
          have HM2 := Lib.hid (show make (-(x.k : Int)) K = (rn, rd, re) by rw [← HMK.out, ← hM, hng, show x.e.toNat = 0 by omega]; simp)
          rw [hng] at pkx0
          clear hM hK hng
          go_wp2_with fail
          refine (make_q (-(x.k : Int)) K w4 (by omega) (by omega) (by omega) (by omega)).mono ?_
          rw [HM2.out]
          rintro e w5 ⟨rfl, HB5⟩
          have F5x := Lib.hid (F4x.out.belowW HB5.out)
          have F5kx := Lib.hid (F4kx.out.belowW HB5.out)
          have F5r := Lib.hid (F4r.out.belowW HB5.out)
          have HL5 := Lib.hid (HL4.out.trans (HB5.out.mono HL4.out.size))
          go_upto_region 15 with (fail)
          obtain ⟨w6, hw⟩ : ∃ z9 : World, z9 = w5.alloc (.cells #[.int .i64 rn, .int .i64 rd] 23) := ⟨_, rfl⟩
          have HB6 := Lib.hid (show Below w5.heap.size w5 w6 by rw [hw]; exact below_a1 _ _)
          have F6v := Lib.hid (show Blk w6 w5.heap.size 23 #[.int .i64 rn, .int .i64 rd] by rw [hw]; exact Blk.new _ _ _)
          rw [← hw]
          clear hw
          have F6x := Lib.hid (F5x.out.belowW HB6.out)
          have F6kx := Lib.hid (F5kx.out.belowW HB6.out)
          have F6r := Lib.hid (F5r.out.belowW HB6.out)
          have HL6 := Lib.hid (HL5.out.trans (HB6.out.mono HL5.out.size))
          clear pkx0 fkx0 pkx1 fkx1 pkx2 fkx2 pr0 fr0 pr1 fr1
          have pr0 : (w6).cell? ⟨w.heap.size + 1, 0, none⟩ = some (.int .i64 0) := F6r.out.cell 0
          have fr0 : (w6).frozen? ⟨w.heap.size + 1, 0, none⟩ = false := F6r.out.frozen 0
          have pr1 : (w6).cell? ⟨w.heap.size + 1, 1, none⟩ = some (.int .i64 0) := F6r.out.cell 1
          have fr1 : (w6).frozen? ⟨w.heap.size + 1, 1, none⟩ = false := F6r.out.frozen 1
          have pv0 : (w6).cell? ⟨w5.heap.size, 0, none⟩ = some (.int .i64 rn) := F6v.out.cell 0
          have fv0 : (w6).frozen? ⟨w5.heap.size, 0, none⟩ = false := F6v.out.frozen 0
          have pv1 : (w6).cell? ⟨w5.heap.size, 1, none⟩ = some (.int .i64 rd) := F6v.out.cell 1
          have fv1 : (w6).frozen? ⟨w5.heap.size, 1, none⟩ = false := F6v.out.frozen 1
          go_wp2_with fail
          refine bodyPost_ret (v := .tuple #[.agg #[.int .i64 rn, .int .i64 rd], .bool (re == 0)]) (by simp [results, Tryz.results41, go_sem, pr0, pr1]) rfl ?_
          rw [HR.out]
          exact ⟨rfl, Lib.hid (store2_below HL6.out F6r.out _ _ (by omega))⟩
        | false =>
          have HM2 := Lib.hid (show make ((x.k : Int)) K = (rn, rd, re) by rw [← HMK.out, ← hM, hng, show x.e.toNat = 0 by omega]; simp)
          rw [hng] at pkx0
          clear hM hK hng
          go_wp2_with fail
          refine (make_q ((x.k : Int)) K w4 (by omega) (by omega) (by omega) (by omega)).mono ?_
          rw [HM2.out]
          rintro e w5 ⟨rfl, HB5⟩
          have F5x := Lib.hid (F4x.out.belowW HB5.out)
          have F5kx := Lib.hid (F4kx.out.belowW HB5.out)
          have F5r := Lib.hid (F4r.out.belowW HB5.out)
          have HL5 := Lib.hid (HL4.out.trans (HB5.out.mono HL4.out.size))
          go_upto_region 15 with (fail)
          obtain ⟨w6, hw⟩ : ∃ z9 : World, z9 = w5.alloc (.cells #[.int .i64 rn, .int .i64 rd] 23) := ⟨_, rfl⟩
          have HB6 := Lib.hid (show Below w5.heap.size w5 w6 by rw [hw]; exact below_a1 _ _)
          have F6v := Lib.hid (show Blk w6 w5.heap.size 23 #[.int .i64 rn, .int .i64 rd] by rw [hw]; exact Blk.new _ _ _)
          rw [← hw]
          clear hw
          have F6x := Lib.hid (F5x.out.belowW HB6.out)
          have F6kx := Lib.hid (F5kx.out.belowW HB6.out)
          have F6r := Lib.hid (F5r.out.belowW HB6.out)
          have HL6 := Lib.hid (HL5.out.trans (HB6.out.mono HL5.out.size))
          clear pkx0 fkx0 pkx1 fkx1 pkx2 fkx2 pr0 fr0 pr1 fr1
          have pr0 : (w6).cell? ⟨w.heap.size + 1, 0, none⟩ = some (.int .i64 0) := F6r.out.cell 0
          have fr0 : (w6).frozen? ⟨w.heap.size + 1, 0, none⟩ = false := F6r.out.frozen 0
          have pr1 : (w6).cell? ⟨w.heap.size + 1, 1, none⟩ = some (.int .i64 0) := F6r.out.cell 1
          have fr1 : (w6).frozen? ⟨w.heap.size + 1, 1, none⟩ = false := F6r.out.frozen 1
          have pv0 : (w6).cell? ⟨w5.heap.size, 0, none⟩ = some (.int .i64 rn) := F6v.out.cell 0
          have fv0 : (w6).frozen? ⟨w5.heap.size, 0, none⟩ = false := F6v.out.frozen 0
          have pv1 : (w6).cell? ⟨w5.heap.size, 1, none⟩ = some (.int .i64 rd) := F6v.out.cell 1
          have fv1 : (w6).frozen? ⟨w5.heap.size, 1, none⟩ = false := F6v.out.frozen 1
          go_wp2_with fail
          refine bodyPost_ret (v := .tuple #[.agg #[.int .i64 rn, .int .i64 rd], .bool (re == 0)]) (by simp [results, Tryz.results41, go_sem, pr0, pr1]) rfl ?_
          rw [HR.out]
          exact ⟨rfl, Lib.hid (store2_below HL6.out F6r.out _ _ (by omega))⟩

theorem of_any (ng : Bool) (A : Option Addr) (m c : Nat) (ex : Int) (l : List Nat) (w : World) (hx : Sl w A m c l) :
    Calls Tryz.prog 41 #[.agg #[.bool ng, .slice A m c, .int .i64 ex]] w (RtB (ofD ng l ex) w) := by
  cases hv : vldL ng l ex with
  | false =>
    have e : ofD ng l ex = (0, 0, false) := by unfold ofD; rw [hv]; rfl
    rw [e]
    exact of_no ng A m c ex l w hx hv
  | true =>
    have e : ofD ng l ex = ofV ⟨ng, val l, ex⟩ := by unfold ofD; rw [hv]; rfl
    rw [e]
    obtain ⟨h1, h2⟩ := vldL_iff.1 hv
    rw [h1] at hx
    exact of_yes ⟨ng, val l, ex⟩ A m c w hx h2
end Go.Proofs.YtnogfceojmnjiaaGreatDoor
