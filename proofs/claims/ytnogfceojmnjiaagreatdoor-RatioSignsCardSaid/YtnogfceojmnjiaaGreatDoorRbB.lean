/-
  The walk of the law RatioSigns.
-/
import Derived.Test.YtnogfceojmnjiaaGreatDoorRaF
import Derived.Test.YtnogfceojmnjiaaGreatDoorRaT
import Derived.Test.YtnogfceojmnjiaaGreatDoorRbA
set_option linter.unusedVariables false
namespace Go.Fl.Dy
open Go.Fl.Nm Go.Fl.Rt
theorem vB_neg (n d : Int) : vB (-n) d = vB n d := by
  unfold vB
  rw [decide_eq_decide]
  unfold valid
  rw [Int.natAbs_neg]
  omega
theorem iv_neg {x : D} (h : vld x) : iv (negD x) = -iv x := by
  unfold negD
  split
  · rename_i h0
    unfold iv
    rw [mg_zero h0]
    simp [mg]
  · unfold iv mg
    cases x.neg <;> simp
theorem cmpRD_neg {n d : Int} {x : D} (hd : 0 < d) (hx : vld x) : cmpRD (-n) d (negD x) = -cmpRD n d x := by
  rw [cmpRD_eq hd hx, cmpRD_eq hd (negD_vld hx), iv_neg hx, Int.neg_mul, Int.neg_mul, cmpI_neg]
theorem iv_eq {x : D} (h : vld x) : iv x = (if x.neg then -(x.k : Int) else x.k) * ((2 ^ (x.e + ZE).toNat : Nat) : Int) := by
  unfold iv mg
  cases x.neg
  · simp only [Bool.false_eq_true, if_false]; rw [Int.natCast_mul]
  · simp only [if_true]; rw [Int.natCast_mul, Int.neg_mul]
theorem of_val {x : D} {a b : Int} (hx : vld x) (h : ofV x = (a, b, true)) : valid a b ∧ iv x * b = a * Z16 := by
  unfold ofV at h
  split at h
  · simp only [Prod.mk.injEq, decide_eq_true_eq] at h
    obtain ⟨h1, h2, h3⟩ := h
    have hm : make ((if x.neg then -(x.k : Int) else x.k) * 2 ^ x.e.toNat) (2 ^ (-x.e).toNat) = (a, b, 0) := by rw [← h1, ← h2, ← h3]
    obtain ⟨v, hK, hc⟩ := make_ok hm
    refine ⟨v, ?_⟩
    have he := vld_e hx
    have hp : (x.e + ZE).toNat + (-x.e).toNat = x.e.toNat + ZE := by rw [ZE_eq]; omega
    have e1 : iv x * 2 ^ (-x.e).toNat = (if x.neg then -(x.k : Int) else x.k) * 2 ^ x.e.toNat * Z16 := by
      rw [iv_eq hx]
      have e2 : ((2 ^ (x.e + ZE).toNat : Nat) : Int) * 2 ^ (-x.e).toNat = 2 ^ x.e.toNat * (Z16 : Int) := by
        have e3 : 2 ^ (x.e + ZE).toNat * 2 ^ (-x.e).toNat = 2 ^ x.e.toNat * Z16 := by unfold Z16; rw [← Nat.pow_add, ← Nat.pow_add, hp]
        have e4 := congrArg (fun z : Nat => (z : Int)) e3
        simp only [Int.natCast_mul] at e4
        rw [show ((2 ^ (-x.e).toNat : Nat) : Int) = 2 ^ (-x.e).toNat by rw [Int.natCast_pow]; rfl, show ((2 ^ x.e.toNat : Nat) : Int) = 2 ^ x.e.toNat by rw [Int.natCast_pow]; rfl] at e4
        exact e4
      rw [Int.mul_assoc, e2, Int.mul_assoc]
    generalize (if x.neg then -(x.k : Int) else x.k) * 2 ^ x.e.toNat = M at *
    generalize ((2 : Int) ^ (-x.e).toNat) = K at *
    have e5 : (iv x * b) * K = (a * Z16) * K := by
      rw [Int.mul_right_comm, e1, Int.mul_right_comm, hc, Int.mul_right_comm]
    exact Int.eq_of_mul_eq_mul_right hK e5
  · simp at h
theorem of_cmp {n d a b : Int} {x : D} (hx : vld x) (hv : vB n d = true) (h : ofV x = (a, b, true)) : cmpE n d a b = cmpRD n d x := by
  obtain ⟨v, e⟩ := of_val hx h
  have vd := vB_bd hv
  have hb := valid_pos v
  rw [cmpRD_eq (by omega) hx]
  unfold cmpE
  rw [hv, vB_iff.2 v]
  show cmpR n d a b = _
  have h1 : cmpR n d a b = cmpI (n * b) (a * d) := rfl
  rw [h1, ← cmpI_mul (c := (Z16 : Int)) (by have := Z16_pos; omega), ← cmpI_mul (a := n * Z16) (c := b) hb]
  congr 1
  · rw [Int.mul_right_comm]
  · rw [Int.mul_right_comm a, ← e, Int.mul_right_comm]
end Go.Fl.Dy
namespace Go.Proofs.YtnogfceojmnjiaaGreatDoor
open Go.RowKit Go.Fl Go.Fl.Nm Go.Fl.Dy Go.Fl.Rt

set_option maxHeartbeats 2000000 in
theorem signs_out (an ad : Int) (ng : Bool) (A : Option Addr) (m c : Nat) (ex : Int) (l : List Nat) (w : World) (hT : RX w) (a1 : -9223372036854775808 ≤ an) (a2 : an ≤ 9223372036854775807) (a3 : -9223372036854775808 ≤ ad) (a4 : ad ≤ 9223372036854775807) (hx : Sl w A m c l) (hv : 130 < m ∨ vldL ng l ex = false ∨ vB an ad = false) :
    Calls Tryz.prog 10 #[.agg #[.int .i64 an, .int .i64 ad], .agg #[.bool ng, .slice A m c, .int .i64 ex]] w (Awk w) := by
  have HT := Lib.hid hT
  have HX := Lib.hid hx
  have hmx := hx.max
  unfold maxLen at hmx
  clear hT hx
  by_cases h1 : 130 < m
  · have d1 : decide (130 < (m : Int)) = true := decide_eq_true (by omega)
    clear hv
    go_enter Tryz.func10, Tryz.ntmps10
    go_wp2_with fail
    obtain ⟨w1, hw⟩ : ∃ z9 : World, z9 = ((w.alloc (.cells #[.int .i64 an, .int .i64 ad] 23)).alloc (.cells #[.bool ng, .slice A m c, .int .i64 ex] 28)) := ⟨_, rfl⟩
    have HB1 := Lib.hid (show Below w.heap.size w w1 by rw [hw]; exact below_a2 _ _ _)
    have F1t := Lib.hid (HT.out.belowW HB1.out)
    have F1x := Lib.hid (HX.out.belowW HB1.out)
    have F1ka := Lib.hid (show Blk w1 (w.heap.size) 23 #[.int .i64 an, .int .i64 ad] by rw [hw]; exact (Blk.new _ _ _).alloc _)
    have F1kx := Lib.hid (show Blk w1 (w.heap.size + 1) 28 #[.bool ng, .slice A m c, .int .i64 ex] by rw [hw]; exact Blk.new1 _ _ _ _)
    rw [← hw]
    clear hw
    refine (awake_any w1 F1t.out).mono ?_
    rintro e w2 ⟨rfl, HB2⟩
    have F2t := Lib.hid (F1t.out.belowW HB2.out)
    have F2x := Lib.hid (F1x.out.belowW HB2.out)
    have F2ka := Lib.hid (F1ka.out.belowW HB2.out)
    have F2kx := Lib.hid (F1kx.out.belowW HB2.out)
    have HL2 := Lib.hid (HB1.out.trans (HB2.out.mono HB1.out.size))
    have pka0 : (w2).cell? ⟨w.heap.size, 0, none⟩ = some (.int .i64 an) := F2ka.out.cell 0
    have fka0 : (w2).frozen? ⟨w.heap.size, 0, none⟩ = false := F2ka.out.frozen 0
    have pka1 : (w2).cell? ⟨w.heap.size, 1, none⟩ = some (.int .i64 ad) := F2ka.out.cell 1
    have fka1 : (w2).frozen? ⟨w.heap.size, 1, none⟩ = false := F2ka.out.frozen 1
    have pkx0 : (w2).cell? ⟨w.heap.size + 1, 0, none⟩ = some (.bool ng) := F2kx.out.cell 0
    have fkx0 : (w2).frozen? ⟨w.heap.size + 1, 0, none⟩ = false := F2kx.out.frozen 0
    have pkx1 : (w2).cell? ⟨w.heap.size + 1, 1, none⟩ = some (.slice A m c) := F2kx.out.cell 1
    have fkx1 : (w2).frozen? ⟨w.heap.size + 1, 1, none⟩ = false := F2kx.out.frozen 1
    have pkx2 : (w2).cell? ⟨w.heap.size + 1, 2, none⟩ = some (.int .i64 ex) := F2kx.out.cell 2
    have fkx2 : (w2).frozen? ⟨w.heap.size + 1, 2, none⟩ = false := F2kx.out.frozen 2
    go_wp2_with fail
    go_ret
    exact ⟨rfl, HL2⟩
  · have d1 : decide (130 < (m : Int)) = false := decide_eq_false (by omega)
    cases h2 : vldL ng l ex with
    | false =>
      have VX := Lib.hid h2
      clear hv h2 h1
      go_enter Tryz.func10, Tryz.ntmps10
      go_wp2_with fail
      obtain ⟨w1, hw⟩ : ∃ z9 : World, z9 = ((w.alloc (.cells #[.int .i64 an, .int .i64 ad] 23)).alloc (.cells #[.bool ng, .slice A m c, .int .i64 ex] 28)) := ⟨_, rfl⟩
      have HB1 := Lib.hid (show Below w.heap.size w w1 by rw [hw]; exact below_a2 _ _ _)
      have F1t := Lib.hid (HT.out.belowW HB1.out)
      have F1x := Lib.hid (HX.out.belowW HB1.out)
      have F1ka := Lib.hid (show Blk w1 (w.heap.size) 23 #[.int .i64 an, .int .i64 ad] by rw [hw]; exact (Blk.new _ _ _).alloc _)
      have F1kx := Lib.hid (show Blk w1 (w.heap.size + 1) 28 #[.bool ng, .slice A m c, .int .i64 ex] by rw [hw]; exact Blk.new1 _ _ _ _)
      rw [← hw]
      clear hw
      refine (awake_any w1 F1t.out).mono ?_
      rintro e w2 ⟨rfl, HB2⟩
      have F2t := Lib.hid (F1t.out.belowW HB2.out)
      have F2x := Lib.hid (F1x.out.belowW HB2.out)
      have F2ka := Lib.hid (F1ka.out.belowW HB2.out)
      have F2kx := Lib.hid (F1kx.out.belowW HB2.out)
      have HL2 := Lib.hid (HB1.out.trans (HB2.out.mono HB1.out.size))
      have pka0 : (w2).cell? ⟨w.heap.size, 0, none⟩ = some (.int .i64 an) := F2ka.out.cell 0
      have fka0 : (w2).frozen? ⟨w.heap.size, 0, none⟩ = false := F2ka.out.frozen 0
      have pka1 : (w2).cell? ⟨w.heap.size, 1, none⟩ = some (.int .i64 ad) := F2ka.out.cell 1
      have fka1 : (w2).frozen? ⟨w.heap.size, 1, none⟩ = false := F2ka.out.frozen 1
      have pkx0 : (w2).cell? ⟨w.heap.size + 1, 0, none⟩ = some (.bool ng) := F2kx.out.cell 0
      have fkx0 : (w2).frozen? ⟨w.heap.size + 1, 0, none⟩ = false := F2kx.out.frozen 0
      have pkx1 : (w2).cell? ⟨w.heap.size + 1, 1, none⟩ = some (.slice A m c) := F2kx.out.cell 1
      have fkx1 : (w2).frozen? ⟨w.heap.size + 1, 1, none⟩ = false := F2kx.out.frozen 1
      have pkx2 : (w2).cell? ⟨w.heap.size + 1, 2, none⟩ = some (.int .i64 ex) := F2kx.out.cell 2
      have fkx2 : (w2).frozen? ⟨w.heap.size + 1, 2, none⟩ = false := F2kx.out.frozen 2
      go_wp2_with fail
      refine (valid02_any ng A m c ex l w2 F2x.out).mono ?_
      rw [VX.out]
      rintro e w3 ⟨rfl, HB3⟩
      have F3t := Lib.hid (F2t.out.belowW HB3.out)
      have F3x := Lib.hid (F2x.out.belowW HB3.out)
      have F3ka := Lib.hid (F2ka.out.belowW HB3.out)
      have F3kx := Lib.hid (F2kx.out.belowW HB3.out)
      have HL3 := Lib.hid (HL2.out.trans (HB3.out.mono HL2.out.size))
      clear pka0 fka0 pka1 fka1 pkx0 fkx0 pkx1 fkx1 pkx2 fkx2
      have pka0 : (w3).cell? ⟨w.heap.size, 0, none⟩ = some (.int .i64 an) := F3ka.out.cell 0
      have fka0 : (w3).frozen? ⟨w.heap.size, 0, none⟩ = false := F3ka.out.frozen 0
      have pka1 : (w3).cell? ⟨w.heap.size, 1, none⟩ = some (.int .i64 ad) := F3ka.out.cell 1
      have fka1 : (w3).frozen? ⟨w.heap.size, 1, none⟩ = false := F3ka.out.frozen 1
      have pkx0 : (w3).cell? ⟨w.heap.size + 1, 0, none⟩ = some (.bool ng) := F3kx.out.cell 0
      have fkx0 : (w3).frozen? ⟨w.heap.size + 1, 0, none⟩ = false := F3kx.out.frozen 0
      have pkx1 : (w3).cell? ⟨w.heap.size + 1, 1, none⟩ = some (.slice A m c) := F3kx.out.cell 1
      have fkx1 : (w3).frozen? ⟨w.heap.size + 1, 1, none⟩ = false := F3kx.out.frozen 1
      have pkx2 : (w3).cell? ⟨w.heap.size + 1, 2, none⟩ = some (.int .i64 ex) := F3kx.out.cell 2
      have fkx2 : (w3).frozen? ⟨w.heap.size + 1, 2, none⟩ = false := F3kx.out.frozen 2
      go_wp2_with fail
      go_ret
      exact ⟨rfl, HL3⟩
    | true =>
      have VX := Lib.hid h2
      have VA := Lib.hid (show vB an ad = false by rcases hv with h | h | h; (exact absurd h h1); (rw [h2] at h; cases h); exact h)
      clear hv h2 h1
      go_enter Tryz.func10, Tryz.ntmps10
      go_wp2_with fail
      obtain ⟨w1, hw⟩ : ∃ z9 : World, z9 = ((w.alloc (.cells #[.int .i64 an, .int .i64 ad] 23)).alloc (.cells #[.bool ng, .slice A m c, .int .i64 ex] 28)) := ⟨_, rfl⟩
      have HB1 := Lib.hid (show Below w.heap.size w w1 by rw [hw]; exact below_a2 _ _ _)
      have F1t := Lib.hid (HT.out.belowW HB1.out)
      have F1x := Lib.hid (HX.out.belowW HB1.out)
      have F1ka := Lib.hid (show Blk w1 (w.heap.size) 23 #[.int .i64 an, .int .i64 ad] by rw [hw]; exact (Blk.new _ _ _).alloc _)
      have F1kx := Lib.hid (show Blk w1 (w.heap.size + 1) 28 #[.bool ng, .slice A m c, .int .i64 ex] by rw [hw]; exact Blk.new1 _ _ _ _)
      rw [← hw]
      clear hw
      refine (awake_any w1 F1t.out).mono ?_
      rintro e w2 ⟨rfl, HB2⟩
      have F2t := Lib.hid (F1t.out.belowW HB2.out)
      have F2x := Lib.hid (F1x.out.belowW HB2.out)
      have F2ka := Lib.hid (F1ka.out.belowW HB2.out)
      have F2kx := Lib.hid (F1kx.out.belowW HB2.out)
      have HL2 := Lib.hid (HB1.out.trans (HB2.out.mono HB1.out.size))
      have pka0 : (w2).cell? ⟨w.heap.size, 0, none⟩ = some (.int .i64 an) := F2ka.out.cell 0
      have fka0 : (w2).frozen? ⟨w.heap.size, 0, none⟩ = false := F2ka.out.frozen 0
      have pka1 : (w2).cell? ⟨w.heap.size, 1, none⟩ = some (.int .i64 ad) := F2ka.out.cell 1
      have fka1 : (w2).frozen? ⟨w.heap.size, 1, none⟩ = false := F2ka.out.frozen 1
      have pkx0 : (w2).cell? ⟨w.heap.size + 1, 0, none⟩ = some (.bool ng) := F2kx.out.cell 0
      have fkx0 : (w2).frozen? ⟨w.heap.size + 1, 0, none⟩ = false := F2kx.out.frozen 0
      have pkx1 : (w2).cell? ⟨w.heap.size + 1, 1, none⟩ = some (.slice A m c) := F2kx.out.cell 1
      have fkx1 : (w2).frozen? ⟨w.heap.size + 1, 1, none⟩ = false := F2kx.out.frozen 1
      have pkx2 : (w2).cell? ⟨w.heap.size + 1, 2, none⟩ = some (.int .i64 ex) := F2kx.out.cell 2
      have fkx2 : (w2).frozen? ⟨w.heap.size + 1, 2, none⟩ = false := F2kx.out.frozen 2
      go_wp2_with fail
      refine (valid02_any ng A m c ex l w2 F2x.out).mono ?_
      rw [VX.out]
      rintro e w3 ⟨rfl, HB3⟩
      have F3t := Lib.hid (F2t.out.belowW HB3.out)
      have F3x := Lib.hid (F2x.out.belowW HB3.out)
      have F3ka := Lib.hid (F2ka.out.belowW HB3.out)
      have F3kx := Lib.hid (F2kx.out.belowW HB3.out)
      have HL3 := Lib.hid (HL2.out.trans (HB3.out.mono HL2.out.size))
      clear pka0 fka0 pka1 fka1 pkx0 fkx0 pkx1 fkx1 pkx2 fkx2
      have pka0 : (w3).cell? ⟨w.heap.size, 0, none⟩ = some (.int .i64 an) := F3ka.out.cell 0
      have fka0 : (w3).frozen? ⟨w.heap.size, 0, none⟩ = false := F3ka.out.frozen 0
      have pka1 : (w3).cell? ⟨w.heap.size, 1, none⟩ = some (.int .i64 ad) := F3ka.out.cell 1
      have fka1 : (w3).frozen? ⟨w.heap.size, 1, none⟩ = false := F3ka.out.frozen 1
      have pkx0 : (w3).cell? ⟨w.heap.size + 1, 0, none⟩ = some (.bool ng) := F3kx.out.cell 0
      have fkx0 : (w3).frozen? ⟨w.heap.size + 1, 0, none⟩ = false := F3kx.out.frozen 0
      have pkx1 : (w3).cell? ⟨w.heap.size + 1, 1, none⟩ = some (.slice A m c) := F3kx.out.cell 1
      have fkx1 : (w3).frozen? ⟨w.heap.size + 1, 1, none⟩ = false := F3kx.out.frozen 1
      have pkx2 : (w3).cell? ⟨w.heap.size + 1, 2, none⟩ = some (.int .i64 ex) := F3kx.out.cell 2
      have fkx2 : (w3).frozen? ⟨w.heap.size + 1, 2, none⟩ = false := F3kx.out.frozen 2
      go_wp2_with fail
      refine (valid_q an ad w3 a1 a2 a3 a4).mono ?_
      rw [VA.out]
      rintro e w4 ⟨rfl, HB4⟩
      have F4t := Lib.hid (F3t.out.belowW HB4.out)
      have F4x := Lib.hid (F3x.out.belowW HB4.out)
      have F4ka := Lib.hid (F3ka.out.belowW HB4.out)
      have F4kx := Lib.hid (F3kx.out.belowW HB4.out)
      have HL4 := Lib.hid (HL3.out.trans (HB4.out.mono HL3.out.size))
      clear pka0 fka0 pka1 fka1 pkx0 fkx0 pkx1 fkx1 pkx2 fkx2
      have pka0 : (w4).cell? ⟨w.heap.size, 0, none⟩ = some (.int .i64 an) := F4ka.out.cell 0
      have fka0 : (w4).frozen? ⟨w.heap.size, 0, none⟩ = false := F4ka.out.frozen 0
      have pka1 : (w4).cell? ⟨w.heap.size, 1, none⟩ = some (.int .i64 ad) := F4ka.out.cell 1
      have fka1 : (w4).frozen? ⟨w.heap.size, 1, none⟩ = false := F4ka.out.frozen 1
      have pkx0 : (w4).cell? ⟨w.heap.size + 1, 0, none⟩ = some (.bool ng) := F4kx.out.cell 0
      have fkx0 : (w4).frozen? ⟨w.heap.size + 1, 0, none⟩ = false := F4kx.out.frozen 0
      have pkx1 : (w4).cell? ⟨w.heap.size + 1, 1, none⟩ = some (.slice A m c) := F4kx.out.cell 1
      have fkx1 : (w4).frozen? ⟨w.heap.size + 1, 1, none⟩ = false := F4kx.out.frozen 1
      have pkx2 : (w4).cell? ⟨w.heap.size + 1, 2, none⟩ = some (.int .i64 ex) := F4kx.out.cell 2
      have fkx2 : (w4).frozen? ⟨w.heap.size + 1, 2, none⟩ = false := F4kx.out.frozen 2
      go_wp2_with fail
      go_ret
      exact ⟨rfl, HL4⟩

theorem valid02_yes' (d : D) (A : Option Addr) (n c : Nat) (w : World) (h : Sl w A n c (limbs d.k)) (hv : vld d) : Calls Tryz.prog 39 #[.agg #[.bool d.neg, .slice A n c, .int .i64 d.e]] w (Ret (.bool true) w) := by
  have := valid02_any d.neg A n c d.e (limbs d.k) w h
  rwa [vldL_of hv] at this
set_option maxHeartbeats 4000000 in
theorem signs_in (an ad : Int) (x : D) (A : Option Addr) (m c : Nat) (w : World) (hT : RX w) (hx : Sl w A m c (limbs x.k)) (vx : vld x) (hv : vB an ad = true) (hm : m ≤ 130) :
    Calls Tryz.prog 10 #[.agg #[.int .i64 an, .int .i64 ad], .agg #[.bool x.neg, .slice A m c, .int .i64 x.e]] w (Awk w) := by
  have HT := Lib.hid hT
  have HX := Lib.hid hx
  have VX := Lib.hid vx
  have VA := Lib.hid hv
  have VN := Lib.hid (show vB (-an) ad = true by rw [vB_neg]; exact hv)
  have VXN := Lib.hid (negD_vld vx)
  obtain ⟨v1, v2, v3, v4⟩ := vB_bd hv
  have a1 : -9223372036854775808 ≤ an := by omega
  have a2 : an ≤ 9223372036854775807 := by omega
  have a3 : -9223372036854775808 ≤ ad := by omega
  have a4 : ad ≤ 9223372036854775807 := by omega
  have d1 : decide (130 < (m : Int)) = false := decide_eq_false (by omega)
  obtain ⟨z, hz⟩ : ∃ z, cmpRD an ad x = z := ⟨_, rfl⟩
  have HZ := Lib.hid hz
  have HZN := Lib.hid (show cmpRD (-an) ad (negD x) = -z by rw [cmpRD_neg (by omega) vx, hz])
  have z1 : -1 ≤ z ∧ z ≤ 1 := by
    rw [← hz, cmpRD_eq (by omega) vx]
    unfold cmpI
    split <;> (try split) <;> omega
  obtain ⟨rn, rd, ok, hof⟩ : ∃ a b c, ofV x = (a, b, c) := ⟨_, _, _, rfl⟩
  have HOF := Lib.hid hof
  have HC := Lib.hid (show ok = true → cmpE an ad rn rd = z from fun h => by rw [← hz]; exact of_cmp vx hv (by rw [hof, h]))
  have HBD := Lib.hid (show ok = true → 1 ≤ rd ∧ rd ≤ 1073741824 ∧ -1073741824 ≤ rn ∧ rn ≤ 1073741824 from fun h => vB_bd (vB_iff.2 (of_val vx (by rw [hof, h])).1))
  have en : IntKind.i64.wrap (-an) = -an := IntWalk.i64_in _ (by omega)
  clear hT hx vx hv hz hof
  go_enter Tryz.func10, Tryz.ntmps10
  go_wp2_with fail
  obtain ⟨w1, hw⟩ : ∃ z9 : World, z9 = ((w.alloc (.cells #[.int .i64 an, .int .i64 ad] 23)).alloc (.cells #[.bool x.neg, .slice A m c, .int .i64 x.e] 28)) := ⟨_, rfl⟩
  have HB1 := Lib.hid (show Below w.heap.size w w1 by rw [hw]; exact below_a2 _ _ _)
  have F1t := Lib.hid (HT.out.belowW HB1.out)
  have F1x := Lib.hid (HX.out.belowW HB1.out)
  have F1ka := Lib.hid (show Blk w1 (w.heap.size) 23 #[.int .i64 an, .int .i64 ad] by rw [hw]; exact (Blk.new _ _ _).alloc _)
  have F1kx := Lib.hid (show Blk w1 (w.heap.size + 1) 28 #[.bool x.neg, .slice A m c, .int .i64 x.e] by rw [hw]; exact Blk.new1 _ _ _ _)
  rw [← hw]
  clear hw
  refine (awake_any w1 F1t.out).mono ?_
  rintro e w2 ⟨rfl, HB2⟩
  have F2t := Lib.hid (F1t.out.belowW HB2.out)
  have F2x := Lib.hid (F1x.out.belowW HB2.out)
  have F2ka := Lib.hid (F1ka.out.belowW HB2.out)
  have F2kx := Lib.hid (F1kx.out.belowW HB2.out)
  have HL2 := Lib.hid (HB1.out.trans (HB2.out.mono HB1.out.size))
  have pka0 : (w2).cell? ⟨w.heap.size, 0, none⟩ = some (.int .i64 an) := F2ka.out.cell 0
  have fka0 : (w2).frozen? ⟨w.heap.size, 0, none⟩ = false := F2ka.out.frozen 0
  have pka1 : (w2).cell? ⟨w.heap.size, 1, none⟩ = some (.int .i64 ad) := F2ka.out.cell 1
  have fka1 : (w2).frozen? ⟨w.heap.size, 1, none⟩ = false := F2ka.out.frozen 1
  have pkx0 : (w2).cell? ⟨w.heap.size + 1, 0, none⟩ = some (.bool x.neg) := F2kx.out.cell 0
  have fkx0 : (w2).frozen? ⟨w.heap.size + 1, 0, none⟩ = false := F2kx.out.frozen 0
  have pkx1 : (w2).cell? ⟨w.heap.size + 1, 1, none⟩ = some (.slice A m c) := F2kx.out.cell 1
  have fkx1 : (w2).frozen? ⟨w.heap.size + 1, 1, none⟩ = false := F2kx.out.frozen 1
  have pkx2 : (w2).cell? ⟨w.heap.size + 1, 2, none⟩ = some (.int .i64 x.e) := F2kx.out.cell 2
  have fkx2 : (w2).frozen? ⟨w.heap.size + 1, 2, none⟩ = false := F2kx.out.frozen 2
  go_wp2_with fail
  refine (valid02_yes' x A m c w2 F2x.out VX.out).mono ?_
  rintro e w3 ⟨rfl, HB3⟩
  have F3t := Lib.hid (F2t.out.belowW HB3.out)
  have F3x := Lib.hid (F2x.out.belowW HB3.out)
  have F3ka := Lib.hid (F2ka.out.belowW HB3.out)
  have F3kx := Lib.hid (F2kx.out.belowW HB3.out)
  have HL3 := Lib.hid (HL2.out.trans (HB3.out.mono HL2.out.size))
  clear pka0 fka0 pka1 fka1 pkx0 fkx0 pkx1 fkx1 pkx2 fkx2
  have pka0 : (w3).cell? ⟨w.heap.size, 0, none⟩ = some (.int .i64 an) := F3ka.out.cell 0
  have fka0 : (w3).frozen? ⟨w.heap.size, 0, none⟩ = false := F3ka.out.frozen 0
  have pka1 : (w3).cell? ⟨w.heap.size, 1, none⟩ = some (.int .i64 ad) := F3ka.out.cell 1
  have fka1 : (w3).frozen? ⟨w.heap.size, 1, none⟩ = false := F3ka.out.frozen 1
  have pkx0 : (w3).cell? ⟨w.heap.size + 1, 0, none⟩ = some (.bool x.neg) := F3kx.out.cell 0
  have fkx0 : (w3).frozen? ⟨w.heap.size + 1, 0, none⟩ = false := F3kx.out.frozen 0
  have pkx1 : (w3).cell? ⟨w.heap.size + 1, 1, none⟩ = some (.slice A m c) := F3kx.out.cell 1
  have fkx1 : (w3).frozen? ⟨w.heap.size + 1, 1, none⟩ = false := F3kx.out.frozen 1
  have pkx2 : (w3).cell? ⟨w.heap.size + 1, 2, none⟩ = some (.int .i64 x.e) := F3kx.out.cell 2
  have fkx2 : (w3).frozen? ⟨w.heap.size + 1, 2, none⟩ = false := F3kx.out.frozen 2
  go_wp2_with fail
  refine (valid_q an ad w3 a1 a2 a3 a4).mono ?_
  rw [VA.out]
  rintro e w4 ⟨rfl, HB4⟩
  have F4t := Lib.hid (F3t.out.belowW HB4.out)
  have F4x := Lib.hid (F3x.out.belowW HB4.out)
  have F4ka := Lib.hid (F3ka.out.belowW HB4.out)
  have F4kx := Lib.hid (F3kx.out.belowW HB4.out)
  have HL4 := Lib.hid (HL3.out.trans (HB4.out.mono HL3.out.size))
  clear pka0 fka0 pka1 fka1 pkx0 fkx0 pkx1 fkx1 pkx2 fkx2
  have pka0 : (w4).cell? ⟨w.heap.size, 0, none⟩ = some (.int .i64 an) := F4ka.out.cell 0
  have fka0 : (w4).frozen? ⟨w.heap.size, 0, none⟩ = false := F4ka.out.frozen 0
  have pka1 : (w4).cell? ⟨w.heap.size, 1, none⟩ = some (.int .i64 ad) := F4ka.out.cell 1
  have fka1 : (w4).frozen? ⟨w.heap.size, 1, none⟩ = false := F4ka.out.frozen 1
  have pkx0 : (w4).cell? ⟨w.heap.size + 1, 0, none⟩ = some (.bool x.neg) := F4kx.out.cell 0
  have fkx0 : (w4).frozen? ⟨w.heap.size + 1, 0, none⟩ = false := F4kx.out.frozen 0
  have pkx1 : (w4).cell? ⟨w.heap.size + 1, 1, none⟩ = some (.slice A m c) := F4kx.out.cell 1
  have fkx1 : (w4).frozen? ⟨w.heap.size + 1, 1, none⟩ = false := F4kx.out.frozen 1
  have pkx2 : (w4).cell? ⟨w.heap.size + 1, 2, none⟩ = some (.int .i64 x.e) := F4kx.out.cell 2
  have fkx2 : (w4).frozen? ⟨w.heap.size + 1, 2, none⟩ = false := F4kx.out.frozen 2
  go_wp2_with fail
  refine (compare_yes an ad x A m c w4 F4x.out VX.out VA.out).mono ?_
  rw [HZ.out]
  rintro e w5 ⟨rfl, HB5⟩
  have F5t := Lib.hid (F4t.out.belowW HB5.out)
  have F5x := Lib.hid (F4x.out.belowW HB5.out)
  have F5ka := Lib.hid (F4ka.out.belowW HB5.out)
  have F5kx := Lib.hid (F4kx.out.belowW HB5.out)
  have HL5 := Lib.hid (HL4.out.trans (HB5.out.mono HL4.out.size))
  clear pka0 fka0 pka1 fka1 pkx0 fkx0 pkx1 fkx1 pkx2 fkx2
  have pka0 : (w5).cell? ⟨w.heap.size, 0, none⟩ = some (.int .i64 an) := F5ka.out.cell 0
  have fka0 : (w5).frozen? ⟨w.heap.size, 0, none⟩ = false := F5ka.out.frozen 0
  have pka1 : (w5).cell? ⟨w.heap.size, 1, none⟩ = some (.int .i64 ad) := F5ka.out.cell 1
  have fka1 : (w5).frozen? ⟨w.heap.size, 1, none⟩ = false := F5ka.out.frozen 1
  have pkx0 : (w5).cell? ⟨w.heap.size + 1, 0, none⟩ = some (.bool x.neg) := F5kx.out.cell 0
  have fkx0 : (w5).frozen? ⟨w.heap.size + 1, 0, none⟩ = false := F5kx.out.frozen 0
  have pkx1 : (w5).cell? ⟨w.heap.size + 1, 1, none⟩ = some (.slice A m c) := F5kx.out.cell 1
  have fkx1 : (w5).frozen? ⟨w.heap.size + 1, 1, none⟩ = false := F5kx.out.frozen 1
  have pkx2 : (w5).cell? ⟨w.heap.size + 1, 2, none⟩ = some (.int .i64 x.e) := F5kx.out.cell 2
  have fkx2 : (w5).frozen? ⟨w.heap.size + 1, 2, none⟩ = false := F5kx.out.frozen 2
  go_wp2_with fail
  have HR6 := Lib.hid (below_dr w5)
  have R6t := Lib.hid (F5t.out.belowW HR6.out)
  have R6x := Lib.hid (F5x.out.belowW HR6.out)
  have R6ka := Lib.hid (F5ka.out.belowW HR6.out)
  have R6kx := Lib.hid (F5kx.out.belowW HR6.out)
  have c6ka0 : w5.drew.cell? ⟨w.heap.size, 0, none⟩ = some (.int .i64 an) := R6ka.out.cell 0
  have c6ka1 : w5.drew.cell? ⟨w.heap.size, 1, none⟩ = some (.int .i64 ad) := R6ka.out.cell 1
  have c6kx0 : w5.drew.cell? ⟨w.heap.size + 1, 0, none⟩ = some (.bool x.neg) := R6kx.out.cell 0
  have c6kx1 : w5.drew.cell? ⟨w.heap.size + 1, 1, none⟩ = some (.slice A m c) := R6kx.out.cell 1
  have c6kx2 : w5.drew.cell? ⟨w.heap.size + 1, 2, none⟩ = some (.int .i64 x.e) := R6kx.out.cell 2
  go_region_held3 (fun w' => w'.cell? ⟨w.heap.size, 0, none⟩ = some (.int .i64 an) ∧ w'.cell? ⟨w.heap.size, 1, none⟩ = some (.int .i64 ad) ∧ w'.cell? ⟨w.heap.size + 1, 0, none⟩ = some (.bool x.neg) ∧ w'.cell? ⟨w.heap.size + 1, 1, none⟩ = some (.slice A m c) ∧ w'.cell? ⟨w.heap.size + 1, 2, none⟩ = some (.int .i64 x.e)) ((with_reducible refine ⟨?_, ?_, ?_, ?_, ?_⟩) <;> (with_reducible assumption)) (first
    | (go_at_call 40
       (with_reducible refine (neg_any x A m c _ R6x.out VX.out).mono ?_)
       rintro e w7 ⟨B, nb, cb, rfl, HSB, HC7⟩
       have R7t := Lib.hid (R6t.out.belowW HC7.out)
       have R7x := Lib.hid (R6x.out.belowW HC7.out)
       have R7ka := Lib.hid (R6ka.out.belowW HC7.out)
       have R7kx := Lib.hid (R6kx.out.belowW HC7.out)
       have HR7 := Lib.hid (HR6.out.trans (HC7.out.mono HR6.out.size))
       have R7b := Lib.hid (HSB.out)
       have c7ka0 : w7.cell? ⟨w.heap.size, 0, none⟩ = some (.int .i64 an) := R7ka.out.cell 0
       have c7ka1 : w7.cell? ⟨w.heap.size, 1, none⟩ = some (.int .i64 ad) := R7ka.out.cell 1
       have c7kx0 : w7.cell? ⟨w.heap.size + 1, 0, none⟩ = some (.bool x.neg) := R7kx.out.cell 0
       have c7kx1 : w7.cell? ⟨w.heap.size + 1, 1, none⟩ = some (.slice A m c) := R7kx.out.cell 1
       have c7kx2 : w7.cell? ⟨w.heap.size + 1, 2, none⟩ = some (.int .i64 x.e) := R7kx.out.cell 2)
    | (go_at_call 36
       (with_reducible refine (compare_yes (-an) ad (negD x) B nb cb _ R7b.out VXN.out VN.out).mono ?_)
       rw [HZN.out]
       rintro e w8 ⟨rfl, HC8⟩
       have R8t := Lib.hid (R7t.out.belowW HC8.out)
       have R8x := Lib.hid (R7x.out.belowW HC8.out)
       have R8ka := Lib.hid (R7ka.out.belowW HC8.out)
       have R8kx := Lib.hid (R7kx.out.belowW HC8.out)
       have R8b := Lib.hid (R7b.out.belowW HC8.out)
       have HR8 := Lib.hid (HR7.out.trans (HC8.out.mono HR7.out.size))
       have c8ka0 : w8.cell? ⟨w.heap.size, 0, none⟩ = some (.int .i64 an) := R8ka.out.cell 0
       have c8ka1 : w8.cell? ⟨w.heap.size, 1, none⟩ = some (.int .i64 ad) := R8ka.out.cell 1
       have c8kx0 : w8.cell? ⟨w.heap.size + 1, 0, none⟩ = some (.bool x.neg) := R8kx.out.cell 0
       have c8kx1 : w8.cell? ⟨w.heap.size + 1, 1, none⟩ = some (.slice A m c) := R8kx.out.cell 1
       have c8kx2 : w8.cell? ⟨w.heap.size + 1, 2, none⟩ = some (.int .i64 x.e) := R8kx.out.cell 2))
  have HL8 := Lib.hid (HL5.out.trans (HR8.out.mono HL5.out.size))
  clear pka0 fka0 pka1 fka1 pkx0 fkx0 pkx1 fkx1 pkx2 fkx2
  have pka0 : (w8).cell? ⟨w.heap.size, 0, none⟩ = some (.int .i64 an) := R8ka.out.cell 0
  have fka0 : (w8).frozen? ⟨w.heap.size, 0, none⟩ = false := R8ka.out.frozen 0
  have pka1 : (w8).cell? ⟨w.heap.size, 1, none⟩ = some (.int .i64 ad) := R8ka.out.cell 1
  have fka1 : (w8).frozen? ⟨w.heap.size, 1, none⟩ = false := R8ka.out.frozen 1
  have pkx0 : (w8).cell? ⟨w.heap.size + 1, 0, none⟩ = some (.bool x.neg) := R8kx.out.cell 0
  have fkx0 : (w8).frozen? ⟨w.heap.size + 1, 0, none⟩ = false := R8kx.out.frozen 0
  have pkx1 : (w8).cell? ⟨w.heap.size + 1, 1, none⟩ = some (.slice A m c) := R8kx.out.cell 1
  have fkx1 : (w8).frozen? ⟨w.heap.size + 1, 1, none⟩ = false := R8kx.out.frozen 1
  have pkx2 : (w8).cell? ⟨w.heap.size + 1, 2, none⟩ = some (.int .i64 x.e) := R8kx.out.cell 2
  have fkx2 : (w8).frozen? ⟨w.heap.size + 1, 2, none⟩ = false := R8kx.out.frozen 2
  go_wp2_with fail
  refine (of_yes x A m c w8 R8x.out VX.out).mono ?_
  rw [HOF.out]
  rintro e w9 ⟨rfl, HB9⟩
  have F9t := Lib.hid (R8t.out.belowW HB9.out)
  have F9x := Lib.hid (R8x.out.belowW HB9.out)
  have F9ka := Lib.hid (R8ka.out.belowW HB9.out)
  have F9kx := Lib.hid (R8kx.out.belowW HB9.out)
  have F9b := Lib.hid (R8b.out.belowW HB9.out)
  have HL9 := Lib.hid (HL8.out.trans (HB9.out.mono HL8.out.size))
  go_upto_region 10 with (fail)
  obtain ⟨w10, hw⟩ : ∃ z9 : World, z9 = w9.alloc (.cells #[.int .i64 rn, .int .i64 rd] 23) := ⟨_, rfl⟩
  have HB10 := Lib.hid (show Below w9.heap.size w9 w10 by rw [hw]; exact below_a1 _ _)
  have F10q := Lib.hid (show Blk w10 w9.heap.size 23 #[.int .i64 rn, .int .i64 rd] by rw [hw]; exact Blk.new _ _ _)
  rw [← hw]
  clear hw
  have F10t := Lib.hid (F9t.out.belowW HB10.out)
  have F10x := Lib.hid (F9x.out.belowW HB10.out)
  have F10ka := Lib.hid (F9ka.out.belowW HB10.out)
  have F10kx := Lib.hid (F9kx.out.belowW HB10.out)
  have F10b := Lib.hid (F9b.out.belowW HB10.out)
  have HL10 := Lib.hid (HL9.out.trans (HB10.out.mono HL9.out.size))
  clear pka0 fka0 pka1 fka1 pkx0 fkx0 pkx1 fkx1 pkx2 fkx2
  have pka0 : (w10).cell? ⟨w.heap.size, 0, none⟩ = some (.int .i64 an) := F10ka.out.cell 0
  have fka0 : (w10).frozen? ⟨w.heap.size, 0, none⟩ = false := F10ka.out.frozen 0
  have pka1 : (w10).cell? ⟨w.heap.size, 1, none⟩ = some (.int .i64 ad) := F10ka.out.cell 1
  have fka1 : (w10).frozen? ⟨w.heap.size, 1, none⟩ = false := F10ka.out.frozen 1
  have pkx0 : (w10).cell? ⟨w.heap.size + 1, 0, none⟩ = some (.bool x.neg) := F10kx.out.cell 0
  have fkx0 : (w10).frozen? ⟨w.heap.size + 1, 0, none⟩ = false := F10kx.out.frozen 0
  have pkx1 : (w10).cell? ⟨w.heap.size + 1, 1, none⟩ = some (.slice A m c) := F10kx.out.cell 1
  have fkx1 : (w10).frozen? ⟨w.heap.size + 1, 1, none⟩ = false := F10kx.out.frozen 1
  have pkx2 : (w10).cell? ⟨w.heap.size + 1, 2, none⟩ = some (.int .i64 x.e) := F10kx.out.cell 2
  have fkx2 : (w10).frozen? ⟨w.heap.size + 1, 2, none⟩ = false := F10kx.out.frozen 2
  have pq0 : (w10).cell? ⟨w9.heap.size, 0, none⟩ = some (.int .i64 rn) := F10q.out.cell 0
  have fq0 : (w10).frozen? ⟨w9.heap.size, 0, none⟩ = false := F10q.out.frozen 0
  have pq1 : (w10).cell? ⟨w9.heap.size, 1, none⟩ = some (.int .i64 rd) := F10q.out.cell 1
  have fq1 : (w10).frozen? ⟨w9.heap.size, 1, none⟩ = false := F10q.out.frozen 1
  cases ok with
  | false =>
    clear HC HBD
    go_wp2_with fail
    go_ret
    exact ⟨rfl, HL10⟩
  | true =>
    have HC2 := Lib.hid (HC.out rfl)
    obtain ⟨q1, q2, q3, q4⟩ := HBD.out rfl
    clear HC HBD
    go_wp2_with fail
    refine (qCmp an ad rn rd w10 a1 a2 a3 a4 (by omega) (by omega) (by omega) (by omega)).mono ?_
    rw [HC2.out]
    rintro e w11 ⟨rfl, HB11⟩
    have F11t := Lib.hid (F10t.out.belowW HB11.out)
    have F11x := Lib.hid (F10x.out.belowW HB11.out)
    have F11ka := Lib.hid (F10ka.out.belowW HB11.out)
    have F11kx := Lib.hid (F10kx.out.belowW HB11.out)
    have F11b := Lib.hid (F10b.out.belowW HB11.out)
    have F11q := Lib.hid (F10q.out.belowW HB11.out)
    have HL11 := Lib.hid (HL10.out.trans (HB11.out.mono HL10.out.size))
    go_wp2_with fail
    go_ret
    exact ⟨by simp, HL11⟩

theorem ratioSigns_any (an ad : Int) (ng : Bool) (A : Option Addr) (m c : Nat) (ex : Int) (l : List Nat) (w : World) (hT : RX w) (a1 : -9223372036854775808 ≤ an) (a2 : an ≤ 9223372036854775807) (a3 : -9223372036854775808 ≤ ad) (a4 : ad ≤ 9223372036854775807) (hx : Sl w A m c l) (x1 : -9223372036854775808 ≤ ex) (x2 : ex ≤ 9223372036854775807) :
    Calls Tryz.prog 10 #[.agg #[.int .i64 an, .int .i64 ad], .agg #[.bool ng, .slice A m c, .int .i64 ex]] w (Awk w) := by
  by_cases h : 130 < m ∨ vldL ng l ex = false ∨ vB an ad = false
  · exact signs_out an ad ng A m c ex l w hT a1 a2 a3 a4 hx h
  · simp only [not_or, Bool.not_eq_false] at h
    obtain ⟨h1, h2⟩ := vldL_iff.1 h.2.1
    rw [h1] at hx
    exact signs_in an ad ⟨ng, val l, ex⟩ A m c w hT hx h2 h.2.2 (by omega)
end Go.Proofs.YtnogfceojmnjiaaGreatDoor
