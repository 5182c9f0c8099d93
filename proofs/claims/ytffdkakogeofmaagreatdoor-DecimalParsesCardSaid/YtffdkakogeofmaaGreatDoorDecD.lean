/-
  The walks of decimal.Digits and Exact.
-/
import Derived.Test.YtffdkakogeofmaaGreatDoorDecC
set_option linter.unusedVariables false
namespace Go.Proofs.YtffdkakogeofmaaGreatDoor
open Go.RowKit Go.Fl Go.Fl.Nm Go.Fl.Dy
/-- How many digits behind the point both ends share, from the j-th on; one more than it. -/
def digF (x y : D) : Nat → Nat → Nat
  | 0, j => j
  | k + 1, j => if flD x j = flD y j then digF x y k (j + 1) else j
def digR (x y : D) : Int := if topB x ≤ 1000 ∧ topB y ≤ 1000 then (digF x y 51 0 : Int) - 1 else -1
def DgRel (x y : D) (W : World) (k : Nat) (nv : Value) (wr : World) : Prop :=
  ∃ j : Nat, nv = .int .i64 ((j : Int) - 1) ∧ k = 51 - j ∧ j ≤ 51 ∧ Hid (digF x y 51 0 = digF x y (51 - j) j) ∧ Hid (Below W.heap.size W wr)
set_option maxHeartbeats 4000000 in
theorem digits_yes (x y : D) (A : Option Addr) (n c : Nat) (B : Option Addr) (m d : Nat) (w : World) (hx : Sl w A n c (limbs x.k)) (hy : Sl w B m d (limbs y.k)) (vx : vld x) (vy : vld y) (hc : cmpD x y ≤ 0) (hT : RB w) :
    Calls Tryz.prog 14 #[.agg #[.bool x.neg, .slice A n c, .int .i64 x.e, .bool y.neg, .slice B m d, .int .i64 y.e, .bool false]] w (Ret (.int .i64 (digR x y)) w) := by
  have H1 := Lib.hid hx
  have H2 := Lib.hid hy
  have HT := Lib.hid hT
  have VX := Lib.hid vx
  have VY := Lib.hid vy
  have HVI := Lib.hid (vldIB_of vx vy hc)
  obtain ⟨tx, htx⟩ : ∃ t, decide (topB x ≤ 1000) = t := ⟨_, rfl⟩
  obtain ⟨ty, hty⟩ : ∃ t, decide (topB y ≤ 1000) = t := ⟨_, rfl⟩
  have HTX := Lib.hid htx
  have HTY := Lib.hid hty
  clear hx hy hT vx vy hc htx hty
  go_enter Tryz.func14, Tryz.ntmps14
  go_wp2_with fail
  obtain ⟨w1, hw⟩ : ∃ z9 : World, z9 = (w.alloc (.cells #[.bool x.neg, .slice A n c, .int .i64 x.e, .bool y.neg, .slice B m d, .int .i64 y.e, .bool false] 27)) := ⟨_, rfl⟩
  have HB1 := Lib.hid (show Below w.heap.size w w1 by rw [hw]; exact below_a1 _ _)
  have F1a := Lib.hid (H1.out.belowW HB1.out)
  have F1b := Lib.hid (H2.out.belowW HB1.out)
  have F1t := Lib.hid (HT.out.belowW HB1.out)
  have F1x := Lib.hid (show Blk w1 (w.heap.size) 27 #[.bool x.neg, .slice A n c, .int .i64 x.e, .bool y.neg, .slice B m d, .int .i64 y.e, .bool false] by rw [hw]; exact Blk.new _ _ _)
  rw [← hw]
  clear hw
  have px0 : (w1).cell? ⟨w.heap.size, 0, none⟩ = some (.bool x.neg) := F1x.out.cell 0
  have fx0 : (w1).frozen? ⟨w.heap.size, 0, none⟩ = false := F1x.out.frozen 0
  have px1 : (w1).cell? ⟨w.heap.size, 1, none⟩ = some (.slice A n c) := F1x.out.cell 1
  have fx1 : (w1).frozen? ⟨w.heap.size, 1, none⟩ = false := F1x.out.frozen 1
  have px2 : (w1).cell? ⟨w.heap.size, 2, none⟩ = some (.int .i64 x.e) := F1x.out.cell 2
  have fx2 : (w1).frozen? ⟨w.heap.size, 2, none⟩ = false := F1x.out.frozen 2
  have px3 : (w1).cell? ⟨w.heap.size, 3, none⟩ = some (.bool y.neg) := F1x.out.cell 3
  have fx3 : (w1).frozen? ⟨w.heap.size, 3, none⟩ = false := F1x.out.frozen 3
  have px4 : (w1).cell? ⟨w.heap.size, 4, none⟩ = some (.slice B m d) := F1x.out.cell 4
  have fx4 : (w1).frozen? ⟨w.heap.size, 4, none⟩ = false := F1x.out.frozen 4
  have px5 : (w1).cell? ⟨w.heap.size, 5, none⟩ = some (.int .i64 y.e) := F1x.out.cell 5
  have fx5 : (w1).frozen? ⟨w.heap.size, 5, none⟩ = false := F1x.out.frozen 5
  have px6 : (w1).cell? ⟨w.heap.size, 6, none⟩ = some (.bool false) := F1x.out.cell 6
  have fx6 : (w1).frozen? ⟨w.heap.size, 6, none⟩ = false := F1x.out.frozen 6
  go_wp2_with fail
  refine (ivalid_any x.neg A n c x.e (limbs x.k) y.neg B m d y.e (limbs y.k) false w1 F1a.out F1b.out).mono ?_
  rw [HVI.out]
  rintro e w2 ⟨rfl, HB2⟩
  have F2a := Lib.hid (F1a.out.belowW HB2.out)
  have F2b := Lib.hid (F1b.out.belowW HB2.out)
  have F2t := Lib.hid (F1t.out.belowW HB2.out)
  have F2x := Lib.hid (F1x.out.belowW HB2.out)
  have HL2 := Lib.hid (HB1.out.trans (HB2.out.mono HB1.out.size))
  clear px0 fx0 px1 fx1 px2 fx2 px3 fx3 px4 fx4 px5 fx5 px6 fx6
  have px0 : (w2).cell? ⟨w.heap.size, 0, none⟩ = some (.bool x.neg) := F2x.out.cell 0
  have fx0 : (w2).frozen? ⟨w.heap.size, 0, none⟩ = false := F2x.out.frozen 0
  have px1 : (w2).cell? ⟨w.heap.size, 1, none⟩ = some (.slice A n c) := F2x.out.cell 1
  have fx1 : (w2).frozen? ⟨w.heap.size, 1, none⟩ = false := F2x.out.frozen 1
  have px2 : (w2).cell? ⟨w.heap.size, 2, none⟩ = some (.int .i64 x.e) := F2x.out.cell 2
  have fx2 : (w2).frozen? ⟨w.heap.size, 2, none⟩ = false := F2x.out.frozen 2
  have px3 : (w2).cell? ⟨w.heap.size, 3, none⟩ = some (.bool y.neg) := F2x.out.cell 3
  have fx3 : (w2).frozen? ⟨w.heap.size, 3, none⟩ = false := F2x.out.frozen 3
  have px4 : (w2).cell? ⟨w.heap.size, 4, none⟩ = some (.slice B m d) := F2x.out.cell 4
  have fx4 : (w2).frozen? ⟨w.heap.size, 4, none⟩ = false := F2x.out.frozen 4
  have px5 : (w2).cell? ⟨w.heap.size, 5, none⟩ = some (.int .i64 y.e) := F2x.out.cell 5
  have fx5 : (w2).frozen? ⟨w.heap.size, 5, none⟩ = false := F2x.out.frozen 5
  have px6 : (w2).cell? ⟨w.heap.size, 6, none⟩ = some (.bool false) := F2x.out.cell 6
  have fx6 : (w2).frozen? ⟨w.heap.size, 6, none⟩ = false := F2x.out.frozen 6
  go_wp2_with fail
  refine (writable_any x A n c w2 F2a.out VX.out).mono ?_
  rw [HTX.out]
  rintro e w3 ⟨rfl, HB3⟩
  have F3a := Lib.hid (F2a.out.belowW HB3.out)
  have F3b := Lib.hid (F2b.out.belowW HB3.out)
  have F3t := Lib.hid (F2t.out.belowW HB3.out)
  have F3x := Lib.hid (F2x.out.belowW HB3.out)
  have HL3 := Lib.hid (HL2.out.trans (HB3.out.mono HL2.out.size))
  clear px0 fx0 px1 fx1 px2 fx2 px3 fx3 px4 fx4 px5 fx5 px6 fx6
  have px0 : (w3).cell? ⟨w.heap.size, 0, none⟩ = some (.bool x.neg) := F3x.out.cell 0
  have fx0 : (w3).frozen? ⟨w.heap.size, 0, none⟩ = false := F3x.out.frozen 0
  have px1 : (w3).cell? ⟨w.heap.size, 1, none⟩ = some (.slice A n c) := F3x.out.cell 1
  have fx1 : (w3).frozen? ⟨w.heap.size, 1, none⟩ = false := F3x.out.frozen 1
  have px2 : (w3).cell? ⟨w.heap.size, 2, none⟩ = some (.int .i64 x.e) := F3x.out.cell 2
  have fx2 : (w3).frozen? ⟨w.heap.size, 2, none⟩ = false := F3x.out.frozen 2
  have px3 : (w3).cell? ⟨w.heap.size, 3, none⟩ = some (.bool y.neg) := F3x.out.cell 3
  have fx3 : (w3).frozen? ⟨w.heap.size, 3, none⟩ = false := F3x.out.frozen 3
  have px4 : (w3).cell? ⟨w.heap.size, 4, none⟩ = some (.slice B m d) := F3x.out.cell 4
  have fx4 : (w3).frozen? ⟨w.heap.size, 4, none⟩ = false := F3x.out.frozen 4
  have px5 : (w3).cell? ⟨w.heap.size, 5, none⟩ = some (.int .i64 y.e) := F3x.out.cell 5
  have fx5 : (w3).frozen? ⟨w.heap.size, 5, none⟩ = false := F3x.out.frozen 5
  have px6 : (w3).cell? ⟨w.heap.size, 6, none⟩ = some (.bool false) := F3x.out.cell 6
  have fx6 : (w3).frozen? ⟨w.heap.size, 6, none⟩ = false := F3x.out.frozen 6
  cases tx with
  | false =>
    go_wp2_with fail
    go_ret
    exact ⟨ret_int (by unfold digR; rw [if_neg (fun h => by have := HTX.out; rw [decide_eq_true h.1] at this; cases this)]), HL3⟩
  | true =>
    go_wp2_with fail
    refine (writable_any y B m d w3 F3b.out VY.out).mono ?_
    rw [HTY.out]
    rintro e w4 ⟨rfl, HB4⟩
    have F4a := Lib.hid (F3a.out.belowW HB4.out)
    have F4b := Lib.hid (F3b.out.belowW HB4.out)
    have F4t := Lib.hid (F3t.out.belowW HB4.out)
    have F4x := Lib.hid (F3x.out.belowW HB4.out)
    have HL4 := Lib.hid (HL3.out.trans (HB4.out.mono HL3.out.size))
    clear px0 fx0 px1 fx1 px2 fx2 px3 fx3 px4 fx4 px5 fx5 px6 fx6
    have px0 : (w4).cell? ⟨w.heap.size, 0, none⟩ = some (.bool x.neg) := F4x.out.cell 0
    have fx0 : (w4).frozen? ⟨w.heap.size, 0, none⟩ = false := F4x.out.frozen 0
    have px1 : (w4).cell? ⟨w.heap.size, 1, none⟩ = some (.slice A n c) := F4x.out.cell 1
    have fx1 : (w4).frozen? ⟨w.heap.size, 1, none⟩ = false := F4x.out.frozen 1
    have px2 : (w4).cell? ⟨w.heap.size, 2, none⟩ = some (.int .i64 x.e) := F4x.out.cell 2
    have fx2 : (w4).frozen? ⟨w.heap.size, 2, none⟩ = false := F4x.out.frozen 2
    have px3 : (w4).cell? ⟨w.heap.size, 3, none⟩ = some (.bool y.neg) := F4x.out.cell 3
    have fx3 : (w4).frozen? ⟨w.heap.size, 3, none⟩ = false := F4x.out.frozen 3
    have px4 : (w4).cell? ⟨w.heap.size, 4, none⟩ = some (.slice B m d) := F4x.out.cell 4
    have fx4 : (w4).frozen? ⟨w.heap.size, 4, none⟩ = false := F4x.out.frozen 4
    have px5 : (w4).cell? ⟨w.heap.size, 5, none⟩ = some (.int .i64 y.e) := F4x.out.cell 5
    have fx5 : (w4).frozen? ⟨w.heap.size, 5, none⟩ = false := F4x.out.frozen 5
    have px6 : (w4).cell? ⟨w.heap.size, 6, none⟩ = some (.bool false) := F4x.out.cell 6
    have fx6 : (w4).frozen? ⟨w.heap.size, 6, none⟩ = false := F4x.out.frozen 6
    cases ty with
    | false =>
      go_wp2_with fail
      go_ret
      exact ⟨ret_int (by unfold digR; rw [if_neg (fun h => by have := HTY.out; rw [decide_eq_true h.2] at this; cases this)]), HL4⟩
    | true =>
      clear px0 fx0 px1 fx1 px2 fx2 px3 fx3 px4 fx4 px5 fx5 px6 fx6
      go_wp2_with fail
      have TX : topB x ≤ 1000 := of_decide_eq_true HTX.out
      have TY : topB y ≤ 1000 := of_decide_eq_true HTY.out
      have HR := Lib.hid (show digR x y = (digF x y 51 0 : Int) - 1 by unfold digR; rw [if_pos ⟨TX, TY⟩])
      go_loopg [3] 51 (DgRel x y w4)
      case atStart => exact ⟨0, rfl, rfl, by omega, Lib.hid rfl, Lib.hid (Below.refl _ _)⟩
      case round =>
        obtain ⟨j, rfl, hk, hj, HF, HW⟩ := hrel
        have hj1 : IntKind.i64.wrap ((j : Int) - 1 + 1) = (j : Int) := by rw [Int.sub_add_cancel]; exact IntWalk.i64_in _ (by omega)
        have hj2 : IntKind.i64.wrap (j : Int) = (j : Int) := IntWalk.i64_in _ (by omega)
        have hj3 : (j : Int) - 1 + 1 = (j : Int) := by omega
        by_cases hlt : j < 51
        case neg =>
          have hej : j = 51 := by omega
          have HE := Lib.hid (show (digF x y 51 0 : Int) - 1 = (j : Int) - 1 by rw [HF.out, hej]; rfl)
          have d1 : decide ((j : Int) - 1 < 50) = false := decide_eq_false (by omega)
          clear hej
          go_wp2_with fail
          go_quiet (fail)
          go_wp2_with fail
          go_ret
          exact ⟨ret_int (by rw [HR.out, HE.out]), Lib.hid (below_drewN (HL4.out.trans (HW.out.mono HL4.out.size)) _)⟩
        case pos =>
          have d1 : decide ((j : Int) - 1 < 50) = true := decide_eq_true (by omega)
          have hj51 : j ≤ 51 := hj
          obtain ⟨F1, hF1⟩ : ∃ F, flD x j = F := ⟨_, rfl⟩
          obtain ⟨F2, hF2⟩ : ∃ F, flD y j = F := ⟨_, rfl⟩
          have HF1 := Lib.hid hF1
          have HF2 := Lib.hid hF2
          have HST := Lib.hid (show digF x y (51 - j) j = if F1 = F2 then digF x y (51 - (j + 1)) (j + 1) else j by rw [← hF1, ← hF2, show 51 - j = 51 - (j + 1) + 1 by omega]; rfl)
          clear hF1 hF2
          have Ga := Lib.hid (F4a.out.belowW HW.out)
          have Gb := Lib.hid (F4b.out.belowW HW.out)
          have Gt := Lib.hid (F4t.out.belowW HW.out)
          have Gx := Lib.hid (F4x.out.belowW HW.out)
          have GL := Lib.hid (HL4.out.trans (HW.out.mono HL4.out.size))
          go_wp2_with fail
          have HR5 := Lib.hid (below_dr wr)
          have R5a := Lib.hid (Ga.out.belowW HR5.out)
          have R5b := Lib.hid (Gb.out.belowW HR5.out)
          have R5t := Lib.hid (Gt.out.belowW HR5.out)
          have R5x := Lib.hid (Gx.out.belowW HR5.out)
          have c5x0 : wr.drew.cell? ⟨w.heap.size, 0, none⟩ = some (.bool x.neg) := R5x.out.cell 0
          have c5x1 : wr.drew.cell? ⟨w.heap.size, 1, none⟩ = some (.slice A n c) := R5x.out.cell 1
          have c5x2 : wr.drew.cell? ⟨w.heap.size, 2, none⟩ = some (.int .i64 x.e) := R5x.out.cell 2
          have c5x3 : wr.drew.cell? ⟨w.heap.size, 3, none⟩ = some (.bool y.neg) := R5x.out.cell 3
          have c5x4 : wr.drew.cell? ⟨w.heap.size, 4, none⟩ = some (.slice B m d) := R5x.out.cell 4
          have c5x5 : wr.drew.cell? ⟨w.heap.size, 5, none⟩ = some (.int .i64 y.e) := R5x.out.cell 5
          go_region_held3 (fun w' => w'.cell? ⟨w.heap.size, 0, none⟩ = some (.bool x.neg) ∧ w'.cell? ⟨w.heap.size, 1, none⟩ = some (.slice A n c) ∧ w'.cell? ⟨w.heap.size, 2, none⟩ = some (.int .i64 x.e) ∧ w'.cell? ⟨w.heap.size, 3, none⟩ = some (.bool y.neg) ∧ w'.cell? ⟨w.heap.size, 4, none⟩ = some (.slice B m d) ∧ w'.cell? ⟨w.heap.size, 5, none⟩ = some (.int .i64 y.e)) ((with_reducible refine ⟨?_, ?_, ?_, ?_, ?_, ?_⟩) <;> (with_reducible assumption)) (first
            | (go_at_call_of 42 (Value.agg #[.bool x.neg, .slice A n c, .int .i64 x.e])
               (with_reducible refine (floor_any x A n c j _ R5a.out VX.out TX hj51 R5t.out).mono ?_)
               rw [HF1.out]
               rintro e w6 ⟨rfl, HC6⟩
               have R6a := Lib.hid (R5a.out.belowW HC6.out)
               have R6b := Lib.hid (R5b.out.belowW HC6.out)
               have R6t := Lib.hid (R5t.out.belowW HC6.out)
               have R6x := Lib.hid (R5x.out.belowW HC6.out)
               have HR6 := Lib.hid (HR5.out.trans (HC6.out.mono HR5.out.size))
               have c6x0 : w6.cell? ⟨w.heap.size, 0, none⟩ = some (.bool x.neg) := R6x.out.cell 0
               have c6x1 : w6.cell? ⟨w.heap.size, 1, none⟩ = some (.slice A n c) := R6x.out.cell 1
               have c6x2 : w6.cell? ⟨w.heap.size, 2, none⟩ = some (.int .i64 x.e) := R6x.out.cell 2
               have c6x3 : w6.cell? ⟨w.heap.size, 3, none⟩ = some (.bool y.neg) := R6x.out.cell 3
               have c6x4 : w6.cell? ⟨w.heap.size, 4, none⟩ = some (.slice B m d) := R6x.out.cell 4
               have c6x5 : w6.cell? ⟨w.heap.size, 5, none⟩ = some (.int .i64 y.e) := R6x.out.cell 5)
            | (go_at_call_of 42 (Value.agg #[.bool y.neg, .slice B m d, .int .i64 y.e])
               (with_reducible refine (floor_any y B m d j _ R6b.out VY.out TY hj51 R6t.out).mono ?_)
               rw [HF2.out]
               rintro e w7 ⟨rfl, HC7⟩
               have R7a := Lib.hid (R6a.out.belowW HC7.out)
               have R7b := Lib.hid (R6b.out.belowW HC7.out)
               have R7t := Lib.hid (R6t.out.belowW HC7.out)
               have R7x := Lib.hid (R6x.out.belowW HC7.out)
               have HR7 := Lib.hid (HR6.out.trans (HC7.out.mono HR6.out.size))
               have c7x0 : w7.cell? ⟨w.heap.size, 0, none⟩ = some (.bool x.neg) := R7x.out.cell 0
               have c7x1 : w7.cell? ⟨w.heap.size, 1, none⟩ = some (.slice A n c) := R7x.out.cell 1
               have c7x2 : w7.cell? ⟨w.heap.size, 2, none⟩ = some (.int .i64 x.e) := R7x.out.cell 2
               have c7x3 : w7.cell? ⟨w.heap.size, 3, none⟩ = some (.bool y.neg) := R7x.out.cell 3
               have c7x4 : w7.cell? ⟨w.heap.size, 4, none⟩ = some (.slice B m d) := R7x.out.cell 4
               have c7x5 : w7.cell? ⟨w.heap.size, 5, none⟩ = some (.int .i64 y.e) := R7x.out.cell 5))
          have HL7 := Lib.hid (GL.out.trans (HR7.out.mono GL.out.size))
          have HWN := Lib.hid (show Below w4.heap.size w4 w7 from HW.out.trans (HR7.out.mono HW.out.size))
          by_cases hEq : F1 = F2
          case pos =>
            subst hEq
            go_wp2_with fail
            · go_roundg (51 - (j + 1))
              case measure => omega
              case rel => exact ⟨j + 1, by go_num, rfl, by omega, Lib.hid (by rw [HF.out, HST.out]; simp), HWN⟩
            · exact absurd (show (F1 == F1) = false by assumption) (by simp)
          case neg =>
            have n1 : ¬ F1.toArray = F2.toArray := fun h => hEq (by simpa using h)
            have HE := Lib.hid (show (digF x y 51 0 : Int) - 1 = (j : Int) - 1 by rw [HF.out, HST.out, if_neg hEq])
            go_wp2_with fail
            · exact absurd (beq_iff_eq.1 (show (F1 == F2) = true by assumption)) hEq
            · go_ret
              exact ⟨ret_int (by rw [HR.out, HE.out]), HL7⟩
/-- The exact text of a valid number, and the error. -/
def exE (d : D) : List UInt8 × Int :=
  if 150 < topB d ∨ d.e < -200 then ([], 9) else if 0 ≤ d.e then (textD (scN d 0 false) (scQ d 0 false) 0, 0) else (textD d.neg (d.k * 5 ^ (-d.e).toNat) (-d.e).toNat, 0)
/-- A text and an error. -/
def TxE (r : List UInt8 × Int) (w : World) (e : Ending) (w' : World) : Prop := e = .returned (.tuple #[.string ⟨r.1.toArray⟩, .int .i64 r.2]) ∧ Hid (Below w.heap.size w w')
set_option maxHeartbeats 1000000 in
theorem exact_no (ng : Bool) (A : Option Addr) (n c : Nat) (ex : Int) (l : List Nat) (w : World) (h : Sl w A n c l) (hv : vldL ng l ex = false) :
    Calls Tryz.prog 20 #[.agg #[.bool ng, .slice A n c, .int .i64 ex]] w (TxE ([], 1) w) := by
  have H := Lib.hid h
  have HV := Lib.hid hv
  clear h hv
  go_enter Tryz.func20, Tryz.ntmps20
  go_wp2_with fail
  obtain ⟨w1, hw⟩ : ∃ z9 : World, z9 = (w.alloc (.cells #[.bool ng, .slice A n c, .int .i64 ex] 25)) := ⟨_, rfl⟩
  have HB1 := Lib.hid (show Below w.heap.size w w1 by rw [hw]; exact below_a1 _ _)
  have F1a := Lib.hid (H.out.belowW HB1.out)
  have F1d := Lib.hid (show Blk w1 (w.heap.size) 25 #[.bool ng, .slice A n c, .int .i64 ex] by rw [hw]; exact Blk.new _ _ _)
  rw [← hw]
  clear hw
  have pd0 : (w1).cell? ⟨w.heap.size, 0, none⟩ = some (.bool ng) := F1d.out.cell 0
  have fd0 : (w1).frozen? ⟨w.heap.size, 0, none⟩ = false := F1d.out.frozen 0
  have pd1 : (w1).cell? ⟨w.heap.size, 1, none⟩ = some (.slice A n c) := F1d.out.cell 1
  have fd1 : (w1).frozen? ⟨w.heap.size, 1, none⟩ = false := F1d.out.frozen 1
  have pd2 : (w1).cell? ⟨w.heap.size, 2, none⟩ = some (.int .i64 ex) := F1d.out.cell 2
  have fd2 : (w1).frozen? ⟨w.heap.size, 2, none⟩ = false := F1d.out.frozen 2
  go_wp2_with fail
  refine (valid_any ng A n c ex l w1 F1a.out).mono ?_
  rw [HV.out]
  rintro e w2 ⟨rfl, HB2⟩
  have F2a := Lib.hid (F1a.out.belowW HB2.out)
  have F2d := Lib.hid (F1d.out.belowW HB2.out)
  have HL2 := Lib.hid (HB1.out.trans (HB2.out.mono HB1.out.size))
  go_wp2_with fail
  go_ret2
  exact ⟨rfl, HL2⟩

set_option maxHeartbeats 4000000 in
theorem exact_yes (d : D) (A : Option Addr) (n c : Nat) (w : World) (h : Sl w A n c (limbs d.k)) (hv : vld d) (hT : RB w) :
    Calls Tryz.prog 20 #[.agg #[.bool d.neg, .slice A n c, .int .i64 d.e]] w (TxE (exE d) w) := by
  have H := Lib.hid h
  have hn : n ≤ 256 := by rw [← h.len]; exact vld_len hv
  have VD := Lib.hid hv
  have HT := Lib.hid hT
  have hb := vld_ebd hv
  have hbb := vld_bits hv
  obtain ⟨t, ht⟩ : ∃ t, topB d = t := ⟨_, rfl⟩
  have HTP := Lib.hid ht
  have HR := Lib.hid (show exE d = if 150 < t ∨ d.e < -200 then ([], 9) else if 0 ≤ d.e then (textD (scN d 0 false) (scQ d 0 false) 0, 0) else (textD d.neg (d.k * 5 ^ (-d.e).toNat) (-d.e).toNat, 0) by unfold exE; rw [ht])
  have T1000 := Lib.hid (fun h1 : t ≤ 150 => show topB d ≤ 1000 by omega)
  clear h hv hT ht
  go_enter Tryz.func20, Tryz.ntmps20
  go_wp2_with fail
  obtain ⟨w1, hw⟩ : ∃ z9 : World, z9 = (w.alloc (.cells #[.bool d.neg, .slice A n c, .int .i64 d.e] 25)) := ⟨_, rfl⟩
  have HB1 := Lib.hid (show Below w.heap.size w w1 by rw [hw]; exact below_a1 _ _)
  have F1a := Lib.hid (H.out.belowW HB1.out)
  have F1t := Lib.hid (HT.out.belowW HB1.out)
  have F1d := Lib.hid (show Blk w1 (w.heap.size) 25 #[.bool d.neg, .slice A n c, .int .i64 d.e] by rw [hw]; exact Blk.new _ _ _)
  rw [← hw]
  clear hw
  have pd0 : (w1).cell? ⟨w.heap.size, 0, none⟩ = some (.bool d.neg) := F1d.out.cell 0
  have fd0 : (w1).frozen? ⟨w.heap.size, 0, none⟩ = false := F1d.out.frozen 0
  have pd1 : (w1).cell? ⟨w.heap.size, 1, none⟩ = some (.slice A n c) := F1d.out.cell 1
  have fd1 : (w1).frozen? ⟨w.heap.size, 1, none⟩ = false := F1d.out.frozen 1
  have pd2 : (w1).cell? ⟨w.heap.size, 2, none⟩ = some (.int .i64 d.e) := F1d.out.cell 2
  have fd2 : (w1).frozen? ⟨w.heap.size, 2, none⟩ = false := F1d.out.frozen 2
  go_wp2_with fail
  refine (valid_yes d A n c w1 F1a.out VD.out).mono ?_
  rintro e w2 ⟨rfl, HB2⟩
  have F2a := Lib.hid (F1a.out.belowW HB2.out)
  have F2t := Lib.hid (F1t.out.belowW HB2.out)
  have F2d := Lib.hid (F1d.out.belowW HB2.out)
  have HL2 := Lib.hid (HB1.out.trans (HB2.out.mono HB1.out.size))
  clear pd0 fd0 pd1 fd1 pd2 fd2
  have pd0 : (w2).cell? ⟨w.heap.size, 0, none⟩ = some (.bool d.neg) := F2d.out.cell 0
  have fd0 : (w2).frozen? ⟨w.heap.size, 0, none⟩ = false := F2d.out.frozen 0
  have pd1 : (w2).cell? ⟨w.heap.size, 1, none⟩ = some (.slice A n c) := F2d.out.cell 1
  have fd1 : (w2).frozen? ⟨w.heap.size, 1, none⟩ = false := F2d.out.frozen 1
  have pd2 : (w2).cell? ⟨w.heap.size, 2, none⟩ = some (.int .i64 d.e) := F2d.out.cell 2
  have fd2 : (w2).frozen? ⟨w.heap.size, 2, none⟩ = false := F2d.out.frozen 2
  go_wp2_with fail
  refine (dtop_any d A n c w2 F2a.out VD.out).mono ?_
  rw [HTP.out]
  rintro e w3 ⟨rfl, HB3⟩
  have F3a := Lib.hid (F2a.out.belowW HB3.out)
  have F3t := Lib.hid (F2t.out.belowW HB3.out)
  have F3d := Lib.hid (F2d.out.belowW HB3.out)
  have HL3 := Lib.hid (HL2.out.trans (HB3.out.mono HL2.out.size))
  clear pd0 fd0 pd1 fd1 pd2 fd2
  have pd0 : (w3).cell? ⟨w.heap.size, 0, none⟩ = some (.bool d.neg) := F3d.out.cell 0
  have fd0 : (w3).frozen? ⟨w.heap.size, 0, none⟩ = false := F3d.out.frozen 0
  have pd1 : (w3).cell? ⟨w.heap.size, 1, none⟩ = some (.slice A n c) := F3d.out.cell 1
  have fd1 : (w3).frozen? ⟨w.heap.size, 1, none⟩ = false := F3d.out.frozen 1
  have pd2 : (w3).cell? ⟨w.heap.size, 2, none⟩ = some (.int .i64 d.e) := F3d.out.cell 2
  have fd2 : (w3).frozen? ⟨w.heap.size, 2, none⟩ = false := F3d.out.frozen 2
  by_cases h1 : 150 < t
  case pos =>
    have d1 : decide (150 < t) = true := decide_eq_true h1
    have HE := Lib.hid (show exE d = ([], 9) by rw [HR.out, if_pos (.inl h1)])
    go_wp2_with fail
    go_ret2
    rw [HE.out]
    exact ⟨rfl, HL3⟩
  have d1 : decide (150 < t) = false := decide_eq_false h1
  by_cases h2 : d.e < -200
  case pos =>
    have d2 : decide (d.e < -200) = true := decide_eq_true h2
    have HE := Lib.hid (show exE d = ([], 9) by rw [HR.out, if_pos (.inr h2)])
    go_wp2_with fail
    go_ret2
    rw [HE.out]
    exact ⟨rfl, HL3⟩
  have d2 : decide (d.e < -200) = false := decide_eq_false h2
  by_cases h3 : 0 ≤ d.e
  case pos =>
    have d3 : decide (0 ≤ d.e) = true := decide_eq_true h3
    have HE := Lib.hid (show exE d = (textD (scN d 0 false) (scQ d 0 false) 0, 0) by rw [HR.out, if_neg (by omega), if_pos h3])
    have B1 := Lib.hid (top_bd VD.out (T1000.out (by omega)))
    have z51 : (0 : Nat) ≤ 51 := by omega
    have z1000 : (0 : Nat) ≤ 1000 := by omega
    have QX := Lib.hid (show blen (scQ d 0 false) ≤ 32 * 256 from scQ_bits VD.out z51 B1.out)
    go_wp2_with fail
    refine (scaled_any d A n c 0 false w3 F3a.out VD.out z51 B1.out).mono ?_
    rintro e w4 ⟨P, p, pc, rfl, HP, HB4⟩
    have F4a := Lib.hid (F3a.out.belowW HB4.out)
    have F4t := Lib.hid (F3t.out.belowW HB4.out)
    have F4d := Lib.hid (F3d.out.belowW HB4.out)
    have HL4 := Lib.hid (HL3.out.trans (HB4.out.mono HL3.out.size))
    have F4p := Lib.hid (HP.out)
    have hp : p ≤ 256 := HP.out.lim QX.out
    go_wp2_with fail
    refine (dtext_any (scN d 0 false) P p pc (limbs (scQ d 0 false)) 0 w4 F4p.out hp z1000 F4t.out).mono ?_
    rw [val_limbs]
    rintro e w5 ⟨rfl, HB5⟩
    have F5a := Lib.hid (F4a.out.belowW HB5.out)
    have F5t := Lib.hid (F4t.out.belowW HB5.out)
    have F5d := Lib.hid (F4d.out.belowW HB5.out)
    have F5p := Lib.hid (F4p.out.belowW HB5.out)
    have HL5 := Lib.hid (HL4.out.trans (HB5.out.mono HL4.out.size))
    go_wp2_with fail
    go_ret2
    rw [HE.out]
    exact ⟨rfl, HL5⟩
  have d3 : decide (0 ≤ d.e) = false := decide_eq_false h3
  obtain ⟨J, hJ⟩ : ∃ J : Nat, d.e = -(J : Int) := ⟨(-d.e).toNat, by omega⟩
  have hneg : -d.e = (J : Int) := by omega
  have hnegw : IntKind.i64.wrap (-d.e) = (J : Int) := by rw [hneg]; exact IntWalk.i64_in _ (by omega)
  have eJw : IntKind.i64.wrap (J : Int) = (J : Int) := IntWalk.i64_in _ (by omega)
  have J1 : J ≤ 1000 := by omega
  obtain ⟨M, hM⟩ : ∃ M, d.k * 5 ^ J = M := ⟨_, rfl⟩
  have HE := Lib.hid (show exE d = (textD d.neg M J, 0) by rw [HR.out, if_neg (by omega), if_neg h3, hneg, Int.toNat_natCast, hM])
  have HM := Lib.hid (show val (limbs d.k) * val (limbs (5 ^ J)) = M by rw [val_limbs, val_limbs, hM])
  have bM : blen M ≤ 8000 := by rw [← hM]; have h8 := blen_mul_le' d.k (5 ^ J); have h9 := blen_pow 5 J (by omega); omega
  have HV := Lib.hid (show blen (val (limbs d.k) * val (limbs (5 ^ J))) ≤ 8192 by rw [HM.out]; omega)
  have HP9 := Lib.hid (show blen (5 ^ J) ≤ 32 * 256 by have := blen_pow 5 J (by omega); omega)
  have HM9 := Lib.hid (show blen M ≤ 32 * 256 by omega)
  clear hJ hM
  go_wp2_with fail
  clear pd0 fd0 pd1 fd1 pd2 fd2
  have HR4 := Lib.hid (below_dr w3)
  have R4a := Lib.hid (F3a.out.belowW HR4.out)
  have R4t := Lib.hid (F3t.out.belowW HR4.out)
  have R4d := Lib.hid (F3d.out.belowW HR4.out)
  have c4d1 : w3.drew.cell? ⟨w.heap.size, 1, none⟩ = some (.slice A n c) := R4d.out.cell 1
  have c4d2 : w3.drew.cell? ⟨w.heap.size, 2, none⟩ = some (.int .i64 d.e) := R4d.out.cell 2
  go_region_held3 (fun w' => w'.cell? ⟨w.heap.size, 1, none⟩ = some (.slice A n c) ∧ w'.cell? ⟨w.heap.size, 2, none⟩ = some (.int .i64 d.e)) ((with_reducible refine ⟨?_, ?_⟩) <;> (with_reducible assumption)) (first
    | (go_at_call 54
       (with_reducible refine (power_five J _ J1).mono ?_)
       rintro e w5 ⟨P, p, pc, rfl, HP, HC5⟩
       have R5a := Lib.hid (R4a.out.belowW HC5.out)
       have R5t := Lib.hid (R4t.out.belowW HC5.out)
       have R5d := Lib.hid (R4d.out.belowW HC5.out)
       have HR5 := Lib.hid (HR4.out.trans (HC5.out.mono HR4.out.size))
       have R5p := Lib.hid (HP.out)
       have c5d1 : w5.cell? ⟨w.heap.size, 1, none⟩ = some (.slice A n c) := R5d.out.cell 1
       have c5d2 : w5.cell? ⟨w.heap.size, 2, none⟩ = some (.int .i64 d.e) := R5d.out.cell 2
       have hp : p ≤ 256 := HP.out.lim HP9.out)
    | (go_at_call 53
       (with_reducible refine (nMul_sl A P n c p pc (limbs d.k) (limbs (5 ^ J)) _ R5a.out R5p.out hn hp HV.out).mono ?_)
       rw [HM.out]
       rintro e w6 ⟨B, m, rfl, HMS, HC6⟩
       have R6a := Lib.hid (R5a.out.belowW HC6.out)
       have R6t := Lib.hid (R5t.out.belowW HC6.out)
       have R6d := Lib.hid (R5d.out.belowW HC6.out)
       have R6p := Lib.hid (R5p.out.belowW HC6.out)
       have HR6 := Lib.hid (HR5.out.trans (HC6.out.mono HR5.out.size))
       have R6m := Lib.hid (HMS.out)
       have c6d1 : w6.cell? ⟨w.heap.size, 1, none⟩ = some (.slice A n c) := R6d.out.cell 1
       have c6d2 : w6.cell? ⟨w.heap.size, 2, none⟩ = some (.int .i64 d.e) := R6d.out.cell 2
       have hm : m ≤ 256 := HMS.out.lim HM9.out))
  have HL6 := Lib.hid (HL3.out.trans (HR6.out.mono HL3.out.size))
  have pd0 : (w6).cell? ⟨w.heap.size, 0, none⟩ = some (.bool d.neg) := R6d.out.cell 0
  have fd0 : (w6).frozen? ⟨w.heap.size, 0, none⟩ = false := R6d.out.frozen 0
  have pd1 : (w6).cell? ⟨w.heap.size, 1, none⟩ = some (.slice A n c) := R6d.out.cell 1
  have fd1 : (w6).frozen? ⟨w.heap.size, 1, none⟩ = false := R6d.out.frozen 1
  have pd2 : (w6).cell? ⟨w.heap.size, 2, none⟩ = some (.int .i64 d.e) := R6d.out.cell 2
  have fd2 : (w6).frozen? ⟨w.heap.size, 2, none⟩ = false := R6d.out.frozen 2
  go_wp2_with fail
  refine (dtext_any d.neg B m m (limbs M) J w6 R6m.out hm J1 R6t.out).mono ?_
  rw [val_limbs]
  rintro e w7 ⟨rfl, HB7⟩
  have F7a := Lib.hid (R6a.out.belowW HB7.out)
  have F7t := Lib.hid (R6t.out.belowW HB7.out)
  have F7d := Lib.hid (R6d.out.belowW HB7.out)
  have F7p := Lib.hid (R6p.out.belowW HB7.out)
  have F7m := Lib.hid (R6m.out.belowW HB7.out)
  have HL7 := Lib.hid (HL6.out.trans (HB7.out.mono HL6.out.size))
  go_wp2_with fail
  go_ret2
  rw [HE.out]
  exact ⟨rfl, HL7⟩
end Go.Proofs.YtffdkakogeofmaaGreatDoor
