/-
  The walks of decimal.Text, Exact, floor, Digits.
-/
import Derived.Test.YtoogeihbhhcpaaaGreatDoorDecB
set_option linter.unusedVariables false
namespace Go.Fl.Dy
open Go.Fl.Nm
theorem scQ_bits {d : D} {q : Nat} {up : Bool} (hv : vld d) (hq : q ≤ 51) (ht : 0 ≤ d.e → (blen d.k : Int) + d.e ≤ 1200) : blen (scQ d q up) ≤ 8192 := by
  have h1 := scM_bits d q
  have hk : blen d.k ≤ 4096 := by rcases hv with ⟨h, _⟩ | ⟨_, h, _⟩; · rw [h, blen_zero]; omega
                                  · exact h
  unfold scQ
  split
  · rename_i he
    have h2 := blen_mul_le' (2 ^ d.e.toNat) (scM d q)
    have h3 : blen (2 ^ d.e.toNat) ≤ d.e.toNat + 1 := blen_le (by rw [Nat.pow_succ]; have := Nat.two_pow_pos d.e.toNat; omega)
    have := ht he
    omega
  · have h2 : blen (scM d q / 2 ^ (-d.e).toNat) ≤ blen (scM d q) := blen_mono (Nat.div_le_self _ _)
    refine Nat.le_trans (blen_mono (show _ ≤ scM d q / 2 ^ (-d.e).toNat + 1 by split <;> omega)) ?_
    have h3 : blen (scM d q / 2 ^ (-d.e).toNat + 1) ≤ blen (scM d q / 2 ^ (-d.e).toNat) + 1 := by
      have h4 := blen_lt (Nat.le_refl (blen (scM d q / 2 ^ (-d.e).toNat)))
      refine blen_le ?_
      rw [Nat.pow_succ]
      have := Nat.two_pow_pos (blen (scM d q / 2 ^ (-d.e).toNat))
      omega
    omega
theorem dec_bits {v N : Nat} (h : blen v ≤ N + 1) : (Go.Lib.decDigits v).length ≤ N + 1 := by
  rw [Go.Lib.decDigits_length]
  apply nDigits_le
  exact Nat.lt_of_lt_of_le (blen_lt h) (Nat.pow_le_pow_left (by omega) _)
theorem text_len (neg : Bool) (v q : Nat) : (textD neg v q).length ≤ (Go.Lib.decDigits v).length + q + 3 := by
  unfold textD ptD padD
  generalize Go.Lib.decDigits v = l
  have h : ∀ m : List UInt8, (if q = 0 then m else m.take (m.length - q) ++ [46] ++ m.drop (m.length - q)).length ≤ m.length + 1 := by
    intro m
    split
    · omega
    · simp only [List.length_append, List.length_take, List.length_drop, List.length_cons, List.length_nil]
      omega
  have h1 := h (List.replicate (q + 1 - l.length) 48 ++ l)
  have h3 : (List.replicate (q + 1 - l.length) (48 : UInt8) ++ l).length = q + 1 - l.length + l.length := by rw [List.length_append, List.length_replicate]
  generalize List.replicate (q + 1 - l.length) (48 : UInt8) ++ l = m at *
  have h2 : (if neg then [45] else [] : List UInt8).length ≤ 1 := by cases neg <;> simp
  rw [List.length_append]
  omega
/-- The text of an interval. -/
def textI (x y : D) (q : Nat) : List UInt8 := [91] ++ textD (scN x q false) (scQ x q false) q ++ [44, 32] ++ textD (scN y q true) (scQ y q true) q ++ [93]
end Go.Fl.Dy
namespace Go.Proofs.YtoogeihbhhcpaaaGreatDoor
open Go.RowKit Go.Fl Go.Fl.Nm Go.Fl.Dy
theorem vldIB_of {x y : D} (hx : vld x) (hy : vld y) (hc : cmpD x y ≤ 0) : vldIB x.neg (limbs x.k) x.e y.neg (limbs y.k) y.e false = true := by
  unfold vldIB
  rw [if_neg (by decide), vldL_of hx, vldL_of hy, val_limbs, val_limbs, decide_eq_true hc]
  rfl
/-- What Text returns of a valid interval. -/
def txtI (x y : D) (q : Nat) : List UInt8 := if topB x ≤ 1000 ∧ topB y ≤ 1000 then textI x y q else []
theorem top_bd {x : D} (hv : vld x) (h : topB x ≤ 1000) : 0 ≤ x.e → (blen x.k : Int) + x.e ≤ 1200 := by
  unfold topB at h
  split at h
  · rename_i h0
    rcases hv with ⟨_, _, h1⟩ | ⟨h1, _⟩
    · rw [h0, blen_zero, h1]; omega
    · omega
  · omega

set_option maxHeartbeats 4000000 in
theorem dText_any (x y : D) (A : Option Addr) (n c : Nat) (B : Option Addr) (m d q : Nat) (w : World) (hx : Sl w A n c (limbs x.k)) (hy : Sl w B m d (limbs y.k)) (vx : vld x) (vy : vld y) (hc : cmpD x y ≤ 0) (hq : q ≤ 50) (hT : RB w) :
    Calls Tryz.prog 32 #[.agg #[.bool x.neg, .slice A n c, .int .i64 x.e, .bool y.neg, .slice B m d, .int .i64 y.e, .bool false], .int .i64 q] w (Ret (.string ⟨(txtI x y q).toArray⟩) w) := by
  have H1 := Lib.hid hx
  have H2 := Lib.hid hy
  have HT := Lib.hid hT
  have VX := Lib.hid vx
  have VY := Lib.hid vy
  have HVI := Lib.hid (vldIB_of vx vy hc)
  have dq1 : decide ((q : Int) < 0) = false := decide_eq_false (by omega)
  have dq2 : decide ((50 : Int) < (q : Int)) = false := decide_eq_false (by omega)
  obtain ⟨tx, htx⟩ : ∃ t, decide (topB x ≤ 1000) = t := ⟨_, rfl⟩
  obtain ⟨ty, hty⟩ : ∃ t, decide (topB y ≤ 1000) = t := ⟨_, rfl⟩
  have HTX := Lib.hid htx
  have HTY := Lib.hid hty
  clear hx hy hT vx vy hc htx hty
  go_enter Tryz.func32, Tryz.ntmps32
  go_wp2_with fail
  obtain ⟨w1, hw⟩ : ∃ z9 : World, z9 = (w.alloc (.cells #[.bool x.neg, .slice A n c, .int .i64 x.e, .bool y.neg, .slice B m d, .int .i64 y.e, .bool false] 42)) := ⟨_, rfl⟩
  have HB1 := Lib.hid (show Below w.heap.size w w1 by rw [hw]; exact below_a1 _ _)
  have F1a := Lib.hid (H1.out.belowW HB1.out)
  have F1b := Lib.hid (H2.out.belowW HB1.out)
  have F1t := Lib.hid (HT.out.belowW HB1.out)
  have F1x := Lib.hid (show Blk w1 (w.heap.size) 42 #[.bool x.neg, .slice A n c, .int .i64 x.e, .bool y.neg, .slice B m d, .int .i64 y.e, .bool false] by rw [hw]; exact Blk.new _ _ _)
  rw [← hw]
  clear hw
  have px0 : (w1).cell? ⟨w.heap.size, 0, none⟩ = some (.bool x.neg) := F1x.out.cell 0
  have fx0 : (w1).frozen? ⟨w.heap.size, 0, none⟩ = false := F1x.out.frozen 0
  have px1 : (w1).cell? ⟨w.heap.size, 1, none⟩ = some (.slice A n c) := F1x.out.cell 1
  have fx1 : (w1).frozen? ⟨w.heap.size, 1, none⟩ = false := F1x.out.frozen 1
  have px2 : (w1).cell? ⟨w.heap.size, 2, none⟩ = some (.int .i64 x.e) := F1x.out.cell 2
  have fx2 : (w1).frozen? ⟨w.heap.size, 2, none⟩ = false := F1x.out.frozen 2
  have px3 : (w1).cell? ⟨w.heap.size, 3, none⟩ = some (.bool y.neg) := F1x.out.cell 3
  have fx3 : (w1).frozen? ⟨w.heap.size, 3, none⟩ = false := F1x.out.frozen 3
  have px4 : (w1).cell? ⟨w.heap.size, 4, none⟩ = some (.slice B m d) := F1x.out.cell 4
  have fx4 : (w1).frozen? ⟨w.heap.size, 4, none⟩ = false := F1x.out.frozen 4
  have px5 : (w1).cell? ⟨w.heap.size, 5, none⟩ = some (.int .i64 y.e) := F1x.out.cell 5
  have fx5 : (w1).frozen? ⟨w.heap.size, 5, none⟩ = false := F1x.out.frozen 5
  have px6 : (w1).cell? ⟨w.heap.size, 6, none⟩ = some (.bool false) := F1x.out.cell 6
  have fx6 : (w1).frozen? ⟨w.heap.size, 6, none⟩ = false := F1x.out.frozen 6
  go_wp2_with fail
  refine (ivalid_any x.neg A n c x.e (limbs x.k) y.neg B m d y.e (limbs y.k) false w1 F1a.out F1b.out).mono ?_
  rw [HVI.out]
  rintro e w2 ⟨rfl, HB2⟩
  have F2a := Lib.hid (F1a.out.belowW HB2.out)
  have F2b := Lib.hid (F1b.out.belowW HB2.out)
  have F2t := Lib.hid (F1t.out.belowW HB2.out)
  have F2x := Lib.hid (F1x.out.belowW HB2.out)
  have HL2 := Lib.hid (HB1.out.trans (HB2.out.mono HB1.out.size))
  clear px0 fx0 px1 fx1 px2 fx2 px3 fx3 px4 fx4 px5 fx5 px6 fx6
  have px0 : (w2).cell? ⟨w.heap.size, 0, none⟩ = some (.bool x.neg) := F2x.out.cell 0
  have fx0 : (w2).frozen? ⟨w.heap.size, 0, none⟩ = false := F2x.out.frozen 0
  have px1 : (w2).cell? ⟨w.heap.size, 1, none⟩ = some (.slice A n c) := F2x.out.cell 1
  have fx1 : (w2).frozen? ⟨w.heap.size, 1, none⟩ = false := F2x.out.frozen 1
  have px2 : (w2).cell? ⟨w.heap.size, 2, none⟩ = some (.int .i64 x.e) := F2x.out.cell 2
  have fx2 : (w2).frozen? ⟨w.heap.size, 2, none⟩ = false := F2x.out.frozen 2
  have px3 : (w2).cell? ⟨w.heap.size, 3, none⟩ = some (.bool y.neg) := F2x.out.cell 3
  have fx3 : (w2).frozen? ⟨w.heap.size, 3, none⟩ = false := F2x.out.frozen 3
  have px4 : (w2).cell? ⟨w.heap.size, 4, none⟩ = some (.slice B m d) := F2x.out.cell 4
  have fx4 : (w2).frozen? ⟨w.heap.size, 4, none⟩ = false := F2x.out.frozen 4
  have px5 : (w2).cell? ⟨w.heap.size, 5, none⟩ = some (.int .i64 y.e) := F2x.out.cell 5
  have fx5 : (w2).frozen? ⟨w.heap.size, 5, none⟩ = false := F2x.out.frozen 5
  have px6 : (w2).cell? ⟨w.heap.size, 6, none⟩ = some (.bool false) := F2x.out.cell 6
  have fx6 : (w2).frozen? ⟨w.heap.size, 6, none⟩ = false := F2x.out.frozen 6
  go_wp2_with fail
  refine (writable_any x A n c w2 F2a.out VX.out).mono ?_
  rw [HTX.out]
  rintro e w3 ⟨rfl, HB3⟩
  have F3a := Lib.hid (F2a.out.belowW HB3.out)
  have F3b := Lib.hid (F2b.out.belowW HB3.out)
  have F3t := Lib.hid (F2t.out.belowW HB3.out)
  have F3x := Lib.hid (F2x.out.belowW HB3.out)
  have HL3 := Lib.hid (HL2.out.trans (HB3.out.mono HL2.out.size))
  clear px0 fx0 px1 fx1 px2 fx2 px3 fx3 px4 fx4 px5 fx5 px6 fx6
  have px0 : (w3).cell? ⟨w.heap.size, 0, none⟩ = some (.bool x.neg) := F3x.out.cell 0
  have fx0 : (w3).frozen? ⟨w.heap.size, 0, none⟩ = false := F3x.out.frozen 0
  have px1 : (w3).cell? ⟨w.heap.size, 1, none⟩ = some (.slice A n c) := F3x.out.cell 1
  have fx1 : (w3).frozen? ⟨w.heap.size, 1, none⟩ = false := F3x.out.frozen 1
  have px2 : (w3).cell? ⟨w.heap.size, 2, none⟩ = some (.int .i64 x.e) := F3x.out.cell 2
  have fx2 : (w3).frozen? ⟨w.heap.size, 2, none⟩ = false := F3x.out.frozen 2
  have px3 : (w3).cell? ⟨w.heap.size, 3, none⟩ = some (.bool y.neg) := F3x.out.cell 3
  have fx3 : (w3).frozen? ⟨w.heap.size, 3, none⟩ = false := F3x.out.frozen 3
  have px4 : (w3).cell? ⟨w.heap.size, 4, none⟩ = some (.slice B m d) := F3x.out.cell 4
  have fx4 : (w3).frozen? ⟨w.heap.size, 4, none⟩ = false := F3x.out.frozen 4
  have px5 : (w3).cell? ⟨w.heap.size, 5, none⟩ = some (.int .i64 y.e) := F3x.out.cell 5
  have fx5 : (w3).frozen? ⟨w.heap.size, 5, none⟩ = false := F3x.out.frozen 5
  have px6 : (w3).cell? ⟨w.heap.size, 6, none⟩ = some (.bool false) := F3x.out.cell 6
  have fx6 : (w3).frozen? ⟨w.heap.size, 6, none⟩ = false := F3x.out.frozen 6
  cases tx with
  | false =>
    go_wp2_with fail
    go_ret
    exact ⟨ret_str (ba_list (by unfold txtI; rw [if_neg (fun h => by have := HTX.out; rw [decide_eq_true h.1] at this; cases this)])), HL3⟩
  | true =>
    go_wp2_with fail
    refine (writable_any y B m d w3 F3b.out VY.out).mono ?_
    rw [HTY.out]
    rintro e w4 ⟨rfl, HB4⟩
    have F4a := Lib.hid (F3a.out.belowW HB4.out)
    have F4b := Lib.hid (F3b.out.belowW HB4.out)
    have F4t := Lib.hid (F3t.out.belowW HB4.out)
    have F4x := Lib.hid (F3x.out.belowW HB4.out)
    have HL4 := Lib.hid (HL3.out.trans (HB4.out.mono HL3.out.size))
    clear px0 fx0 px1 fx1 px2 fx2 px3 fx3 px4 fx4 px5 fx5 px6 fx6
    have px0 : (w4).cell? ⟨w.heap.size, 0, none⟩ = some (.bool x.neg) := F4x.out.cell 0
    have fx0 : (w4).frozen? ⟨w.heap.size, 0, none⟩ = false := F4x.out.frozen 0
    have px1 : (w4).cell? ⟨w.heap.size, 1, none⟩ = some (.slice A n c) := F4x.out.cell 1
    have fx1 : (w4).frozen? ⟨w.heap.size, 1, none⟩ = false := F4x.out.frozen 1
    have px2 : (w4).cell? ⟨w.heap.size, 2, none⟩ = some (.int .i64 x.e) := F4x.out.cell 2
    have fx2 : (w4).frozen? ⟨w.heap.size, 2, none⟩ = false := F4x.out.frozen 2
    have px3 : (w4).cell? ⟨w.heap.size, 3, none⟩ = some (.bool y.neg) := F4x.out.cell 3
    have fx3 : (w4).frozen? ⟨w.heap.size, 3, none⟩ = false := F4x.out.frozen 3
    have px4 : (w4).cell? ⟨w.heap.size, 4, none⟩ = some (.slice B m d) := F4x.out.cell 4
    have fx4 : (w4).frozen? ⟨w.heap.size, 4, none⟩ = false := F4x.out.frozen 4
    have px5 : (w4).cell? ⟨w.heap.size, 5, none⟩ = some (.int .i64 y.e) := F4x.out.cell 5
    have fx5 : (w4).frozen? ⟨w.heap.size, 5, none⟩ = false := F4x.out.frozen 5
    have px6 : (w4).cell? ⟨w.heap.size, 6, none⟩ = some (.bool false) := F4x.out.cell 6
    have fx6 : (w4).frozen? ⟨w.heap.size, 6, none⟩ = false := F4x.out.frozen 6
    cases ty with
    | false =>
      go_wp2_with fail
      go_ret
      exact ⟨ret_str (ba_list (by unfold txtI; rw [if_neg (fun h => by have := HTY.out; rw [decide_eq_true h.2] at this; cases this)])), HL4⟩
    | true =>
      go_wp2_with fail
      have TX := Lib.hid (of_decide_eq_true HTX.out)
      have TY := Lib.hid (of_decide_eq_true HTY.out)
      have BX1 := Lib.hid (top_bd VX.out TX.out)
      have BY1 := Lib.hid (top_bd VY.out TY.out)
      have hq51 : q ≤ 51 := by omega
      have hq1000 : q ≤ 1000 := by omega
      have QX := Lib.hid (show blen (scQ x q false) ≤ 32 * 256 from scQ_bits VX.out hq51 BX1.out)
      have QY := Lib.hid (show blen (scQ y q true) ≤ 32 * 256 from scQ_bits VY.out hq51 BY1.out)
      have HF := Lib.hid (show txtI x y q = textI x y q by unfold txtI; rw [if_pos ⟨TX.out, TY.out⟩])
      obtain ⟨T1, hT1⟩ : ∃ t, textD (scN x q false) (scQ x q false) q = t := ⟨_, rfl⟩
      obtain ⟨T2, hT2⟩ : ∃ t, textD (scN y q true) (scQ y q true) q = t := ⟨_, rfl⟩
      have l1 : T1.length ≤ 9000 := by rw [← hT1]; have h1 := text_len (scN x q false) (scQ x q false) q; have h2 := dec_bits (N := 8191) QX.out; omega
      have l2 : T2.length ≤ 9000 := by rw [← hT2]; have h1 := text_len (scN y q true) (scQ y q true) q; have h2 := dec_bits (N := 8191) QY.out; omega
      have hs1 : ¬ 9223372036854775807 < 1 + T1.length := by omega
      have hs2 : ¬ 9223372036854775807 < 1 + T1.length + 2 := by omega
      have hs3 : ¬ 9223372036854775807 < 1 + T1.length + 2 + T2.length := by omega
      have hs4 : ¬ 9223372036854775807 < 1 + T1.length + 2 + T2.length + 1 := by omega
      have HT1 := Lib.hid hT1
      have HT2 := Lib.hid hT2
      clear hT1 hT2
      clear px0 fx0 px1 fx1 px2 fx2 px3 fx3 px4 fx4 px5 fx5 px6 fx6
      have HR5 := Lib.hid (below_dr w4)
      have R5a := Lib.hid (F4a.out.belowW HR5.out)
      have R5b := Lib.hid (F4b.out.belowW HR5.out)
      have R5t := Lib.hid (F4t.out.belowW HR5.out)
      have R5x := Lib.hid (F4x.out.belowW HR5.out)
      have c5x0 : w4.drew.cell? ⟨w.heap.size, 0, none⟩ = some (.bool x.neg) := R5x.out.cell 0
      have c5x1 : w4.drew.cell? ⟨w.heap.size, 1, none⟩ = some (.slice A n c) := R5x.out.cell 1
      have c5x2 : w4.drew.cell? ⟨w.heap.size, 2, none⟩ = some (.int .i64 x.e) := R5x.out.cell 2
      have c5x3 : w4.drew.cell? ⟨w.heap.size, 3, none⟩ = some (.bool y.neg) := R5x.out.cell 3
      have c5x4 : w4.drew.cell? ⟨w.heap.size, 4, none⟩ = some (.slice B m d) := R5x.out.cell 4
      have c5x5 : w4.drew.cell? ⟨w.heap.size, 5, none⟩ = some (.int .i64 y.e) := R5x.out.cell 5
      go_region_held3 (fun w' => w'.cell? ⟨w.heap.size, 0, none⟩ = some (.bool x.neg) ∧ w'.cell? ⟨w.heap.size, 1, none⟩ = some (.slice A n c) ∧ w'.cell? ⟨w.heap.size, 2, none⟩ = some (.int .i64 x.e) ∧ w'.cell? ⟨w.heap.size, 3, none⟩ = some (.bool y.neg) ∧ w'.cell? ⟨w.heap.size, 4, none⟩ = some (.slice B m d) ∧ w'.cell? ⟨w.heap.size, 5, none⟩ = some (.int .i64 y.e)) ((with_reducible refine ⟨?_, ?_, ?_, ?_, ?_, ?_⟩) <;> (with_reducible assumption)) (first
        | (go_at_call_of 67 (Value.agg #[.bool x.neg, .slice A n c, .int .i64 x.e])
           (with_reducible refine (scaled_any x A n c q false _ R5a.out VX.out hq51 BX1.out).mono ?_)
           rintro e w6 ⟨P, p, pc, rfl, HP, HC6⟩
           have R6a := Lib.hid (R5a.out.belowW HC6.out)
           have R6b := Lib.hid (R5b.out.belowW HC6.out)
           have R6t := Lib.hid (R5t.out.belowW HC6.out)
           have R6x := Lib.hid (R5x.out.belowW HC6.out)
           have HR6 := Lib.hid (HR5.out.trans (HC6.out.mono HR5.out.size))
           have R6p := Lib.hid (HP.out)
           have c6x0 : w6.cell? ⟨w.heap.size, 0, none⟩ = some (.bool x.neg) := R6x.out.cell 0
           have c6x1 : w6.cell? ⟨w.heap.size, 1, none⟩ = some (.slice A n c) := R6x.out.cell 1
           have c6x2 : w6.cell? ⟨w.heap.size, 2, none⟩ = some (.int .i64 x.e) := R6x.out.cell 2
           have c6x3 : w6.cell? ⟨w.heap.size, 3, none⟩ = some (.bool y.neg) := R6x.out.cell 3
           have c6x4 : w6.cell? ⟨w.heap.size, 4, none⟩ = some (.slice B m d) := R6x.out.cell 4
           have c6x5 : w6.cell? ⟨w.heap.size, 5, none⟩ = some (.int .i64 y.e) := R6x.out.cell 5
           have hp : p ≤ 256 := HP.out.lim QX.out)
        | (go_at_call_of 66 (Value.agg #[.bool (scN x q false), .slice P p pc])
           (with_reducible refine (dtext_any (scN x q false) P p pc (limbs (scQ x q false)) q _ R6p.out hp hq1000 R6t.out).mono ?_)
           rw [val_limbs, HT1.out]
           rintro e w7 ⟨rfl, HC7⟩
           have R7a := Lib.hid (R6a.out.belowW HC7.out)
           have R7b := Lib.hid (R6b.out.belowW HC7.out)
           have R7t := Lib.hid (R6t.out.belowW HC7.out)
           have R7x := Lib.hid (R6x.out.belowW HC7.out)
           have R7p := Lib.hid (R6p.out.belowW HC7.out)
           have HR7 := Lib.hid (HR6.out.trans (HC7.out.mono HR6.out.size))
           have c7x0 : w7.cell? ⟨w.heap.size, 0, none⟩ = some (.bool x.neg) := R7x.out.cell 0
           have c7x1 : w7.cell? ⟨w.heap.size, 1, none⟩ = some (.slice A n c) := R7x.out.cell 1
           have c7x2 : w7.cell? ⟨w.heap.size, 2, none⟩ = some (.int .i64 x.e) := R7x.out.cell 2
           have c7x3 : w7.cell? ⟨w.heap.size, 3, none⟩ = some (.bool y.neg) := R7x.out.cell 3
           have c7x4 : w7.cell? ⟨w.heap.size, 4, none⟩ = some (.slice B m d) := R7x.out.cell 4
           have c7x5 : w7.cell? ⟨w.heap.size, 5, none⟩ = some (.int .i64 y.e) := R7x.out.cell 5)
        | (go_at_call_of 67 (Value.agg #[.bool y.neg, .slice B m d, .int .i64 y.e])
           (with_reducible refine (scaled_any y B m d q true _ R7b.out VY.out hq51 BY1.out).mono ?_)
           rintro e w8 ⟨R, r, rc, rfl, HR9, HC8⟩
           have R8a := Lib.hid (R7a.out.belowW HC8.out)
           have R8b := Lib.hid (R7b.out.belowW HC8.out)
           have R8t := Lib.hid (R7t.out.belowW HC8.out)
           have R8x := Lib.hid (R7x.out.belowW HC8.out)
           have R8p := Lib.hid (R7p.out.belowW HC8.out)
           have HR8 := Lib.hid (HR7.out.trans (HC8.out.mono HR7.out.size))
           have R8r := Lib.hid (HR9.out)
           have c8x0 : w8.cell? ⟨w.heap.size, 0, none⟩ = some (.bool x.neg) := R8x.out.cell 0
           have c8x1 : w8.cell? ⟨w.heap.size, 1, none⟩ = some (.slice A n c) := R8x.out.cell 1
           have c8x2 : w8.cell? ⟨w.heap.size, 2, none⟩ = some (.int .i64 x.e) := R8x.out.cell 2
           have c8x3 : w8.cell? ⟨w.heap.size, 3, none⟩ = some (.bool y.neg) := R8x.out.cell 3
           have c8x4 : w8.cell? ⟨w.heap.size, 4, none⟩ = some (.slice B m d) := R8x.out.cell 4
           have c8x5 : w8.cell? ⟨w.heap.size, 5, none⟩ = some (.int .i64 y.e) := R8x.out.cell 5
           have hr : r ≤ 256 := HR9.out.lim QY.out)
        | (go_at_call_of 66 (Value.agg #[.bool (scN y q true), .slice R r rc])
           (with_reducible refine (dtext_any (scN y q true) R r rc (limbs (scQ y q true)) q _ R8r.out hr hq1000 R8t.out).mono ?_)
           rw [val_limbs, HT2.out]
           rintro e w9 ⟨rfl, HC9⟩
           have R9a := Lib.hid (R8a.out.belowW HC9.out)
           have R9b := Lib.hid (R8b.out.belowW HC9.out)
           have R9t := Lib.hid (R8t.out.belowW HC9.out)
           have R9x := Lib.hid (R8x.out.belowW HC9.out)
           have R9p := Lib.hid (R8p.out.belowW HC9.out)
           have R9r := Lib.hid (R8r.out.belowW HC9.out)
           have HR9 := Lib.hid (HR8.out.trans (HC9.out.mono HR8.out.size))
           have c9x0 : w9.cell? ⟨w.heap.size, 0, none⟩ = some (.bool x.neg) := R9x.out.cell 0
           have c9x1 : w9.cell? ⟨w.heap.size, 1, none⟩ = some (.slice A n c) := R9x.out.cell 1
           have c9x2 : w9.cell? ⟨w.heap.size, 2, none⟩ = some (.int .i64 x.e) := R9x.out.cell 2
           have c9x3 : w9.cell? ⟨w.heap.size, 3, none⟩ = some (.bool y.neg) := R9x.out.cell 3
           have c9x4 : w9.cell? ⟨w.heap.size, 4, none⟩ = some (.slice B m d) := R9x.out.cell 4
           have c9x5 : w9.cell? ⟨w.heap.size, 5, none⟩ = some (.int .i64 y.e) := R9x.out.cell 5))
      have HL9 := Lib.hid (HL4.out.trans (HR9.out.mono HL4.out.size))
      go_wp2_with fail
      go_ret
      exact ⟨ret_str (ba_list (by rw [HF.out]; unfold textI; rw [HT1.out, HT2.out]; simp)), HL9⟩
end Go.Proofs.YtoogeihbhhcpaaaGreatDoor
