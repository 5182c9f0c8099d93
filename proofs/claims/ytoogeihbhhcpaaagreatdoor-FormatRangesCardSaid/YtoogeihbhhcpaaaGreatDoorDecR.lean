/-
  The walks of the reference's numbers: Sum of opposite signs, Cmp; of its intervals: zero, Valid.
-/
import Derived.Test.YtoogeihbhhcpaaaGreatDoorDecQ
import Derived.Test.YtoogeihbhhcpaaaGreatDoorFrP
set_option linter.unusedVariables false
namespace Go.Fl.Dy
open Go.Fl.Nm
def suX (a b : D) : Nat := 2 ^ (a.e - min a.e b.e).toNat * a.k
def suY (a b : D) : Nat := 2 ^ (b.e - min a.e b.e).toNat * b.k
/-- The sum of two numbers of opposite signs. -/
def sumO (a b : D) : D := if suY a b ≤ suX a b then canon a.neg (suX a b - suY a b) (min a.e b.e) else canon b.neg (suY a b - suX a b) (min a.e b.e)
theorem sg_canon (ng : Bool) (k : Nat) (e : Int) : sg (canon ng k e) = if k = 0 then 0 else if ng then -1 else 1 := by
  unfold sg
  by_cases h : k = 0
  · rw [if_pos h, h]; rfl
  · rw [if_neg h, canon_pos h, if_neg (od_ne h)]
theorem sg_sum {a b : D} (ha : a.k ≠ 0) (h : b.neg = !a.neg) : sg (sumO a b) = sg a * cmpN (suX a b) (suY a b) := by
  have hs : sg a = if a.neg then -1 else 1 := by unfold sg; rw [if_neg ha]
  unfold sumO
  rcases Nat.lt_trichotomy (suX a b) (suY a b) with h1 | h1 | h1
  · rw [if_neg (by omega), sg_canon, if_neg (by omega), cmpN_lt h1, h, hs]
    cases a.neg <;> rfl
  · rw [if_pos (by omega), sg_canon, if_pos (by omega), h1, cmpN_eq rfl, Int.mul_zero]
  · rw [if_pos (by omega), sg_canon, if_neg (by omega), cmpN_gt h1, hs, Int.mul_one]
theorem cmp_ge0 {x y : Nat} (h : y ≤ x) : decide (0 ≤ cmpN x y) = true := by
  rcases Nat.lt_trichotomy x y with h1 | h1 | h1
  · omega
  · rw [cmpN_eq h1]; rfl
  · rw [cmpN_gt h1]; rfl
theorem cmp_lt0 {x y : Nat} (h : x < y) : decide (0 ≤ cmpN x y) = false := by rw [cmpN_lt h]; rfl
end Go.Fl.Dy
namespace Go.Proofs.YtoogeihbhhcpaaaGreatDoor
open Go.RowKit Go.Fl Go.Fl.Nm Go.Fl.Dy
open List renaming setIfInBounds_toArray → qa, set_cons_zero → qb, set_cons_succ → qc, getElem_toArray → qd, getElem_cons_zero → qe, getElem_cons_succ → qf

set_option maxHeartbeats 8000000 in
set_option maxRecDepth 100000 in
theorem uSum (a b : D) (A B : Option Addr) (n c m d : Nat) (w : World) (h1 : Sl w A n c (limbs a.k)) (h2 : Sl w B m d (limbs b.k)) (va : blen a.k ≤ 4096 ∧ -16384 ≤ a.e ∧ a.e ≤ 16384) (vb : blen b.k ≤ 4096 ∧ -16384 ≤ b.e ∧ b.e ≤ 16384) (ha : a.k ≠ 0) (hb : b.k ≠ 0) (hn : b.neg = !a.neg) :
    Calls Tryz.prog 109 #[.agg #[.bool a.neg, .slice A n c, .int .i64 a.e], .agg #[.bool b.neg, .slice B m d, .int .i64 b.e]] w (DyR (sumO a b) w) := by
  have H1 := Lib.hid h1
  have H2 := Lib.hid h2
  have hn0 : 0 < n := by
    rcases Nat.eq_zero_or_pos n with e | e
    · have := h1.len; rw [e, limbs_pos ha] at this; simp at this
    · exact e
  have hm0 : 0 < m := by
    rcases Nat.eq_zero_or_pos m with e | e
    · have := h2.len; rw [e, limbs_pos hb] at this; simp at this
    · exact e
  have hn2 : n ≤ 100000 := by have := h1.lim (k := 128) (by omega); omega
  have hm2 : m ≤ 100000 := by have := h2.lim (k := 128) (by omega); omega
  obtain ⟨e0, he0⟩ : ∃ e, min a.e b.e = e := ⟨_, rfl⟩
  obtain ⟨s1, hs1⟩ : ∃ s : Nat, a.e - e0 = (s : Int) := ⟨(a.e - e0).toNat, by omega⟩
  obtain ⟨s2, hs2⟩ : ∃ s : Nat, b.e - e0 = (s : Int) := ⟨(b.e - e0).toNat, by omega⟩
  obtain ⟨X, hX⟩ : ∃ X, suX a b = X := ⟨_, rfl⟩
  obtain ⟨Y, hY⟩ : ∃ Y, suY a b = Y := ⟨_, rfl⟩
  have HX := Lib.hid (show 2 ^ s1 * val (limbs a.k) = X by rw [val_limbs, ← hX]; unfold suX; rw [he0, hs1, Int.toNat_natCast])
  have HY := Lib.hid (show 2 ^ s2 * val (limbs b.k) = Y by rw [val_limbs, ← hY]; unfold suY; rw [he0, hs2, Int.toNat_natCast])
  have HR := Lib.hid (show sumO a b = if Y ≤ X then canon a.neg (X - Y) e0 else canon b.neg (Y - X) e0 by unfold sumO; rw [hX, hY, he0])
  have hb1 : s1 ≤ 32768 := by omega
  have hb2 : s2 ≤ 32768 := by omega
  have hs1p : s1 ≤ 1000000 := by omega
  have hs2p : s2 ≤ 1000000 := by omega
  have LX := Lib.hid (show blen X ≤ 32 * 1200 by rw [← HX.out, val_limbs]; have := blen_shl s1 ha; omega)
  have LY := Lib.hid (show blen Y ≤ 32 * 1200 by rw [← HY.out, val_limbs]; have := blen_shl s2 hb; omega)
  have dm1 : ((n : Int) == 0) = false := by rw [beq_eq_false_iff_ne]; omega
  have dm2 : ((m : Int) == 0) = false := by rw [beq_eq_false_iff_ne]; omega
  have mn1 : (if a.e < b.e then a.e else b.e) = e0 := by split <;> omega
  have mn2 : (if b.e < a.e then b.e else a.e) = e0 := by split <;> omega
  have w1s : IntKind.i64.wrap (a.e - e0) = (s1 : Int) := by rw [hs1]; exact IntWalk.i64_in _ (by omega)
  have w2s : IntKind.i64.wrap (b.e - e0) = (s2 : Int) := by rw [hs2]; exact IntWalk.i64_in _ (by omega)
  have w3s : IntKind.i64.wrap (s1 : Int) = (s1 : Int) := IntWalk.i64_in _ (by omega)
  have w4s : IntKind.i64.wrap (s2 : Int) = (s2 : Int) := IntWalk.i64_in _ (by omega)
  have dn : (a.neg == b.neg) = false := by rw [hn]; cases a.neg <;> rfl
  have q1 : -1000000000 ≤ e0 := by omega
  have q2 : e0 ≤ 1000000000 := by omega
  obtain ⟨cz, hcz⟩ : ∃ z, cmpN X Y = z := ⟨_, rfl⟩
  have HCZ := Lib.hid hcz
  clear h1 h2 hX hY hn ha hb hcz
  go_enter Tryz.func109, Tryz.ntmps109
  go_wp2_with fail
  obtain ⟨w1, hw⟩ : ∃ z9 : World, z9 = (((w.alloc (.cells #[.bool a.neg, .slice A n c, .int .i64 a.e] 40)).alloc (.cells #[.bool b.neg, .slice B m d, .int .i64 b.e] 40)).alloc (.cells #[.bool false, .slice none 0 0, .int .i64 0] 40)) := ⟨_, rfl⟩
  have HB1 := Lib.hid (show Below w.heap.size w w1 by rw [hw]; exact below_a3 _ _ _ _)
  have F1x := Lib.hid (H1.out.belowW HB1.out)
  have F1y := Lib.hid (H2.out.belowW HB1.out)
  have F1a := Lib.hid (show Blk w1 (w.heap.size) 40 #[.bool a.neg, .slice A n c, .int .i64 a.e] by rw [hw]; exact ((Blk.new _ _ _).alloc _).alloc _)
  have F1b := Lib.hid (show Blk w1 (w.heap.size + 1) 40 #[.bool b.neg, .slice B m d, .int .i64 b.e] by rw [hw]; exact (Blk.new1 _ _ _ _).alloc _)
  have F1r := Lib.hid (show Blk w1 (w.heap.size + 1 + 1) 40 #[.bool false, .slice none 0 0, .int .i64 0] by rw [hw]; exact Blk.new2 _ _ _ _ _)
  rw [← hw]
  clear hw
  have pa0 : (w1).cell? ⟨w.heap.size, 0, none⟩ = some (.bool a.neg) := F1a.out.cell 0
  have fa0 : (w1).frozen? ⟨w.heap.size, 0, none⟩ = false := F1a.out.frozen 0
  have pa1 : (w1).cell? ⟨w.heap.size, 1, none⟩ = some (.slice A n c) := F1a.out.cell 1
  have fa1 : (w1).frozen? ⟨w.heap.size, 1, none⟩ = false := F1a.out.frozen 1
  have pa2 : (w1).cell? ⟨w.heap.size, 2, none⟩ = some (.int .i64 a.e) := F1a.out.cell 2
  have fa2 : (w1).frozen? ⟨w.heap.size, 2, none⟩ = false := F1a.out.frozen 2
  have pb0 : (w1).cell? ⟨w.heap.size + 1, 0, none⟩ = some (.bool b.neg) := F1b.out.cell 0
  have fb0 : (w1).frozen? ⟨w.heap.size + 1, 0, none⟩ = false := F1b.out.frozen 0
  have pb1 : (w1).cell? ⟨w.heap.size + 1, 1, none⟩ = some (.slice B m d) := F1b.out.cell 1
  have fb1 : (w1).frozen? ⟨w.heap.size + 1, 1, none⟩ = false := F1b.out.frozen 1
  have pb2 : (w1).cell? ⟨w.heap.size + 1, 2, none⟩ = some (.int .i64 b.e) := F1b.out.cell 2
  have fb2 : (w1).frozen? ⟨w.heap.size + 1, 2, none⟩ = false := F1b.out.frozen 2
  go_wp2_with fail
  clear pa0 fa0 pa1 fa1 pa2 fa2 pb0 fb0 pb1 fb1 pb2 fb2
  have HR2 := Lib.hid (below_dr w1)
  have R2x := Lib.hid (F1x.out.belowW HR2.out)
  have R2y := Lib.hid (F1y.out.belowW HR2.out)
  have R2a := Lib.hid (F1a.out.belowW HR2.out)
  have R2b := Lib.hid (F1b.out.belowW HR2.out)
  have R2r := Lib.hid (F1r.out.belowW HR2.out)
  refine wp_region_held_drew (S := fun w' => w'.cell? ⟨w.heap.size, 0, none⟩ = some (.bool a.neg) ∧ w'.cell? ⟨w.heap.size, 1, none⟩ = some (.slice A n c) ∧ w'.cell? ⟨w.heap.size, 2, none⟩ = some (.int .i64 a.e) ∧ w'.cell? ⟨w.heap.size + 1, 0, none⟩ = some (.bool b.neg) ∧ w'.cell? ⟨w.heap.size + 1, 1, none⟩ = some (.slice B m d) ∧ w'.cell? ⟨w.heap.size + 1, 2, none⟩ = some (.int .i64 b.e)) (by kernel_rfl) ?_ (fun hHeld => ?_)
  case refine_1 => exact ⟨R2a.out.cell 0, R2a.out.cell 1, R2a.out.cell 2, R2b.out.cell 0, R2b.out.cell 1, R2b.out.cell 2⟩
  refine tkZ 0 rfl (v := ?_) (.inl ⟨by rfl, ?_⟩) ?_
  case refine_2 => intro w9 hSw; (try dsimp only at hSw); go_simp; (try with_reducible rfl)
  try simp only [Act.put, qa, qb, qc, qd, qe]
  refine tkZ 1 rfl (v := ?_) (.inl ⟨by rfl, ?_⟩) ?_
  case refine_2 => intro w9 hSw; (try dsimp only at hSw); go_simp; (try with_reducible rfl)
  try simp only [Act.put, qa, qb, qc, qd, qe, qf]
  refine tkZ 2 rfl (v := ?_) (.inl ⟨by rfl, ?_⟩) ?_
  case refine_2 => intro w9 hSw; (try dsimp only at hSw); go_simp; (try with_reducible rfl)
  try simp only [Act.put, qa, qb, qc, qd, qe, qf]
  refine tkZ 3 rfl (v := ?_) (.inl ⟨by rfl, ?_⟩) ?_
  case refine_2 => intro w9 hSw; (try dsimp only at hSw); go_simp; (try with_reducible rfl)
  try simp only [Act.put, qa, qb, qc, qd, qe, qf]
  refine tkZ 4 rfl (v := ?_) (.inl ⟨by rfl, ?_⟩) ?_
  case refine_2 => intro w9 hSw; (try dsimp only at hSw); go_simp; (try with_reducible rfl)
  try simp only [Act.put, qa, qb, qc, qd, qe, qf]
  refine tkZ 5 rfl (v := ?_) (.inl ⟨by rfl, ?_⟩) ?_
  case refine_2 => intro w9 hSw; (try dsimp only at hSw); go_simp; (try with_reducible rfl)
  try simp only [Act.put, qa, qb, qc, qd, qe, qf]
  refine tkZ 7 rfl (v := ?_) (.inl ⟨by rfl, ?_⟩) ?_
  case refine_2 => intro w9 hSw; (try dsimp only at hSw); go_simp; (try with_reducible rfl)
  try simp only [Act.put, qa, qb, qc, qd, qe, qf]
  refine tkZ 8 rfl (v := ?_) (.inl ⟨by rfl, ?_⟩) ?_
  case refine_2 => intro w9 hSw; (try dsimp only at hSw); go_simp; (try with_reducible rfl)
  try simp only [Act.put, qa, qb, qc, qd, qe, qf]
  refine tkZ 9 rfl (v := ?_) (.inl ⟨by rfl, ?_⟩) ?_
  case refine_2 => intro w9 hSw; (try dsimp only at hSw); go_simp; (try with_reducible rfl)
  try simp only [Act.put, qa, qb, qc, qd, qe, qf]
  refine tkZ 10 rfl (v := ?_) (.inl ⟨by rfl, ?_⟩) ?_
  case refine_2 => intro w9 hSw; (try dsimp only at hSw); go_simp; (try with_reducible rfl)
  try simp only [Act.put, qa, qb, qc, qd, qe, qf]
  refine tkZ 11 rfl (v := ?_) (.inl ⟨by rfl, ?_⟩) ?_
  case refine_2 => intro w9 hSw; (try dsimp only at hSw); go_simp; (try with_reducible rfl)
  try simp only [Act.put, qa, qb, qc, qd, qe, qf]
  refine tkZ 12 rfl (v := ?_) (.inl ⟨by rfl, ?_⟩) ?_
  case refine_2 => intro w9 hSw; (try dsimp only at hSw); go_simp; (try with_reducible rfl)
  try simp only [Act.put, qa, qb, qc, qd, qe, qf]
  refine wpAnyH_ready (rs := [6]) (by kernel_rfl) (by simp) ?_
  refine AllReadyH.cons rfl (fun K hK => ?_) AllReadyH.nil
  go_simp
  (with_reducible refine (uLeft A n c s1 (limbs a.k) _ R2x.out hn2 hs1p).mono ?_)
  rw [HX.out]
  rintro e w3 ⟨P, p, pc, rfl, HP, HC3⟩
  have R3x := Lib.hid (R2x.out.belowW HC3.out)
  have R3y := Lib.hid (R2y.out.belowW HC3.out)
  have R3a := Lib.hid (R2a.out.belowW HC3.out)
  have R3b := Lib.hid (R2b.out.belowW HC3.out)
  have R3r := Lib.hid (R2r.out.belowW HC3.out)
  have HR3 := Lib.hid (HR2.out.trans (HC3.out.mono HR2.out.size))
  have R3p := Lib.hid (HP.out.sl)
  go_wp2_with fail
  clear hHeld
  refine hK.out _ _ ?_ (fun hHeld => ?_)
  case refine_1 => exact ⟨R3a.out.cell 0, R3a.out.cell 1, R3a.out.cell 2, R3b.out.cell 0, R3b.out.cell 1, R3b.out.cell 2⟩
  clear hK K
  try simp only [qa, qb, qc]
  refine wpAnyH_ready (rs := [13]) (by kernel_rfl) (by simp) ?_
  refine AllReadyH.cons rfl (fun K hK => ?_) AllReadyH.nil
  go_simp
  (with_reducible refine (uLeft B m d s2 (limbs b.k) _ R3y.out hm2 hs2p).mono ?_)
  rw [HY.out]
  rintro e w4 ⟨Q, q, qc, rfl, HQ, HC4⟩
  have R4x := Lib.hid (R3x.out.belowW HC4.out)
  have R4y := Lib.hid (R3y.out.belowW HC4.out)
  have R4a := Lib.hid (R3a.out.belowW HC4.out)
  have R4b := Lib.hid (R3b.out.belowW HC4.out)
  have R4r := Lib.hid (R3r.out.belowW HC4.out)
  have R4p := Lib.hid (R3p.out.belowW HC4.out)
  have HR4 := Lib.hid (HR3.out.trans (HC4.out.mono HR3.out.size))
  have R4q := Lib.hid (HQ.out.sl)
  go_wp2_with fail
  clear hHeld
  refine hK.out _ _ ?_ (fun hHeld => ?_)
  case refine_1 => exact ⟨R4a.out.cell 0, R4a.out.cell 1, R4a.out.cell 2, R4b.out.cell 0, R4b.out.cell 1, R4b.out.cell 2⟩
  clear hK K
  try simp only [qa, qb, qc]
  refine tkZ 14 rfl (v := ?_) (.inl ⟨by rfl, ?_⟩) ?_
  case refine_2 => intro w9 hSw; (try dsimp only at hSw); go_simp; (try with_reducible rfl)
  try simp only [Act.put, qa, qb, qc, qd, qe, qf]
  refine tkZ 15 rfl (v := ?_) (.inl ⟨by rfl, ?_⟩) ?_
  case refine_2 => intro w9 hSw; (try dsimp only at hSw); go_simp; (try with_reducible rfl)
  try simp only [Act.put, qa, qb, qc, qd, qe, qf]
  refine wpAnyH_done (by kernel_rfl) ?_ _
  have HL4 := Lib.hid (HB1.out.trans (HR4.out.mono HB1.out.size))
  have hp : p ≤ 9000 := by have := R4p.out.lim LX.out; omega
  have hq : q ≤ 9000 := by have := R4q.out.lim LY.out; omega
  have hp9 : p ≤ 900000 := by omega
  have hq9 : q ≤ 900000 := by omega
  have pa0 : (w4).cell? ⟨w.heap.size, 0, none⟩ = some (.bool a.neg) := R4a.out.cell 0
  have fa0 : (w4).frozen? ⟨w.heap.size, 0, none⟩ = false := R4a.out.frozen 0
  have pa1 : (w4).cell? ⟨w.heap.size, 1, none⟩ = some (.slice A n c) := R4a.out.cell 1
  have fa1 : (w4).frozen? ⟨w.heap.size, 1, none⟩ = false := R4a.out.frozen 1
  have pa2 : (w4).cell? ⟨w.heap.size, 2, none⟩ = some (.int .i64 a.e) := R4a.out.cell 2
  have fa2 : (w4).frozen? ⟨w.heap.size, 2, none⟩ = false := R4a.out.frozen 2
  have pb0 : (w4).cell? ⟨w.heap.size + 1, 0, none⟩ = some (.bool b.neg) := R4b.out.cell 0
  have fb0 : (w4).frozen? ⟨w.heap.size + 1, 0, none⟩ = false := R4b.out.frozen 0
  have pb1 : (w4).cell? ⟨w.heap.size + 1, 1, none⟩ = some (.slice B m d) := R4b.out.cell 1
  have fb1 : (w4).frozen? ⟨w.heap.size + 1, 1, none⟩ = false := R4b.out.frozen 1
  have pb2 : (w4).cell? ⟨w.heap.size + 1, 2, none⟩ = some (.int .i64 b.e) := R4b.out.cell 2
  have fb2 : (w4).frozen? ⟨w.heap.size + 1, 2, none⟩ = false := R4b.out.frozen 2
  go_wp2_with fail
  refine (uCompare P Q p pc q qc X Y w4 R4p.out R4q.out hp9 hq9).mono ?_
  rw [HCZ.out]
  rintro e w5 ⟨rfl, HB5⟩
  have F5x := Lib.hid (R4x.out.belowW HB5.out)
  have F5y := Lib.hid (R4y.out.belowW HB5.out)
  have F5a := Lib.hid (R4a.out.belowW HB5.out)
  have F5b := Lib.hid (R4b.out.belowW HB5.out)
  have F5r := Lib.hid (R4r.out.belowW HB5.out)
  have F5p := Lib.hid (R4p.out.belowW HB5.out)
  have F5q := Lib.hid (R4q.out.belowW HB5.out)
  have HL5 := Lib.hid (HL4.out.trans (HB5.out.mono HL4.out.size))
  clear pa0 fa0 pa1 fa1 pa2 fa2 pb0 fb0 pb1 fb1 pb2 fb2
  have pa0 : (w5).cell? ⟨w.heap.size, 0, none⟩ = some (.bool a.neg) := F5a.out.cell 0
  have fa0 : (w5).frozen? ⟨w.heap.size, 0, none⟩ = false := F5a.out.frozen 0
  have pa1 : (w5).cell? ⟨w.heap.size, 1, none⟩ = some (.slice A n c) := F5a.out.cell 1
  have fa1 : (w5).frozen? ⟨w.heap.size, 1, none⟩ = false := F5a.out.frozen 1
  have pa2 : (w5).cell? ⟨w.heap.size, 2, none⟩ = some (.int .i64 a.e) := F5a.out.cell 2
  have fa2 : (w5).frozen? ⟨w.heap.size, 2, none⟩ = false := F5a.out.frozen 2
  have pb0 : (w5).cell? ⟨w.heap.size + 1, 0, none⟩ = some (.bool b.neg) := F5b.out.cell 0
  have fb0 : (w5).frozen? ⟨w.heap.size + 1, 0, none⟩ = false := F5b.out.frozen 0
  have pb1 : (w5).cell? ⟨w.heap.size + 1, 1, none⟩ = some (.slice B m d) := F5b.out.cell 1
  have fb1 : (w5).frozen? ⟨w.heap.size + 1, 1, none⟩ = false := F5b.out.frozen 1
  have pb2 : (w5).cell? ⟨w.heap.size + 1, 2, none⟩ = some (.int .i64 b.e) := F5b.out.cell 2
  have fb2 : (w5).frozen? ⟨w.heap.size + 1, 2, none⟩ = false := F5b.out.frozen 2
  by_cases hle : Y ≤ X
  case pos =>
    have hc0 : decide (0 ≤ cz) = true := by rw [← HCZ.out]; exact cmp_ge0 hle
    have HLE := Lib.hid (show val (limbs Y) ≤ val (limbs X) by rw [val_limbs, val_limbs]; omega)
    obtain ⟨Dv, hDv⟩ : ∃ z, X - Y = z := ⟨_, rfl⟩
    have HDV := Lib.hid (show val (limbs X) - val (limbs Y) = Dv by rw [val_limbs, val_limbs, hDv])
    have HRR := Lib.hid (show sumO a b = canon a.neg Dv e0 by rw [HR.out, if_pos hle, hDv])
    have LD := Lib.hid (show blen Dv ≤ 32 * 1200 by have h1 := LX.out; have h2 := LY.out; have h3 := blen_mono (show Dv ≤ X by omega); omega)
    clear hle hDv
    go_wp2_with fail
    obtain ⟨zz, hzz⟩ : ∃ z, canon a.neg Dv e0 = z := ⟨_, rfl⟩
    have HZZ := Lib.hid (show canon a.neg (val (limbs Dv)) e0 = zz by rw [val_limbs, hzz])
    rw [hzz] at HRR
    clear hzz
    have HR6 := Lib.hid (below_dr w5)
    have R6x := Lib.hid (F5x.out.belowW HR6.out)
    have R6y := Lib.hid (F5y.out.belowW HR6.out)
    have R6a := Lib.hid (F5a.out.belowW HR6.out)
    have R6b := Lib.hid (F5b.out.belowW HR6.out)
    have R6r := Lib.hid (F5r.out.belowW HR6.out)
    have R6p := Lib.hid (F5p.out.belowW HR6.out)
    have R6q := Lib.hid (F5q.out.belowW HR6.out)
    refine wp_region_held_drew (S := fun w' => w'.cell? ⟨w.heap.size, 0, none⟩ = some (.bool a.neg)) (by kernel_rfl) ?_ (fun hHeld => ?_)
    case refine_1 => exact R6a.out.cell 0
    refine tkZ 0 rfl (v := ?_) (.inl ⟨by rfl, ?_⟩) ?_
    case refine_2 => intro w9 hSw; (try dsimp only at hSw); go_simp; (try with_reducible rfl)
    try simp only [Act.put, qa, qb, qc, qd, qe]
    refine tkZ 1 rfl (v := ?_) (.inl ⟨by rfl, ?_⟩) ?_
    case refine_2 => intro w9 hSw; (try dsimp only at hSw); go_simp; (try with_reducible rfl)
    try simp only [Act.put, qa, qb, qc, qd, qe, qf]
    refine tkZ 2 rfl (v := ?_) (.inl ⟨by rfl, ?_⟩) ?_
    case refine_2 => intro w9 hSw; (try dsimp only at hSw); go_simp; (try with_reducible rfl)
    try simp only [Act.put, qa, qb, qc, qd, qe, qf]
    refine tkZ 3 rfl (v := ?_) (.inl ⟨by rfl, ?_⟩) ?_
    case refine_2 => intro w9 hSw; (try dsimp only at hSw); go_simp; (try with_reducible rfl)
    try simp only [Act.put, qa, qb, qc, qd, qe, qf]
    refine tkZ 5 rfl (v := ?_) (.inl ⟨by rfl, ?_⟩) ?_
    case refine_2 => intro w9 hSw; (try dsimp only at hSw); go_simp; (try with_reducible rfl)
    try simp only [Act.put, qa, qb, qc, qd, qe, qf]
    refine wpAnyH_ready (rs := [4]) (by kernel_rfl) (by simp) ?_
    refine AllReadyH.cons rfl (fun K hK => ?_) AllReadyH.nil
    go_simp
    (with_reducible refine (uMinus P Q p pc q qc (limbs X) (limbs Y) _ R6p.out R6q.out hp9 hq9 HLE.out).mono ?_)
    rw [HDV.out]
    rintro e w7 ⟨T, t, tc, rfl, HT, HC7⟩
    have R7x := Lib.hid (R6x.out.belowW HC7.out)
    have R7y := Lib.hid (R6y.out.belowW HC7.out)
    have R7a := Lib.hid (R6a.out.belowW HC7.out)
    have R7b := Lib.hid (R6b.out.belowW HC7.out)
    have R7r := Lib.hid (R6r.out.belowW HC7.out)
    have R7p := Lib.hid (R6p.out.belowW HC7.out)
    have R7q := Lib.hid (R6q.out.belowW HC7.out)
    have HR7 := Lib.hid (HR6.out.trans (HC7.out.mono HR6.out.size))
    have R7t := Lib.hid (HT.out.sl)
    have ht9 : t ≤ 9000 := by have := HT.out.sl.lim LD.out; omega
    go_wp2_with fail
    clear hHeld
    refine hK.out _ _ ?_ (fun hHeld => ?_)
    case refine_1 => exact R7a.out.cell 0
    clear hK K
    try simp only [qa, qb, qc]
    refine wpAnyH_ready (rs := [6]) (by kernel_rfl) (by simp) ?_
    refine AllReadyH.cons rfl (fun K hK => ?_) AllReadyH.nil
    go_simp
    (with_reducible refine (uOf a.neg T t tc (limbs Dv) e0 _ R7t.out ht9 q1 q2).mono ?_)
    rw [HZZ.out]
    rintro e w8 ⟨U, u, uc, rfl, HU, HC8⟩
    have R8x := Lib.hid (R7x.out.belowW HC8.out)
    have R8y := Lib.hid (R7y.out.belowW HC8.out)
    have R8a := Lib.hid (R7a.out.belowW HC8.out)
    have R8b := Lib.hid (R7b.out.belowW HC8.out)
    have R8r := Lib.hid (R7r.out.belowW HC8.out)
    have R8p := Lib.hid (R7p.out.belowW HC8.out)
    have R8q := Lib.hid (R7q.out.belowW HC8.out)
    have R8t := Lib.hid (R7t.out.belowW HC8.out)
    have HR8 := Lib.hid (HR7.out.trans (HC8.out.mono HR7.out.size))
    have R8u := Lib.hid (HU.out)
    go_wp2_with fail
    clear hHeld
    refine hK.out _ _ ?_ (fun hHeld => ?_)
    case refine_1 => exact R8a.out.cell 0
    clear hK K
    try simp only [qa, qb, qc]
    refine wpAnyH_ready (rs := [7]) (by kernel_rfl) (by simp) ?_
    refine AllReadyH.cons rfl (fun K hK => ?_) AllReadyH.nil
    have pr0 : (w8).cell? ⟨w.heap.size + 1 + 1, 0, none⟩ = some (.bool false) := R8r.out.cell 0
    have fr0 : (w8).frozen? ⟨w.heap.size + 1 + 1, 0, none⟩ = false := R8r.out.frozen 0
    have pr1 : (w8).cell? ⟨w.heap.size + 1 + 1, 1, none⟩ = some (.slice none 0 0) := R8r.out.cell 1
    have fr1 : (w8).frozen? ⟨w.heap.size + 1 + 1, 1, none⟩ = false := R8r.out.frozen 1
    have pr2 : (w8).cell? ⟨w.heap.size + 1 + 1, 2, none⟩ = some (.int .i64 0) := R8r.out.cell 2
    have fr2 : (w8).frozen? ⟨w.heap.size + 1 + 1, 2, none⟩ = false := R8r.out.frozen 2
    go_simp
    rw [store3_put R8r.out]
    have SR9 := Lib.hid (R8r.out.put #[.bool zz.neg, .slice U u uc, .int .i64 zz.e])
    have SL8 := Lib.hid (HL5.out.trans (HR8.out.mono HL5.out.size))
    have SL9 := Lib.hid (SL8.out.trans (putB_below w8 _ 40 #[.bool zz.neg, .slice U u uc, .int .i64 zz.e] (show w.heap.size ≤ w.heap.size + 1 + 1 by omega)))
    have SS90 := Lib.hid (R8u.out.far R8r.out noU3 (putB_grown w8 _ 40 #[.bool zz.neg, .slice U u uc, .int .i64 zz.e]))
    have SO9a := Lib.hid (R8a.out.far (t' := 40) (show w.heap.size ≠ w.heap.size + 1 + 1 by omega) #[.bool zz.neg, .slice U u uc, .int .i64 zz.e])
    clear pr0 fr0 pr1 fr1 pr2 fr2
    obtain ⟨w9, hw⟩ : ∃ z9 : World, z9 = putB w8 (w.heap.size + 1 + 1) 40 #[.bool zz.neg, .slice U u uc, .int .i64 zz.e] := ⟨_, rfl⟩
    rw [← hw] at SR9 SL9 SS90 SO9a ⊢
    clear hw hHeld
    refine hK.out _ _ ?_ (fun hHeld => ?_)
    case refine_1 => exact SO9a.out.cell 0
    clear hK K
    try simp only [qa, qb, qc]
    refine wpAnyH_done (by kernel_rfl) ?_ _
    clear pa0 fa0 pa1 fa1 pa2 fa2 pb0 fb0 pb1 fb1 pb2 fb2
    have pr0 : (w9).cell? ⟨w.heap.size + 1 + 1, 0, none⟩ = some (.bool zz.neg) := SR9.out.cell 0
    have fr0 : (w9).frozen? ⟨w.heap.size + 1 + 1, 0, none⟩ = false := SR9.out.frozen 0
    have pr1 : (w9).cell? ⟨w.heap.size + 1 + 1, 1, none⟩ = some (.slice U u uc) := SR9.out.cell 1
    have fr1 : (w9).frozen? ⟨w.heap.size + 1 + 1, 1, none⟩ = false := SR9.out.frozen 1
    have pr2 : (w9).cell? ⟨w.heap.size + 1 + 1, 2, none⟩ = some (.int .i64 zz.e) := SR9.out.cell 2
    have fr2 : (w9).frozen? ⟨w.heap.size + 1 + 1, 2, none⟩ = false := SR9.out.frozen 2
    go_wp2_with fail
    refine bodyPost_ret (v := .agg #[.bool zz.neg, .slice U u uc, .int .i64 zz.e]) (by simp [results, Tryz.results109, go_sem, pr0, pr1, pr2]) rfl ?_
    rw [HRR.out]
    exact ⟨U, u, uc, rfl, SS90, SL9⟩
  case neg =>
    have hc0 : decide (0 ≤ cz) = false := by rw [← HCZ.out]; exact cmp_lt0 (by omega)
    have HLE := Lib.hid (show val (limbs X) ≤ val (limbs Y) by rw [val_limbs, val_limbs]; omega)
    obtain ⟨Dv, hDv⟩ : ∃ z, Y - X = z := ⟨_, rfl⟩
    have HDV := Lib.hid (show val (limbs Y) - val (limbs X) = Dv by rw [val_limbs, val_limbs, hDv])
    have HRR := Lib.hid (show sumO a b = canon b.neg Dv e0 by rw [HR.out, if_neg hle, hDv])
    have LD := Lib.hid (show blen Dv ≤ 32 * 1200 by have h1 := LX.out; have h2 := LY.out; have h3 := blen_mono (show Dv ≤ Y by omega); omega)
    clear hle hDv
    go_wp2_with fail
    obtain ⟨zz, hzz⟩ : ∃ z, canon b.neg Dv e0 = z := ⟨_, rfl⟩
    have HZZ := Lib.hid (show canon b.neg (val (limbs Dv)) e0 = zz by rw [val_limbs, hzz])
    rw [hzz] at HRR
    clear hzz
    have HR6 := Lib.hid (below_dr w5)
    have R6x := Lib.hid (F5x.out.belowW HR6.out)
    have R6y := Lib.hid (F5y.out.belowW HR6.out)
    have R6a := Lib.hid (F5a.out.belowW HR6.out)
    have R6b := Lib.hid (F5b.out.belowW HR6.out)
    have R6r := Lib.hid (F5r.out.belowW HR6.out)
    have R6p := Lib.hid (F5p.out.belowW HR6.out)
    have R6q := Lib.hid (F5q.out.belowW HR6.out)
    refine wp_region_held_drew (S := fun w' => w'.cell? ⟨w.heap.size + 1, 0, none⟩ = some (.bool b.neg)) (by kernel_rfl) ?_ (fun hHeld => ?_)
    case refine_1 => exact R6b.out.cell 0
    refine tkZ 0 rfl (v := ?_) (.inl ⟨by rfl, ?_⟩) ?_
    case refine_2 => intro w9 hSw; (try dsimp only at hSw); go_simp; (try with_reducible rfl)
    try simp only [Act.put, qa, qb, qc, qd, qe]
    refine tkZ 1 rfl (v := ?_) (.inl ⟨by rfl, ?_⟩) ?_
    case refine_2 => intro w9 hSw; (try dsimp only at hSw); go_simp; (try with_reducible rfl)
    try simp only [Act.put, qa, qb, qc, qd, qe, qf]
    refine tkZ 2 rfl (v := ?_) (.inl ⟨by rfl, ?_⟩) ?_
    case refine_2 => intro w9 hSw; (try dsimp only at hSw); go_simp; (try with_reducible rfl)
    try simp only [Act.put, qa, qb, qc, qd, qe, qf]
    refine tkZ 3 rfl (v := ?_) (.inl ⟨by rfl, ?_⟩) ?_
    case refine_2 => intro w9 hSw; (try dsimp only at hSw); go_simp; (try with_reducible rfl)
    try simp only [Act.put, qa, qb, qc, qd, qe, qf]
    refine tkZ 5 rfl (v := ?_) (.inl ⟨by rfl, ?_⟩) ?_
    case refine_2 => intro w9 hSw; (try dsimp only at hSw); go_simp; (try with_reducible rfl)
    try simp only [Act.put, qa, qb, qc, qd, qe, qf]
    refine wpAnyH_ready (rs := [4]) (by kernel_rfl) (by simp) ?_
    refine AllReadyH.cons rfl (fun K hK => ?_) AllReadyH.nil
    go_simp
    (with_reducible refine (uMinus Q P q qc p pc (limbs Y) (limbs X) _ R6q.out R6p.out hq9 hp9 HLE.out).mono ?_)
    rw [HDV.out]
    rintro e w7 ⟨T, t, tc, rfl, HT, HC7⟩
    have R7x := Lib.hid (R6x.out.belowW HC7.out)
    have R7y := Lib.hid (R6y.out.belowW HC7.out)
    have R7a := Lib.hid (R6a.out.belowW HC7.out)
    have R7b := Lib.hid (R6b.out.belowW HC7.out)
    have R7r := Lib.hid (R6r.out.belowW HC7.out)
    have R7p := Lib.hid (R6p.out.belowW HC7.out)
    have R7q := Lib.hid (R6q.out.belowW HC7.out)
    have HR7 := Lib.hid (HR6.out.trans (HC7.out.mono HR6.out.size))
    have R7t := Lib.hid (HT.out.sl)
    have ht9 : t ≤ 9000 := by have := HT.out.sl.lim LD.out; omega
    go_wp2_with fail
    clear hHeld
    refine hK.out _ _ ?_ (fun hHeld => ?_)
    case refine_1 => exact R7b.out.cell 0
    clear hK K
    try simp only [qa, qb, qc]
    refine wpAnyH_ready (rs := [6]) (by kernel_rfl) (by simp) ?_
    refine AllReadyH.cons rfl (fun K hK => ?_) AllReadyH.nil
    go_simp
    (with_reducible refine (uOf b.neg T t tc (limbs Dv) e0 _ R7t.out ht9 q1 q2).mono ?_)
    rw [HZZ.out]
    rintro e w8 ⟨U, u, uc, rfl, HU, HC8⟩
    have R8x := Lib.hid (R7x.out.belowW HC8.out)
    have R8y := Lib.hid (R7y.out.belowW HC8.out)
    have R8a := Lib.hid (R7a.out.belowW HC8.out)
    have R8b := Lib.hid (R7b.out.belowW HC8.out)
    have R8r := Lib.hid (R7r.out.belowW HC8.out)
    have R8p := Lib.hid (R7p.out.belowW HC8.out)
    have R8q := Lib.hid (R7q.out.belowW HC8.out)
    have R8t := Lib.hid (R7t.out.belowW HC8.out)
    have HR8 := Lib.hid (HR7.out.trans (HC8.out.mono HR7.out.size))
    have R8u := Lib.hid (HU.out)
    go_wp2_with fail
    clear hHeld
    refine hK.out _ _ ?_ (fun hHeld => ?_)
    case refine_1 => exact R8b.out.cell 0
    clear hK K
    try simp only [qa, qb, qc]
    refine wpAnyH_ready (rs := [7]) (by kernel_rfl) (by simp) ?_
    refine AllReadyH.cons rfl (fun K hK => ?_) AllReadyH.nil
    have pr0 : (w8).cell? ⟨w.heap.size + 1 + 1, 0, none⟩ = some (.bool false) := R8r.out.cell 0
    have fr0 : (w8).frozen? ⟨w.heap.size + 1 + 1, 0, none⟩ = false := R8r.out.frozen 0
    have pr1 : (w8).cell? ⟨w.heap.size + 1 + 1, 1, none⟩ = some (.slice none 0 0) := R8r.out.cell 1
    have fr1 : (w8).frozen? ⟨w.heap.size + 1 + 1, 1, none⟩ = false := R8r.out.frozen 1
    have pr2 : (w8).cell? ⟨w.heap.size + 1 + 1, 2, none⟩ = some (.int .i64 0) := R8r.out.cell 2
    have fr2 : (w8).frozen? ⟨w.heap.size + 1 + 1, 2, none⟩ = false := R8r.out.frozen 2
    go_simp
    rw [store3_put R8r.out]
    have SR9 := Lib.hid (R8r.out.put #[.bool zz.neg, .slice U u uc, .int .i64 zz.e])
    have SL8 := Lib.hid (HL5.out.trans (HR8.out.mono HL5.out.size))
    have SL9 := Lib.hid (SL8.out.trans (putB_below w8 _ 40 #[.bool zz.neg, .slice U u uc, .int .i64 zz.e] (show w.heap.size ≤ w.heap.size + 1 + 1 by omega)))
    have SS90 := Lib.hid (R8u.out.far R8r.out noU3 (putB_grown w8 _ 40 #[.bool zz.neg, .slice U u uc, .int .i64 zz.e]))
    have SO9b := Lib.hid (R8b.out.far (t' := 40) (show w.heap.size + 1 ≠ w.heap.size + 1 + 1 by omega) #[.bool zz.neg, .slice U u uc, .int .i64 zz.e])
    clear pr0 fr0 pr1 fr1 pr2 fr2
    obtain ⟨w9, hw⟩ : ∃ z9 : World, z9 = putB w8 (w.heap.size + 1 + 1) 40 #[.bool zz.neg, .slice U u uc, .int .i64 zz.e] := ⟨_, rfl⟩
    rw [← hw] at SR9 SL9 SS90 SO9b ⊢
    clear hw hHeld
    refine hK.out _ _ ?_ (fun hHeld => ?_)
    case refine_1 => exact SO9b.out.cell 0
    clear hK K
    try simp only [qa, qb, qc]
    refine wpAnyH_done (by kernel_rfl) ?_ _
    clear pa0 fa0 pa1 fa1 pa2 fa2 pb0 fb0 pb1 fb1 pb2 fb2
    have pr0 : (w9).cell? ⟨w.heap.size + 1 + 1, 0, none⟩ = some (.bool zz.neg) := SR9.out.cell 0
    have fr0 : (w9).frozen? ⟨w.heap.size + 1 + 1, 0, none⟩ = false := SR9.out.frozen 0
    have pr1 : (w9).cell? ⟨w.heap.size + 1 + 1, 1, none⟩ = some (.slice U u uc) := SR9.out.cell 1
    have fr1 : (w9).frozen? ⟨w.heap.size + 1 + 1, 1, none⟩ = false := SR9.out.frozen 1
    have pr2 : (w9).cell? ⟨w.heap.size + 1 + 1, 2, none⟩ = some (.int .i64 zz.e) := SR9.out.cell 2
    have fr2 : (w9).frozen? ⟨w.heap.size + 1 + 1, 2, none⟩ = false := SR9.out.frozen 2
    go_wp2_with fail
    refine bodyPost_ret (v := .agg #[.bool zz.neg, .slice U u uc, .int .i64 zz.e]) (by simp [results, Tryz.results109, go_sem, pr0, pr1, pr2]) rfl ?_
    rw [HRR.out]
    exact ⟨U, u, uc, rfl, SS90, SL9⟩
end Go.Proofs.YtoogeihbhhcpaaaGreatDoor
