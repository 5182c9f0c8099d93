/-
  The walks of the reference's ten and Compare.
-/
import Derived.Test.YtffdkakogeofmaaGreatDoorDeG
import Derived.Test.YtffdkakogeofmaaGreatDoorDeH
set_option linter.unusedVariables false
namespace Go.Proofs.YtffdkakogeofmaaGreatDoor
open Go.RowKit Go.Fl Go.Fl.Nm Go.Fl.Dy
def TnRel2 (w : World) (n : Nat) (k : Nat) (nv ov : Value) (wr : World) : Prop :=
  ∃ (A : Option Addr) (m c j : Nat), ov = .slice A m c ∧ nv = .int .i64 (j : Int) ∧ j = k ∧ j ≤ n ∧ Hid (Sl wr A m c (limbs (10 ^ (n - j)))) ∧ Hid (Below w.heap.size w wr)
set_option maxHeartbeats 2000000 in
theorem ten11b (n : Nat) (w : World) (hn : n ≤ 1000) :
    Calls Tryz.prog 72 #[.int .i64 n] w (SlQ (10 ^ n) w) := by
  go_enter Tryz.func72, Tryz.ntmps72
  go_wp2_with fail
  have HS0 := Lib.hid (Sl.one (x := 1) (Blk.new w 49 #[.int .u32 1]) (by unfold BB; omega))
  have HL0 := Lib.hid (below_a1 w (.cells #[.int .u32 1] 49))
  have HE0 := Lib.hid (show [1] = limbs (10 ^ (n - n)) by rw [Nat.sub_self, Nat.pow_zero]; exact (limbs_one (by omega) (by unfold BB; omega)).symm)
  rw [HE0.out] at HS0
  go_loopg [0, 3] n (TnRel2 w n)
  case atStart => exact ⟨_, 1, 1, n, rfl, rfl, rfl, Nat.le_refl _, HS0, HL0⟩
  case round =>
    clear HS0 HL0 HE0
    obtain ⟨A, m, c, j, rfl, rfl, rfl, hj, HS, HL⟩ := hrel
    cases j with
    | zero =>
      have HV := Lib.hid (show n - 0 = n from rfl)
      rw [HV.out] at HS
      go_wp2_with fail
      go_ret
      exact ⟨A, m, c, rfl, HS, HL⟩
    | succ i =>
      have dj : decide ((0 : Int) < ((i + 1 : Nat) : Int)) = true := decide_eq_true (by omega)
      have dj2 : decide (0 < i + 1) = true := decide_eq_true (by omega)
      have e1 : ((i + 1 : Nat) : Int) - 1 = (i : Int) := by omega
      have HP := Lib.hid (show val (limbs (10 ^ (n - (i + 1)))) * val [10] = 10 ^ (n - i) by rw [val_limbs, val_cons, val_nil, Nat.mul_zero, Nat.add_zero, ← Nat.pow_succ]; congr 1; omega)
      have hm : m ≤ 100000 := by
        have h1 := HS.out.lim (k := 256) (by have := blen_ten (n - (i + 1)); omega)
        omega
      go_wp2_with fail
      obtain ⟨w1, hw⟩ : ∃ z9 : World, z9 = wr.alloc (.cells #[.int .u32 10] 49) := ⟨_, rfl⟩
      have HB1 := Lib.hid (show Below wr.heap.size wr w1 by rw [hw]; exact below_a1 _ _)
      have S1 := Lib.hid (HS.out.belowW HB1.out)
      have T1 := Lib.hid (show Sl w1 (some ⟨wr.heap.size, 0, none⟩) 1 1 [10] by rw [hw]; exact Sl.one (x := 10) (Blk.new _ _ _) (by unfold BB; omega))
      have L1 := Lib.hid (HL.out.trans (HB1.out.mono HL.out.size))
      rw [← hw]
      clear hw
      refine (rMul A (some ⟨wr.heap.size, 0, none⟩) m c 1 1 (limbs (10 ^ (n - (i + 1)))) [10] w1 S1.out T1.out hm (by omega)).mono ?_
      rw [HP.out]
      rintro e w2 ⟨P, p, pc, rfl, HS2, HB2⟩
      have L2 := Lib.hid (L1.out.trans (HB2.out.mono L1.out.size))
      go_wp2_with fail
      go_roundg i
      case measure => omega
      case rel => exact ⟨P, p, pc, i, rfl, by go_num, rfl, by omega, Lib.hid HS2.out.sl, L2⟩
set_option maxHeartbeats 8000000 in
set_option maxRecDepth 100000 in
theorem compare11 (s1 s2 : ByteArray) (l1 l2 : List UInt8) (b1 b2 : Nat) (n1 n2 : Bool) (w : World) (h1 : s1.data.toList = l1) (h2 : s2.data.toList = l2) (d1 : l1.all Nm.isDig = true) (d2 : l2.all Nm.isDig = true)
    (z1 : l1.length ≤ 600) (z2 : l2.length ≤ 600) (y1 : b1 ≤ 600) (y2 : b2 ≤ 600) :
    Calls Tryz.prog 38 #[.agg #[.string s1, .int .i64 (b1 : Int), .bool n1], .agg #[.string s2, .int .i64 (b2 : Int), .bool n2]] w (Ret (.int .i64 (cmpV n1 (dval l1 * 10 ^ b2) n2 (dval l2 * 10 ^ b1))) w) := by
  have HV1 := Lib.hid (show blen (dval l1) ≤ 32 * 100 from dval_bits d1 z1)
  have HV2 := Lib.hid (show blen (dval l2) ≤ 32 * 100 from dval_bits d2 z2)
  have HT1 := Lib.hid (show blen (10 ^ b1) ≤ 32 * 100 by have := blen_ten b1; omega)
  have HT2 := Lib.hid (show blen (10 ^ b2) ≤ 32 * 100 by have := blen_ten b2; omega)
  have HXB := Lib.hid (show blen (dval l1 * 10 ^ b2) ≤ 32 * 200 by have := blen_mul_le' (dval l1) (10 ^ b2); have := HV1.out; have := HT2.out; omega)
  have HYB := Lib.hid (show blen (dval l2 * 10 ^ b1) ≤ 32 * 200 by have := blen_mul_le' (dval l2) (10 ^ b1); have := HV2.out; have := HT1.out; omega)
  have HPX := Lib.hid (show val (limbs (dval l1)) * val (limbs (10 ^ b2)) = dval l1 * 10 ^ b2 by rw [val_limbs, val_limbs])
  have HPY := Lib.hid (show val (limbs (dval l2)) * val (limbs (10 ^ b1)) = dval l2 * 10 ^ b1 by rw [val_limbs, val_limbs])
  have K1 := Lib.hid (show 100 ≤ 100000 by omega)
  have K2 := Lib.hid (show 200 ≤ 1000000 by omega)
  have Y1 := Lib.hid (show b1 ≤ 1000 by omega)
  have Y2 := Lib.hid (show b2 ≤ 1000 by omega)
  have H1 := Lib.hid h1
  have H2 := Lib.hid h2
  have D1 := Lib.hid d1
  have D2 := Lib.hid d2
  have Z1 := Lib.hid z1
  have Z2 := Lib.hid z2
  clear h1 h2 d1 d2 z1 z2 y1 y2
  obtain ⟨XV, hXV⟩ : ∃ v, dval l1 * 10 ^ b2 = v := ⟨_, rfl⟩
  obtain ⟨YV, hYV⟩ : ∃ v, dval l2 * 10 ^ b1 = v := ⟨_, rfl⟩
  rw [hXV] at HXB HPX
  rw [hYV] at HYB HPY
  rw [hXV, hYV]
  clear hXV hYV
  have HCV := Lib.hid (show cmpN (val (limbs XV)) (val (limbs YV)) = cmpN XV YV by rw [val_limbs, val_limbs])
  obtain ⟨cz, hcz⟩ : ∃ z, cmpN XV YV = z := ⟨_, rfl⟩
  have HCZ := Lib.hid hcz
  have hc1 : -1 ≤ cz := by rw [← hcz]; unfold cmpN; split <;> (try split) <;> omega
  have hc2 : cz ≤ 1 := by rw [← hcz]; unfold cmpN; split <;> (try split) <;> omega
  have hc3 : IntKind.i64.wrap (0 - cz) = -cz := by rw [Int.zero_sub]; exact IntWalk.i64_in _ (by omega)
  have hc4 : IntKind.i64.wrap (-cz) = -cz := IntWalk.i64_in _ (by omega)
  rw [hcz] at HCV
  clear hcz
  obtain ⟨gx, hgx⟩ : ∃ g, decide (0 < blen XV) = g := ⟨_, rfl⟩
  obtain ⟨gy, hgy⟩ : ∃ g, decide (0 < blen YV) = g := ⟨_, rfl⟩
  have HGX := Lib.hid hgx
  have HGY := Lib.hid hgy
  clear hgx hgy
  have hgx2 : decide ((0 : Int) < (blen XV : Int)) = gx := by rw [← HGX.out, decide_eq_decide]; omega
  have hgy2 : decide ((0 : Int) < (blen YV : Int)) = gy := by rw [← HGY.out, decide_eq_decide]; omega
  have HBX := Lib.hid (show blen (val (limbs XV)) = blen XV by rw [val_limbs])
  have HBY := Lib.hid (show blen (val (limbs YV)) = blen YV by rw [val_limbs])
  have hgx3 : decide (0 < blen XV) = gx := HGX.out
  have hgy3 : decide (0 < blen YV) = gy := HGY.out
  have HCM := Lib.hid (show cmpV n1 XV n2 YV = if (n1 && gx) = true then (if (n2 && gy) = true then -cz else -1) else if (n2 && gy) = true then 1 else cz by unfold cmpV; rw [HGX.out, HGY.out, HCZ.out])
  go_enter Tryz.func38, Tryz.ntmps38
  go_wp2_with fail
  obtain ⟨w1, hw⟩ : ∃ z9 : World, z9 = ((w.alloc (.cells #[.string s1, .int .i64 (b1 : Int), .bool n1] 64)).alloc (.cells #[.string s2, .int .i64 (b2 : Int), .bool n2] 64)) := ⟨_, rfl⟩
  have HB1 := Lib.hid (show Below w.heap.size w w1 by rw [hw]; exact below_a2 _ _ _)
  have F1a := Lib.hid (show Blk w1 (w.heap.size) 64 #[.string s1, .int .i64 (b1 : Int), .bool n1] by rw [hw]; exact (Blk.new _ _ _).alloc _)
  have F1b := Lib.hid (show Blk w1 (w.heap.size + 1) 64 #[.string s2, .int .i64 (b2 : Int), .bool n2] by rw [hw]; exact Blk.new1 _ _ _ _)
  rw [← hw]
  clear hw
  obtain ⟨pa0, fa0, pa1, fa1, pa2, fa2⟩ := F1a.out.all3
  obtain ⟨pb0, fb0, pb1, fb1, pb2, fb2⟩ := F1b.out.all3
  go_wp2_with fail
  clear pa0 fa0 pa1 fa1 pa2 fa2 pb0 fb0 pb1 fb1 pb2 fb2
  have HR2 := Lib.hid (below_dr w1)
  have R2a := Lib.hid (F1a.out.belowW HR2.out)
  have R2b := Lib.hid (F1b.out.belowW HR2.out)
  refine wp_region_held_drew (S := fun w' => w'.cell? ⟨w.heap.size, 0, none⟩ = some (.string s1) ∧ w'.cell? ⟨w.heap.size, 1, none⟩ = some (.int .i64 (b1 : Int)) ∧ w'.cell? ⟨w.heap.size, 2, none⟩ = some (.bool n1) ∧ w'.cell? ⟨w.heap.size + 1, 0, none⟩ = some (.string s2) ∧ w'.cell? ⟨w.heap.size + 1, 1, none⟩ = some (.int .i64 (b2 : Int)) ∧ w'.cell? ⟨w.heap.size + 1, 2, none⟩ = some (.bool n2)) (by kernel_rfl) ?_ (fun hHeld => ?_)
  case refine_1 => exact ⟨R2a.out.cell 0, R2a.out.cell 1, R2a.out.cell 2, R2b.out.cell 0, R2b.out.cell 1, R2b.out.cell 2⟩
  refine wpAnyH_take (i := 0) (oi := _) (v := ?_) rfl (by kernel_rfl) (by kernel_rfl) (by kernel_rfl) (fun _ _ _ h => h) (Or.inl ⟨by rfl, ?_⟩) (by assumption) ?_
  case refine_2 =>
    intro w9 hSw
    (try dsimp only at hSw)
    go_simp
    (try with_reducible rfl)
  try simp only [Act.put, List.setIfInBounds_toArray, List.set_cons_zero, List.set_cons_succ, List.getElem_toArray, List.getElem_cons_zero]
  refine wpAnyH_take (i := 2) (oi := _) (v := ?_) rfl (by kernel_rfl) (by kernel_rfl) (by kernel_rfl) (fun _ _ _ h => h) (Or.inl ⟨by rfl, ?_⟩) (by assumption) ?_
  case refine_2 =>
    intro w9 hSw
    (try dsimp only at hSw)
    go_simp
    (try with_reducible rfl)
  try simp only [Act.put, List.setIfInBounds_toArray, List.set_cons_zero, List.set_cons_succ, List.getElem_toArray, List.getElem_cons_zero, List.getElem_cons_succ]
  refine wpAnyH_take (i := 3) (oi := _) (v := ?_) rfl (by kernel_rfl) (by kernel_rfl) (by kernel_rfl) (fun _ _ _ h => h) (Or.inl ⟨by rfl, ?_⟩) (by assumption) ?_
  case refine_2 =>
    intro w9 hSw
    (try dsimp only at hSw)
    go_simp
    (try with_reducible rfl)
  try simp only [Act.put, List.setIfInBounds_toArray, List.set_cons_zero, List.set_cons_succ, List.getElem_toArray, List.getElem_cons_zero, List.getElem_cons_succ]
  refine wpAnyH_take (i := 6) (oi := _) (v := ?_) rfl (by kernel_rfl) (by kernel_rfl) (by kernel_rfl) (fun _ _ _ h => h) (Or.inl ⟨by rfl, ?_⟩) (by assumption) ?_
  case refine_2 =>
    intro w9 hSw
    (try dsimp only at hSw)
    go_simp
    (try with_reducible rfl)
  try simp only [Act.put, List.setIfInBounds_toArray, List.set_cons_zero, List.set_cons_succ, List.getElem_toArray, List.getElem_cons_zero, List.getElem_cons_succ]
  refine wpAnyH_take (i := 8) (oi := _) (v := ?_) rfl (by kernel_rfl) (by kernel_rfl) (by kernel_rfl) (fun _ _ _ h => h) (Or.inl ⟨by rfl, ?_⟩) (by assumption) ?_
  case refine_2 =>
    intro w9 hSw
    (try dsimp only at hSw)
    go_simp
    (try with_reducible rfl)
  try simp only [Act.put, List.setIfInBounds_toArray, List.set_cons_zero, List.set_cons_succ, List.getElem_toArray, List.getElem_cons_zero, List.getElem_cons_succ]
  refine wpAnyH_take (i := 9) (oi := _) (v := ?_) rfl (by kernel_rfl) (by kernel_rfl) (by kernel_rfl) (fun _ _ _ h => h) (Or.inl ⟨by rfl, ?_⟩) (by assumption) ?_
  case refine_2 =>
    intro w9 hSw
    (try dsimp only at hSw)
    go_simp
    (try with_reducible rfl)
  try simp only [Act.put, List.setIfInBounds_toArray, List.set_cons_zero, List.set_cons_succ, List.getElem_toArray, List.getElem_cons_zero, List.getElem_cons_succ]
  refine wpAnyH_ready (rs := [1]) (by kernel_rfl) (by simp) ?_
  refine AllReadyH.cons rfl (fun K hK => ?_) AllReadyH.nil
  go_simp
  (with_reducible refine (value11 s1 l1 b1 n1 _ H1.out D1.out Z1.out).mono ?_)
  rintro e w3 ⟨V, v, vc, rfl, HV, HC3⟩
  have R3a := Lib.hid (R2a.out.belowW HC3.out)
  have R3b := Lib.hid (R2b.out.belowW HC3.out)
  have HR3 := Lib.hid (HR2.out.trans (HC3.out.mono HR2.out.size))
  have R3v := Lib.hid (HV.out)
  go_wp2_with fail
  clear hHeld
  refine hK.out _ _ ?_ (fun hHeld => ?_)
  case refine_1 => exact ⟨R3a.out.cell 0, R3a.out.cell 1, R3a.out.cell 2, R3b.out.cell 0, R3b.out.cell 1, R3b.out.cell 2⟩
  clear hK K
  try simp only [List.setIfInBounds_toArray, List.set_cons_zero, List.set_cons_succ]
  refine wpAnyH_ready (rs := [4]) (by kernel_rfl) (by simp) ?_
  refine AllReadyH.cons rfl (fun K hK => ?_) AllReadyH.nil
  go_simp
  (with_reducible refine (ten11b b2 _ Y2.out).mono ?_)
  rintro e w4 ⟨T, t, tc, rfl, HT, HC4⟩
  have R4a := Lib.hid (R3a.out.belowW HC4.out)
  have R4b := Lib.hid (R3b.out.belowW HC4.out)
  have R4v := Lib.hid (R3v.out.belowW HC4.out)
  have HR4 := Lib.hid (HR3.out.trans (HC4.out.mono HR3.out.size))
  have R4t := Lib.hid (HT.out)
  go_wp2_with fail
  clear hHeld
  refine hK.out _ _ ?_ (fun hHeld => ?_)
  case refine_1 => exact ⟨R4a.out.cell 0, R4a.out.cell 1, R4a.out.cell 2, R4b.out.cell 0, R4b.out.cell 1, R4b.out.cell 2⟩
  clear hK K
  try simp only [List.setIfInBounds_toArray, List.set_cons_zero, List.set_cons_succ]
  refine wpAnyH_ready (rs := [5]) (by kernel_rfl) (by simp) ?_
  refine AllReadyH.cons rfl (fun K hK => ?_) AllReadyH.nil
  go_simp
  (with_reducible refine (rMul V T v vc t tc (limbs (dval l1)) (limbs (10 ^ b2)) _ R4v.out R4t.out (Nat.le_trans (R4v.out.lim HV1.out) K1.out) (Nat.le_trans (R4t.out.lim HT2.out) K1.out)).mono ?_)
  rw [HPX.out]
  rintro e w5 ⟨X, x, xc, rfl, HX, HC5⟩
  have R5a := Lib.hid (R4a.out.belowW HC5.out)
  have R5b := Lib.hid (R4b.out.belowW HC5.out)
  have R5v := Lib.hid (R4v.out.belowW HC5.out)
  have R5t := Lib.hid (R4t.out.belowW HC5.out)
  have HR5 := Lib.hid (HR4.out.trans (HC5.out.mono HR4.out.size))
  have R5x := Lib.hid (HX.out.sl)
  go_wp2_with fail
  clear hHeld
  refine hK.out _ _ ?_ (fun hHeld => ?_)
  case refine_1 => exact ⟨R5a.out.cell 0, R5a.out.cell 1, R5a.out.cell 2, R5b.out.cell 0, R5b.out.cell 1, R5b.out.cell 2⟩
  clear hK K
  try simp only [List.setIfInBounds_toArray, List.set_cons_zero, List.set_cons_succ]
  refine wpAnyH_ready (rs := [7]) (by kernel_rfl) (by simp) ?_
  refine AllReadyH.cons rfl (fun K hK => ?_) AllReadyH.nil
  go_simp
  (with_reducible refine (value11 s2 l2 b2 n2 _ H2.out D2.out Z2.out).mono ?_)
  rintro e w6 ⟨P, p, pc, rfl, HP, HC6⟩
  have R6a := Lib.hid (R5a.out.belowW HC6.out)
  have R6b := Lib.hid (R5b.out.belowW HC6.out)
  have R6v := Lib.hid (R5v.out.belowW HC6.out)
  have R6t := Lib.hid (R5t.out.belowW HC6.out)
  have R6x := Lib.hid (R5x.out.belowW HC6.out)
  have HR6 := Lib.hid (HR5.out.trans (HC6.out.mono HR5.out.size))
  have R6p := Lib.hid (HP.out)
  go_wp2_with fail
  clear hHeld
  refine hK.out _ _ ?_ (fun hHeld => ?_)
  case refine_1 => exact ⟨R6a.out.cell 0, R6a.out.cell 1, R6a.out.cell 2, R6b.out.cell 0, R6b.out.cell 1, R6b.out.cell 2⟩
  clear hK K
  try simp only [List.setIfInBounds_toArray, List.set_cons_zero, List.set_cons_succ]
  refine wpAnyH_ready (rs := [10]) (by kernel_rfl) (by simp) ?_
  refine AllReadyH.cons rfl (fun K hK => ?_) AllReadyH.nil
  go_simp
  (with_reducible refine (ten11b b1 _ Y1.out).mono ?_)
  rintro e w7 ⟨Q, q, qc, rfl, HQ, HC7⟩
  have R7a := Lib.hid (R6a.out.belowW HC7.out)
  have R7b := Lib.hid (R6b.out.belowW HC7.out)
  have R7v := Lib.hid (R6v.out.belowW HC7.out)
  have R7t := Lib.hid (R6t.out.belowW HC7.out)
  have R7x := Lib.hid (R6x.out.belowW HC7.out)
  have R7p := Lib.hid (R6p.out.belowW HC7.out)
  have HR7 := Lib.hid (HR6.out.trans (HC7.out.mono HR6.out.size))
  have R7q := Lib.hid (HQ.out)
  go_wp2_with fail
  clear hHeld
  refine hK.out _ _ ?_ (fun hHeld => ?_)
  case refine_1 => exact ⟨R7a.out.cell 0, R7a.out.cell 1, R7a.out.cell 2, R7b.out.cell 0, R7b.out.cell 1, R7b.out.cell 2⟩
  clear hK K
  try simp only [List.setIfInBounds_toArray, List.set_cons_zero, List.set_cons_succ]
  refine wpAnyH_ready (rs := [11]) (by kernel_rfl) (by simp) ?_
  refine AllReadyH.cons rfl (fun K hK => ?_) AllReadyH.nil
  go_simp
  (with_reducible refine (rMul P Q p pc q qc (limbs (dval l2)) (limbs (10 ^ b1)) _ R7p.out R7q.out (Nat.le_trans (R7p.out.lim HV2.out) K1.out) (Nat.le_trans (R7q.out.lim HT1.out) K1.out)).mono ?_)
  rw [HPY.out]
  rintro e w8 ⟨Y, y, yc, rfl, HY, HC8⟩
  have R8a := Lib.hid (R7a.out.belowW HC8.out)
  have R8b := Lib.hid (R7b.out.belowW HC8.out)
  have R8v := Lib.hid (R7v.out.belowW HC8.out)
  have R8t := Lib.hid (R7t.out.belowW HC8.out)
  have R8x := Lib.hid (R7x.out.belowW HC8.out)
  have R8p := Lib.hid (R7p.out.belowW HC8.out)
  have R8q := Lib.hid (R7q.out.belowW HC8.out)
  have HR8 := Lib.hid (HR7.out.trans (HC8.out.mono HR7.out.size))
  have R8y := Lib.hid (HY.out.sl)
  go_wp2_with fail
  clear hHeld
  refine hK.out _ _ ?_ (fun hHeld => ?_)
  case refine_1 => exact ⟨R8a.out.cell 0, R8a.out.cell 1, R8a.out.cell 2, R8b.out.cell 0, R8b.out.cell 1, R8b.out.cell 2⟩
  clear hK K
  try simp only [List.setIfInBounds_toArray, List.set_cons_zero, List.set_cons_succ]
  refine wpAnyH_take (i := 12) (oi := _) (v := ?_) rfl (by kernel_rfl) (by kernel_rfl) (by kernel_rfl) (fun _ _ _ h => h) (Or.inl ⟨by rfl, ?_⟩) (by assumption) ?_
  case refine_2 =>
    intro w9 hSw
    (try dsimp only at hSw)
    go_simp
    (try with_reducible rfl)
  try simp only [Act.put, List.setIfInBounds_toArray, List.set_cons_zero, List.set_cons_succ, List.getElem_toArray, List.getElem_cons_zero, List.getElem_cons_succ]
  refine wpAnyH_take (i := 13) (oi := _) (v := ?_) rfl (by kernel_rfl) (by kernel_rfl) (by kernel_rfl) (fun _ _ _ h => h) (Or.inl ⟨by rfl, ?_⟩) (by assumption) ?_
  case refine_2 =>
    intro w9 hSw
    (try dsimp only at hSw)
    go_simp
    (try with_reducible rfl)
  try simp only [Act.put, List.setIfInBounds_toArray, List.set_cons_zero, List.set_cons_succ, List.getElem_toArray, List.getElem_cons_zero, List.getElem_cons_succ]
  refine wpAnyH_done (by kernel_rfl) ?_ _
  have HL8 := Lib.hid (HB1.out.trans (HR8.out.mono HB1.out.size))
  go_wp2_with fail
  have hx := Nat.le_trans (R8x.out.lim HXB.out) K2.out
  have hy := Nat.le_trans (R8y.out.lim HYB.out) K2.out
  refine (rCmp X Y x xc y yc (limbs XV) (limbs YV) w8 R8x.out R8y.out hx hy).mono ?_
  rw [HCV.out]
  rintro e w' ⟨rfl, rfl⟩
  cases n1 with
  | true =>
    cases n2 with
    | true =>
      clear HV1 HV2 HT1 HT2 HXB HYB HPX HPY H1 H2 D1 D2 Z1 Z2
      go_wp2_with fail
      have HR9 := Lib.hid (below_dr w8)
      have R9a := Lib.hid (R8a.out.belowW HR9.out)
      have R9b := Lib.hid (R8b.out.belowW HR9.out)
      have R9v := Lib.hid (R8v.out.belowW HR9.out)
      have R9t := Lib.hid (R8t.out.belowW HR9.out)
      have R9x := Lib.hid (R8x.out.belowW HR9.out)
      have R9p := Lib.hid (R8p.out.belowW HR9.out)
      have R9q := Lib.hid (R8q.out.belowW HR9.out)
      have R9y := Lib.hid (R8y.out.belowW HR9.out)
      refine wp_region_held_drew (S := fun w' => w'.cell? ⟨w.heap.size, 0, none⟩ = some (.string s1) ∧ w'.cell? ⟨w.heap.size, 1, none⟩ = some (.int .i64 (b1 : Int)) ∧ w'.cell? ⟨w.heap.size, 2, none⟩ = some (.bool true) ∧ w'.cell? ⟨w.heap.size + 1, 0, none⟩ = some (.string s2) ∧ w'.cell? ⟨w.heap.size + 1, 1, none⟩ = some (.int .i64 (b2 : Int)) ∧ w'.cell? ⟨w.heap.size + 1, 2, none⟩ = some (.bool true)) (by kernel_rfl) ?_ (fun hHeld => ?_)
      case refine_1 => exact ⟨R9a.out.cell 0, R9a.out.cell 1, R9a.out.cell 2, R9b.out.cell 0, R9b.out.cell 1, R9b.out.cell 2⟩
      refine wpAnyH_take (i := 0) (oi := _) (v := ?_) rfl (by kernel_rfl) (by kernel_rfl) (by kernel_rfl) (fun _ _ _ h => h) (Or.inl ⟨by rfl, ?_⟩) (by assumption) ?_
      case refine_2 =>
        intro w9 hSw
        (try dsimp only at hSw)
        go_simp
        (try with_reducible rfl)
      try simp only [Act.put, List.setIfInBounds_toArray, List.set_cons_zero, List.set_cons_succ, List.getElem_toArray, List.getElem_cons_zero]
      refine wpAnyH_take (i := 1) (oi := _) (v := ?_) rfl (by kernel_rfl) (by kernel_rfl) (by kernel_rfl) (fun _ _ _ h => h) (Or.inl ⟨by rfl, ?_⟩) (by assumption) ?_
      case refine_2 =>
        intro w9 hSw
        (try dsimp only at hSw)
        go_simp
        (try with_reducible rfl)
      try simp only [Act.put, List.setIfInBounds_toArray, List.set_cons_zero, List.set_cons_succ, List.getElem_toArray, List.getElem_cons_zero, List.getElem_cons_succ]
      refine wpAnyH_take (i := 2) (oi := _) (v := ?_) rfl (by kernel_rfl) (by kernel_rfl) (by kernel_rfl) (fun _ _ _ h => h) (Or.inl ⟨by rfl, ?_⟩) (by assumption) ?_
      case refine_2 =>
        intro w9 hSw
        (try dsimp only at hSw)
        go_simp
        (try with_reducible rfl)
      try simp only [Act.put, List.setIfInBounds_toArray, List.set_cons_zero, List.set_cons_succ, List.getElem_toArray, List.getElem_cons_zero, List.getElem_cons_succ]
      refine wpAnyH_take (i := 3) (oi := _) (v := ?_) rfl (by kernel_rfl) (by kernel_rfl) (by kernel_rfl) (fun _ _ _ h => h) (Or.inl ⟨by rfl, ?_⟩) (by assumption) ?_
      case refine_2 =>
        intro w9 hSw
        (try dsimp only at hSw)
        go_simp
        (try with_reducible rfl)
      try simp only [Act.put, List.setIfInBounds_toArray, List.set_cons_zero, List.set_cons_succ, List.getElem_toArray, List.getElem_cons_zero, List.getElem_cons_succ]
      refine wpAnyH_take (i := 7) (oi := _) (v := ?_) rfl (by kernel_rfl) (by kernel_rfl) (by kernel_rfl) (fun _ _ _ h => h) (Or.inl ⟨by rfl, ?_⟩) (by assumption) ?_
      case refine_2 =>
        intro w9 hSw
        (try dsimp only at hSw)
        go_simp
        (try with_reducible rfl)
      try simp only [Act.put, List.setIfInBounds_toArray, List.set_cons_zero, List.set_cons_succ, List.getElem_toArray, List.getElem_cons_zero, List.getElem_cons_succ]
      refine wpAnyH_take (i := 8) (oi := _) (v := ?_) rfl (by kernel_rfl) (by kernel_rfl) (by kernel_rfl) (fun _ _ _ h => h) (Or.inl ⟨by rfl, ?_⟩) (by assumption) ?_
      case refine_2 =>
        intro w9 hSw
        (try dsimp only at hSw)
        go_simp
        (try with_reducible rfl)
      try simp only [Act.put, List.setIfInBounds_toArray, List.set_cons_zero, List.set_cons_succ, List.getElem_toArray, List.getElem_cons_zero, List.getElem_cons_succ]
      refine wpAnyH_ready (rs := [4]) (by kernel_rfl) (by simp) ?_
      refine AllReadyH.cons rfl (fun K hK => ?_) AllReadyH.nil
      go_simp
      (with_reducible refine (rBits X x xc (limbs XV) _ R9x.out hx).mono ?_)
      rw [HBX.out]
      rintro e w10 ⟨rfl, hqq⟩
      have HC10 := Lib.hid (show Below w8.drew.heap.size w8.drew w10 by rw [← hqq]; exact Below.refl _ _)
      clear hqq
      have R10a := Lib.hid (R9a.out.belowW HC10.out)
      have R10b := Lib.hid (R9b.out.belowW HC10.out)
      have R10v := Lib.hid (R9v.out.belowW HC10.out)
      have R10t := Lib.hid (R9t.out.belowW HC10.out)
      have R10x := Lib.hid (R9x.out.belowW HC10.out)
      have R10p := Lib.hid (R9p.out.belowW HC10.out)
      have R10q := Lib.hid (R9q.out.belowW HC10.out)
      have R10y := Lib.hid (R9y.out.belowW HC10.out)
      have HR10 := Lib.hid (HR9.out.trans (HC10.out.mono HR9.out.size))
      go_wp2_with fail
      clear hHeld
      refine hK.out _ _ ?_ (fun hHeld => ?_)
      case refine_1 => exact ⟨R10a.out.cell 0, R10a.out.cell 1, R10a.out.cell 2, R10b.out.cell 0, R10b.out.cell 1, R10b.out.cell 2⟩
      clear hK K
      try simp only [List.setIfInBounds_toArray, List.set_cons_zero, List.set_cons_succ]
      refine wpAnyH_take (i := 5) (oi := _) (v := ?_) rfl (by kernel_rfl) (by kernel_rfl) (by kernel_rfl) (fun _ _ _ h => h) (Or.inl ⟨by rfl, ?_⟩) (by assumption) ?_
      case refine_2 =>
        intro w9 hSw
        (try dsimp only at hSw)
        go_simp
        (try with_reducible rfl)
      try simp only [Act.put, List.setIfInBounds_toArray, List.set_cons_zero, List.set_cons_succ, List.getElem_toArray, List.getElem_cons_zero, List.getElem_cons_succ]
      refine wpAnyH_take (i := 6) (oi := _) (v := ?_) rfl (by kernel_rfl) (by kernel_rfl) (by kernel_rfl) (fun _ _ _ h => h) (Or.inl ⟨by rfl, ?_⟩) (by assumption) ?_
      case refine_2 =>
        intro w9 hSw
        (try dsimp only at hSw)
        go_simp
        (try with_reducible rfl)
      try simp only [Act.put, List.setIfInBounds_toArray, List.set_cons_zero, List.set_cons_succ, List.getElem_toArray, List.getElem_cons_zero, List.getElem_cons_succ]
      refine wpAnyH_take (i := 9) (oi := _) (v := ?_) rfl (by kernel_rfl) (by kernel_rfl) (by kernel_rfl) (fun _ _ _ h => h) (Or.inl ⟨by rfl, ?_⟩) (by assumption) ?_
      case refine_2 =>
        intro w9 hSw
        (try dsimp only at hSw)
        go_simp
        (try with_reducible rfl)
      try simp only [Act.put, List.setIfInBounds_toArray, List.set_cons_zero, List.set_cons_succ, List.getElem_toArray, List.getElem_cons_zero, List.getElem_cons_succ]
      refine wpAnyH_take (i := 10) (oi := _) (v := ?_) rfl (by kernel_rfl) (by kernel_rfl) (by kernel_rfl) (fun _ _ _ h => h) (Or.inl ⟨by rfl, ?_⟩) (by assumption) ?_
      case refine_2 =>
        intro w9 hSw
        (try dsimp only at hSw)
        go_simp
        (try with_reducible rfl)
      try simp only [Act.put, List.setIfInBounds_toArray, List.set_cons_zero, List.set_cons_succ, List.getElem_toArray, List.getElem_cons_zero, List.getElem_cons_succ]
      refine wpAnyH_ready (rs := [11]) (by kernel_rfl) (by simp) ?_
      refine AllReadyH.cons rfl (fun K hK => ?_) AllReadyH.nil
      go_simp
      (with_reducible refine (rBits Y y yc (limbs YV) _ R10y.out hy).mono ?_)
      rw [HBY.out]
      rintro e w11 ⟨rfl, hqq⟩
      have HC11 := Lib.hid (show Below w10.heap.size w10 w11 by rw [← hqq]; exact Below.refl _ _)
      clear hqq
      have R11a := Lib.hid (R10a.out.belowW HC11.out)
      have R11b := Lib.hid (R10b.out.belowW HC11.out)
      have R11v := Lib.hid (R10v.out.belowW HC11.out)
      have R11t := Lib.hid (R10t.out.belowW HC11.out)
      have R11x := Lib.hid (R10x.out.belowW HC11.out)
      have R11p := Lib.hid (R10p.out.belowW HC11.out)
      have R11q := Lib.hid (R10q.out.belowW HC11.out)
      have R11y := Lib.hid (R10y.out.belowW HC11.out)
      have HR11 := Lib.hid (HR10.out.trans (HC11.out.mono HR10.out.size))
      go_wp2_with fail
      clear hHeld
      refine hK.out _ _ ?_ (fun hHeld => ?_)
      case refine_1 => exact ⟨R11a.out.cell 0, R11a.out.cell 1, R11a.out.cell 2, R11b.out.cell 0, R11b.out.cell 1, R11b.out.cell 2⟩
      clear hK K
      try simp only [List.setIfInBounds_toArray, List.set_cons_zero, List.set_cons_succ]
      refine wpAnyH_take (i := 12) (oi := _) (v := ?_) rfl (by kernel_rfl) (by kernel_rfl) (by kernel_rfl) (fun _ _ _ h => h) (Or.inl ⟨by rfl, ?_⟩) (by assumption) ?_
      case refine_2 =>
        intro w9 hSw
        (try dsimp only at hSw)
        go_simp
        (try with_reducible rfl)
      try simp only [Act.put, List.setIfInBounds_toArray, List.set_cons_zero, List.set_cons_succ, List.getElem_toArray, List.getElem_cons_zero, List.getElem_cons_succ]
      refine wpAnyH_take (i := 13) (oi := _) (v := ?_) rfl (by kernel_rfl) (by kernel_rfl) (by kernel_rfl) (fun _ _ _ h => h) (Or.inl ⟨by rfl, ?_⟩) (by assumption) ?_
      case refine_2 =>
        intro w9 hSw
        (try dsimp only at hSw)
        go_simp
        (try with_reducible rfl)
      try simp only [Act.put, List.setIfInBounds_toArray, List.set_cons_zero, List.set_cons_succ, List.getElem_toArray, List.getElem_cons_zero, List.getElem_cons_succ]
      refine wpAnyH_take (i := 14) (oi := _) (v := ?_) rfl (by kernel_rfl) (by kernel_rfl) (by kernel_rfl) (fun _ _ _ h => h) (Or.inl ⟨by rfl, ?_⟩) (by assumption) ?_
      case refine_2 =>
        intro w9 hSw
        (try dsimp only at hSw)
        go_simp
        (try with_reducible rfl)
      try simp only [Act.put, List.setIfInBounds_toArray, List.set_cons_zero, List.set_cons_succ, List.getElem_toArray, List.getElem_cons_zero, List.getElem_cons_succ]
      refine wpAnyH_take (i := 15) (oi := _) (v := ?_) rfl (by kernel_rfl) (by kernel_rfl) (by kernel_rfl) (fun _ _ _ h => h) (Or.inl ⟨by rfl, ?_⟩) (by assumption) ?_
      case refine_2 =>
        intro w9 hSw
        (try dsimp only at hSw)
        go_simp
        (try with_reducible rfl)
      try simp only [Act.put, List.setIfInBounds_toArray, List.set_cons_zero, List.set_cons_succ, List.getElem_toArray, List.getElem_cons_zero, List.getElem_cons_succ]
      refine wpAnyH_done (by kernel_rfl) ?_ _
      have HL11 := Lib.hid (HL8.out.trans (HR11.out.mono HL8.out.size))
      cases gx with
      | true =>
        cases gy with
        | true =>
          go_wp2_with fail
          go_ret
          exact ⟨ret_int (by first | exact HCM.out.symm | (rw [HCM.out]; rfl)), HL11⟩
        | false =>
          go_wp2_with fail
          go_ret
          exact ⟨ret_int (by first | exact HCM.out.symm | (rw [HCM.out]; rfl)), HL11⟩
      | false =>
        cases gy with
        | true =>
          go_wp2_with fail
          go_ret
          exact ⟨ret_int (by first | exact HCM.out.symm | (rw [HCM.out]; rfl)), HL11⟩
        | false =>
          go_wp2_with fail
          go_ret
          exact ⟨ret_int (by first | exact HCM.out.symm | (rw [HCM.out]; rfl)), HL11⟩
    | false =>
      clear HV1 HV2 HT1 HT2 HXB HYB HPX HPY H1 H2 D1 D2 Z1 Z2
      go_wp2_with fail
      have HR9 := Lib.hid (below_dr w8)
      have R9a := Lib.hid (R8a.out.belowW HR9.out)
      have R9b := Lib.hid (R8b.out.belowW HR9.out)
      have R9v := Lib.hid (R8v.out.belowW HR9.out)
      have R9t := Lib.hid (R8t.out.belowW HR9.out)
      have R9x := Lib.hid (R8x.out.belowW HR9.out)
      have R9p := Lib.hid (R8p.out.belowW HR9.out)
      have R9q := Lib.hid (R8q.out.belowW HR9.out)
      have R9y := Lib.hid (R8y.out.belowW HR9.out)
      refine wp_region_held_drew (S := fun w' => w'.cell? ⟨w.heap.size, 0, none⟩ = some (.string s1) ∧ w'.cell? ⟨w.heap.size, 1, none⟩ = some (.int .i64 (b1 : Int)) ∧ w'.cell? ⟨w.heap.size, 2, none⟩ = some (.bool true) ∧ w'.cell? ⟨w.heap.size + 1, 0, none⟩ = some (.string s2) ∧ w'.cell? ⟨w.heap.size + 1, 1, none⟩ = some (.int .i64 (b2 : Int)) ∧ w'.cell? ⟨w.heap.size + 1, 2, none⟩ = some (.bool false)) (by kernel_rfl) ?_ (fun hHeld => ?_)
      case refine_1 => exact ⟨R9a.out.cell 0, R9a.out.cell 1, R9a.out.cell 2, R9b.out.cell 0, R9b.out.cell 1, R9b.out.cell 2⟩
      refine wpAnyH_take (i := 0) (oi := _) (v := ?_) rfl (by kernel_rfl) (by kernel_rfl) (by kernel_rfl) (fun _ _ _ h => h) (Or.inl ⟨by rfl, ?_⟩) (by assumption) ?_
      case refine_2 =>
        intro w9 hSw
        (try dsimp only at hSw)
        go_simp
        (try with_reducible rfl)
      try simp only [Act.put, List.setIfInBounds_toArray, List.set_cons_zero, List.set_cons_succ, List.getElem_toArray, List.getElem_cons_zero]
      refine wpAnyH_take (i := 1) (oi := _) (v := ?_) rfl (by kernel_rfl) (by kernel_rfl) (by kernel_rfl) (fun _ _ _ h => h) (Or.inl ⟨by rfl, ?_⟩) (by assumption) ?_
      case refine_2 =>
        intro w9 hSw
        (try dsimp only at hSw)
        go_simp
        (try with_reducible rfl)
      try simp only [Act.put, List.setIfInBounds_toArray, List.set_cons_zero, List.set_cons_succ, List.getElem_toArray, List.getElem_cons_zero, List.getElem_cons_succ]
      refine wpAnyH_take (i := 2) (oi := _) (v := ?_) rfl (by kernel_rfl) (by kernel_rfl) (by kernel_rfl) (fun _ _ _ h => h) (Or.inl ⟨by rfl, ?_⟩) (by assumption) ?_
      case refine_2 =>
        intro w9 hSw
        (try dsimp only at hSw)
        go_simp
        (try with_reducible rfl)
      try simp only [Act.put, List.setIfInBounds_toArray, List.set_cons_zero, List.set_cons_succ, List.getElem_toArray, List.getElem_cons_zero, List.getElem_cons_succ]
      refine wpAnyH_take (i := 3) (oi := _) (v := ?_) rfl (by kernel_rfl) (by kernel_rfl) (by kernel_rfl) (fun _ _ _ h => h) (Or.inl ⟨by rfl, ?_⟩) (by assumption) ?_
      case refine_2 =>
        intro w9 hSw
        (try dsimp only at hSw)
        go_simp
        (try with_reducible rfl)
      try simp only [Act.put, List.setIfInBounds_toArray, List.set_cons_zero, List.set_cons_succ, List.getElem_toArray, List.getElem_cons_zero, List.getElem_cons_succ]
      refine wpAnyH_take (i := 7) (oi := _) (v := ?_) rfl (by kernel_rfl) (by kernel_rfl) (by kernel_rfl) (fun _ _ _ h => h) (Or.inl ⟨by rfl, ?_⟩) (by assumption) ?_
      case refine_2 =>
        intro w9 hSw
        (try dsimp only at hSw)
        go_simp
        (try with_reducible rfl)
      try simp only [Act.put, List.setIfInBounds_toArray, List.set_cons_zero, List.set_cons_succ, List.getElem_toArray, List.getElem_cons_zero, List.getElem_cons_succ]
      refine wpAnyH_take (i := 8) (oi := _) (v := ?_) rfl (by kernel_rfl) (by kernel_rfl) (by kernel_rfl) (fun _ _ _ h => h) (Or.inl ⟨by rfl, ?_⟩) (by assumption) ?_
      case refine_2 =>
        intro w9 hSw
        (try dsimp only at hSw)
        go_simp
        (try with_reducible rfl)
      try simp only [Act.put, List.setIfInBounds_toArray, List.set_cons_zero, List.set_cons_succ, List.getElem_toArray, List.getElem_cons_zero, List.getElem_cons_succ]
      refine wpAnyH_ready (rs := [4]) (by kernel_rfl) (by simp) ?_
      refine AllReadyH.cons rfl (fun K hK => ?_) AllReadyH.nil
      go_simp
      (with_reducible refine (rBits X x xc (limbs XV) _ R9x.out hx).mono ?_)
      rw [HBX.out]
      rintro e w10 ⟨rfl, hqq⟩
      have HC10 := Lib.hid (show Below w8.drew.heap.size w8.drew w10 by rw [← hqq]; exact Below.refl _ _)
      clear hqq
      have R10a := Lib.hid (R9a.out.belowW HC10.out)
      have R10b := Lib.hid (R9b.out.belowW HC10.out)
      have R10v := Lib.hid (R9v.out.belowW HC10.out)
      have R10t := Lib.hid (R9t.out.belowW HC10.out)
      have R10x := Lib.hid (R9x.out.belowW HC10.out)
      have R10p := Lib.hid (R9p.out.belowW HC10.out)
      have R10q := Lib.hid (R9q.out.belowW HC10.out)
      have R10y := Lib.hid (R9y.out.belowW HC10.out)
      have HR10 := Lib.hid (HR9.out.trans (HC10.out.mono HR9.out.size))
      go_wp2_with fail
      clear hHeld
      refine hK.out _ _ ?_ (fun hHeld => ?_)
      case refine_1 => exact ⟨R10a.out.cell 0, R10a.out.cell 1, R10a.out.cell 2, R10b.out.cell 0, R10b.out.cell 1, R10b.out.cell 2⟩
      clear hK K
      try simp only [List.setIfInBounds_toArray, List.set_cons_zero, List.set_cons_succ]
      refine wpAnyH_take (i := 5) (oi := _) (v := ?_) rfl (by kernel_rfl) (by kernel_rfl) (by kernel_rfl) (fun _ _ _ h => h) (Or.inl ⟨by rfl, ?_⟩) (by assumption) ?_
      case refine_2 =>
        intro w9 hSw
        (try dsimp only at hSw)
        go_simp
        (try with_reducible rfl)
      try simp only [Act.put, List.setIfInBounds_toArray, List.set_cons_zero, List.set_cons_succ, List.getElem_toArray, List.getElem_cons_zero, List.getElem_cons_succ]
      refine wpAnyH_take (i := 6) (oi := _) (v := ?_) rfl (by kernel_rfl) (by kernel_rfl) (by kernel_rfl) (fun _ _ _ h => h) (Or.inl ⟨by rfl, ?_⟩) (by assumption) ?_
      case refine_2 =>
        intro w9 hSw
        (try dsimp only at hSw)
        go_simp
        (try with_reducible rfl)
      try simp only [Act.put, List.setIfInBounds_toArray, List.set_cons_zero, List.set_cons_succ, List.getElem_toArray, List.getElem_cons_zero, List.getElem_cons_succ]
      refine wpAnyH_take (i := 9) (oi := _) (v := ?_) rfl (by kernel_rfl) (by kernel_rfl) (by kernel_rfl) (fun _ _ _ h => h) (Or.inl ⟨by rfl, ?_⟩) (by assumption) ?_
      case refine_2 =>
        intro w9 hSw
        (try dsimp only at hSw)
        go_simp
        (try with_reducible rfl)
      try simp only [Act.put, List.setIfInBounds_toArray, List.set_cons_zero, List.set_cons_succ, List.getElem_toArray, List.getElem_cons_zero, List.getElem_cons_succ]
      refine wpAnyH_take (i := 10) (oi := _) (v := _) rfl (by kernel_rfl) (by kernel_rfl) (by kernel_rfl) (fun _ _ _ h => h) (Or.inr ⟨by rfl, rfl⟩) (by assumption) ?_
      try simp only [Act.put, List.setIfInBounds_toArray, List.set_cons_zero, List.set_cons_succ, List.getElem_toArray, List.getElem_cons_zero, List.getElem_cons_succ]
      refine wpAnyH_take (i := 11) (oi := _) (v := _) rfl (by kernel_rfl) (by kernel_rfl) (by kernel_rfl) (fun _ _ _ h => h) (Or.inr ⟨by rfl, rfl⟩) (by assumption) ?_
      try simp only [Act.put, List.setIfInBounds_toArray, List.set_cons_zero, List.set_cons_succ, List.getElem_toArray, List.getElem_cons_zero, List.getElem_cons_succ]
      refine wpAnyH_take (i := 12) (oi := _) (v := _) rfl (by kernel_rfl) (by kernel_rfl) (by kernel_rfl) (fun _ _ _ h => h) (Or.inr ⟨by rfl, rfl⟩) (by assumption) ?_
      try simp only [Act.put, List.setIfInBounds_toArray, List.set_cons_zero, List.set_cons_succ, List.getElem_toArray, List.getElem_cons_zero, List.getElem_cons_succ]
      refine wpAnyH_take (i := 13) (oi := _) (v := ?_) rfl (by kernel_rfl) (by kernel_rfl) (by kernel_rfl) (fun _ _ _ h => h) (Or.inl ⟨by rfl, ?_⟩) (by assumption) ?_
      case refine_2 =>
        intro w9 hSw
        (try dsimp only at hSw)
        go_simp
        (try with_reducible rfl)
      try simp only [Act.put, List.setIfInBounds_toArray, List.set_cons_zero, List.set_cons_succ, List.getElem_toArray, List.getElem_cons_zero, List.getElem_cons_succ]
      refine wpAnyH_take (i := 14) (oi := _) (v := ?_) rfl (by kernel_rfl) (by kernel_rfl) (by kernel_rfl) (fun _ _ _ h => h) (Or.inl ⟨by rfl, ?_⟩) (by assumption) ?_
      case refine_2 =>
        intro w9 hSw
        (try dsimp only at hSw)
        go_simp
        (try with_reducible rfl)
      try simp only [Act.put, List.setIfInBounds_toArray, List.set_cons_zero, List.set_cons_succ, List.getElem_toArray, List.getElem_cons_zero, List.getElem_cons_succ]
      refine wpAnyH_take (i := 15) (oi := _) (v := ?_) rfl (by kernel_rfl) (by kernel_rfl) (by kernel_rfl) (fun _ _ _ h => h) (Or.inl ⟨by rfl, ?_⟩) (by assumption) ?_
      case refine_2 =>
        intro w9 hSw
        (try dsimp only at hSw)
        go_simp
        (try with_reducible rfl)
      try simp only [Act.put, List.setIfInBounds_toArray, List.set_cons_zero, List.set_cons_succ, List.getElem_toArray, List.getElem_cons_zero, List.getElem_cons_succ]
      refine wpAnyH_done (by kernel_rfl) ?_ _
      have HL10 := Lib.hid (HL8.out.trans (HR10.out.mono HL8.out.size))
      cases gx with
      | true =>
        go_wp2_with fail
        go_ret
        exact ⟨ret_int (by first | exact HCM.out.symm | (rw [HCM.out]; rfl)), HL10⟩
      | false =>
        go_wp2_with fail
        go_ret
        exact ⟨ret_int (by first | exact HCM.out.symm | (rw [HCM.out]; rfl)), HL10⟩
  | false =>
    cases n2 with
    | true =>
      clear HV1 HV2 HT1 HT2 HXB HYB HPX HPY H1 H2 D1 D2 Z1 Z2
      go_wp2_with fail
      have HR9 := Lib.hid (below_dr w8)
      have R9a := Lib.hid (R8a.out.belowW HR9.out)
      have R9b := Lib.hid (R8b.out.belowW HR9.out)
      have R9v := Lib.hid (R8v.out.belowW HR9.out)
      have R9t := Lib.hid (R8t.out.belowW HR9.out)
      have R9x := Lib.hid (R8x.out.belowW HR9.out)
      have R9p := Lib.hid (R8p.out.belowW HR9.out)
      have R9q := Lib.hid (R8q.out.belowW HR9.out)
      have R9y := Lib.hid (R8y.out.belowW HR9.out)
      refine wp_region_held_drew (S := fun w' => w'.cell? ⟨w.heap.size, 0, none⟩ = some (.string s1) ∧ w'.cell? ⟨w.heap.size, 1, none⟩ = some (.int .i64 (b1 : Int)) ∧ w'.cell? ⟨w.heap.size, 2, none⟩ = some (.bool false) ∧ w'.cell? ⟨w.heap.size + 1, 0, none⟩ = some (.string s2) ∧ w'.cell? ⟨w.heap.size + 1, 1, none⟩ = some (.int .i64 (b2 : Int)) ∧ w'.cell? ⟨w.heap.size + 1, 2, none⟩ = some (.bool true)) (by kernel_rfl) ?_ (fun hHeld => ?_)
      case refine_1 => exact ⟨R9a.out.cell 0, R9a.out.cell 1, R9a.out.cell 2, R9b.out.cell 0, R9b.out.cell 1, R9b.out.cell 2⟩
      refine wpAnyH_take (i := 0) (oi := _) (v := ?_) rfl (by kernel_rfl) (by kernel_rfl) (by kernel_rfl) (fun _ _ _ h => h) (Or.inl ⟨by rfl, ?_⟩) (by assumption) ?_
      case refine_2 =>
        intro w9 hSw
        (try dsimp only at hSw)
        go_simp
        (try with_reducible rfl)
      try simp only [Act.put, List.setIfInBounds_toArray, List.set_cons_zero, List.set_cons_succ, List.getElem_toArray, List.getElem_cons_zero]
      refine wpAnyH_take (i := 1) (oi := _) (v := ?_) rfl (by kernel_rfl) (by kernel_rfl) (by kernel_rfl) (fun _ _ _ h => h) (Or.inl ⟨by rfl, ?_⟩) (by assumption) ?_
      case refine_2 =>
        intro w9 hSw
        (try dsimp only at hSw)
        go_simp
        (try with_reducible rfl)
      try simp only [Act.put, List.setIfInBounds_toArray, List.set_cons_zero, List.set_cons_succ, List.getElem_toArray, List.getElem_cons_zero, List.getElem_cons_succ]
      refine wpAnyH_take (i := 2) (oi := _) (v := ?_) rfl (by kernel_rfl) (by kernel_rfl) (by kernel_rfl) (fun _ _ _ h => h) (Or.inl ⟨by rfl, ?_⟩) (by assumption) ?_
      case refine_2 =>
        intro w9 hSw
        (try dsimp only at hSw)
        go_simp
        (try with_reducible rfl)
      try simp only [Act.put, List.setIfInBounds_toArray, List.set_cons_zero, List.set_cons_succ, List.getElem_toArray, List.getElem_cons_zero, List.getElem_cons_succ]
      refine wpAnyH_take (i := 3) (oi := _) (v := _) rfl (by kernel_rfl) (by kernel_rfl) (by kernel_rfl) (fun _ _ _ h => h) (Or.inr ⟨by rfl, rfl⟩) (by assumption) ?_
      try simp only [Act.put, List.setIfInBounds_toArray, List.set_cons_zero, List.set_cons_succ, List.getElem_toArray, List.getElem_cons_zero, List.getElem_cons_succ]
      refine wpAnyH_take (i := 4) (oi := _) (v := _) rfl (by kernel_rfl) (by kernel_rfl) (by kernel_rfl) (fun _ _ _ h => h) (Or.inr ⟨by rfl, rfl⟩) (by assumption) ?_
      try simp only [Act.put, List.setIfInBounds_toArray, List.set_cons_zero, List.set_cons_succ, List.getElem_toArray, List.getElem_cons_zero, List.getElem_cons_succ]
      refine wpAnyH_take (i := 5) (oi := _) (v := _) rfl (by kernel_rfl) (by kernel_rfl) (by kernel_rfl) (fun _ _ _ h => h) (Or.inr ⟨by rfl, rfl⟩) (by assumption) ?_
      try simp only [Act.put, List.setIfInBounds_toArray, List.set_cons_zero, List.set_cons_succ, List.getElem_toArray, List.getElem_cons_zero, List.getElem_cons_succ]
      refine wpAnyH_take (i := 6) (oi := _) (v := ?_) rfl (by kernel_rfl) (by kernel_rfl) (by kernel_rfl) (fun _ _ _ h => h) (Or.inl ⟨by rfl, ?_⟩) (by assumption) ?_
      case refine_2 =>
        intro w9 hSw
        (try dsimp only at hSw)
        go_simp
        (try with_reducible rfl)
      try simp only [Act.put, List.setIfInBounds_toArray, List.set_cons_zero, List.set_cons_succ, List.getElem_toArray, List.getElem_cons_zero, List.getElem_cons_succ]
      refine wpAnyH_take (i := 7) (oi := _) (v := ?_) rfl (by kernel_rfl) (by kernel_rfl) (by kernel_rfl) (fun _ _ _ h => h) (Or.inl ⟨by rfl, ?_⟩) (by assumption) ?_
      case refine_2 =>
        intro w9 hSw
        (try dsimp only at hSw)
        go_simp
        (try with_reducible rfl)
      try simp only [Act.put, List.setIfInBounds_toArray, List.set_cons_zero, List.set_cons_succ, List.getElem_toArray, List.getElem_cons_zero, List.getElem_cons_succ]
      refine wpAnyH_take (i := 8) (oi := _) (v := ?_) rfl (by kernel_rfl) (by kernel_rfl) (by kernel_rfl) (fun _ _ _ h => h) (Or.inl ⟨by rfl, ?_⟩) (by assumption) ?_
      case refine_2 =>
        intro w9 hSw
        (try dsimp only at hSw)
        go_simp
        (try with_reducible rfl)
      try simp only [Act.put, List.setIfInBounds_toArray, List.set_cons_zero, List.set_cons_succ, List.getElem_toArray, List.getElem_cons_zero, List.getElem_cons_succ]
      refine wpAnyH_take (i := 9) (oi := _) (v := ?_) rfl (by kernel_rfl) (by kernel_rfl) (by kernel_rfl) (fun _ _ _ h => h) (Or.inl ⟨by rfl, ?_⟩) (by assumption) ?_
      case refine_2 =>
        intro w9 hSw
        (try dsimp only at hSw)
        go_simp
        (try with_reducible rfl)
      try simp only [Act.put, List.setIfInBounds_toArray, List.set_cons_zero, List.set_cons_succ, List.getElem_toArray, List.getElem_cons_zero, List.getElem_cons_succ]
      refine wpAnyH_take (i := 10) (oi := _) (v := ?_) rfl (by kernel_rfl) (by kernel_rfl) (by kernel_rfl) (fun _ _ _ h => h) (Or.inl ⟨by rfl, ?_⟩) (by assumption) ?_
      case refine_2 =>
        intro w9 hSw
        (try dsimp only at hSw)
        go_simp
        (try with_reducible rfl)
      try simp only [Act.put, List.setIfInBounds_toArray, List.set_cons_zero, List.set_cons_succ, List.getElem_toArray, List.getElem_cons_zero, List.getElem_cons_succ]
      refine wpAnyH_ready (rs := [11]) (by kernel_rfl) (by simp) ?_
      refine AllReadyH.cons rfl (fun K hK => ?_) AllReadyH.nil
      go_simp
      (with_reducible refine (rBits Y y yc (limbs YV) _ R9y.out hy).mono ?_)
      rw [HBY.out]
      rintro e w10 ⟨rfl, hqq⟩
      have HC10 := Lib.hid (show Below w8.drew.heap.size w8.drew w10 by rw [← hqq]; exact Below.refl _ _)
      clear hqq
      have R10a := Lib.hid (R9a.out.belowW HC10.out)
      have R10b := Lib.hid (R9b.out.belowW HC10.out)
      have R10v := Lib.hid (R9v.out.belowW HC10.out)
      have R10t := Lib.hid (R9t.out.belowW HC10.out)
      have R10x := Lib.hid (R9x.out.belowW HC10.out)
      have R10p := Lib.hid (R9p.out.belowW HC10.out)
      have R10q := Lib.hid (R9q.out.belowW HC10.out)
      have R10y := Lib.hid (R9y.out.belowW HC10.out)
      have HR10 := Lib.hid (HR9.out.trans (HC10.out.mono HR9.out.size))
      go_wp2_with fail
      clear hHeld
      refine hK.out _ _ ?_ (fun hHeld => ?_)
      case refine_1 => exact ⟨R10a.out.cell 0, R10a.out.cell 1, R10a.out.cell 2, R10b.out.cell 0, R10b.out.cell 1, R10b.out.cell 2⟩
      clear hK K
      try simp only [List.setIfInBounds_toArray, List.set_cons_zero, List.set_cons_succ]
      refine wpAnyH_take (i := 12) (oi := _) (v := ?_) rfl (by kernel_rfl) (by kernel_rfl) (by kernel_rfl) (fun _ _ _ h => h) (Or.inl ⟨by rfl, ?_⟩) (by assumption) ?_
      case refine_2 =>
        intro w9 hSw
        (try dsimp only at hSw)
        go_simp
        (try with_reducible rfl)
      try simp only [Act.put, List.setIfInBounds_toArray, List.set_cons_zero, List.set_cons_succ, List.getElem_toArray, List.getElem_cons_zero, List.getElem_cons_succ]
      refine wpAnyH_take (i := 13) (oi := _) (v := ?_) rfl (by kernel_rfl) (by kernel_rfl) (by kernel_rfl) (fun _ _ _ h => h) (Or.inl ⟨by rfl, ?_⟩) (by assumption) ?_
      case refine_2 =>
        intro w9 hSw
        (try dsimp only at hSw)
        go_simp
        (try with_reducible rfl)
      try simp only [Act.put, List.setIfInBounds_toArray, List.set_cons_zero, List.set_cons_succ, List.getElem_toArray, List.getElem_cons_zero, List.getElem_cons_succ]
      refine wpAnyH_take (i := 14) (oi := _) (v := ?_) rfl (by kernel_rfl) (by kernel_rfl) (by kernel_rfl) (fun _ _ _ h => h) (Or.inl ⟨by rfl, ?_⟩) (by assumption) ?_
      case refine_2 =>
        intro w9 hSw
        (try dsimp only at hSw)
        go_simp
        (try with_reducible rfl)
      try simp only [Act.put, List.setIfInBounds_toArray, List.set_cons_zero, List.set_cons_succ, List.getElem_toArray, List.getElem_cons_zero, List.getElem_cons_succ]
      refine wpAnyH_take (i := 15) (oi := _) (v := ?_) rfl (by kernel_rfl) (by kernel_rfl) (by kernel_rfl) (fun _ _ _ h => h) (Or.inl ⟨by rfl, ?_⟩) (by assumption) ?_
      case refine_2 =>
        intro w9 hSw
        (try dsimp only at hSw)
        go_simp
        (try with_reducible rfl)
      try simp only [Act.put, List.setIfInBounds_toArray, List.set_cons_zero, List.set_cons_succ, List.getElem_toArray, List.getElem_cons_zero, List.getElem_cons_succ]
      refine wpAnyH_done (by kernel_rfl) ?_ _
      have HL10 := Lib.hid (HL8.out.trans (HR10.out.mono HL8.out.size))
      cases gy with
      | true =>
        go_wp2_with fail
        go_ret
        exact ⟨ret_int (by first | exact HCM.out.symm | (rw [HCM.out]; rfl)), HL10⟩
      | false =>
        go_wp2_with fail
        go_ret
        exact ⟨ret_int (by first | exact HCM.out.symm | (rw [HCM.out]; rfl)), HL10⟩
    | false =>
      clear HV1 HV2 HT1 HT2 HXB HYB HPX HPY H1 H2 D1 D2 Z1 Z2
      go_wp2_with fail
      have HR9 := Lib.hid (below_dr w8)
      have R9a := Lib.hid (R8a.out.belowW HR9.out)
      have R9b := Lib.hid (R8b.out.belowW HR9.out)
      have R9v := Lib.hid (R8v.out.belowW HR9.out)
      have R9t := Lib.hid (R8t.out.belowW HR9.out)
      have R9x := Lib.hid (R8x.out.belowW HR9.out)
      have R9p := Lib.hid (R8p.out.belowW HR9.out)
      have R9q := Lib.hid (R8q.out.belowW HR9.out)
      have R9y := Lib.hid (R8y.out.belowW HR9.out)
      refine wp_region_held_drew (S := fun w' => w'.cell? ⟨w.heap.size, 0, none⟩ = some (.string s1) ∧ w'.cell? ⟨w.heap.size, 1, none⟩ = some (.int .i64 (b1 : Int)) ∧ w'.cell? ⟨w.heap.size, 2, none⟩ = some (.bool false) ∧ w'.cell? ⟨w.heap.size + 1, 0, none⟩ = some (.string s2) ∧ w'.cell? ⟨w.heap.size + 1, 1, none⟩ = some (.int .i64 (b2 : Int)) ∧ w'.cell? ⟨w.heap.size + 1, 2, none⟩ = some (.bool false)) (by kernel_rfl) ?_ (fun hHeld => ?_)
      case refine_1 => exact ⟨R9a.out.cell 0, R9a.out.cell 1, R9a.out.cell 2, R9b.out.cell 0, R9b.out.cell 1, R9b.out.cell 2⟩
      refine wpAnyH_take (i := 0) (oi := _) (v := ?_) rfl (by kernel_rfl) (by kernel_rfl) (by kernel_rfl) (fun _ _ _ h => h) (Or.inl ⟨by rfl, ?_⟩) (by assumption) ?_
      case refine_2 =>
        intro w9 hSw
        (try dsimp only at hSw)
        go_simp
        (try with_reducible rfl)
      try simp only [Act.put, List.setIfInBounds_toArray, List.set_cons_zero, List.set_cons_succ, List.getElem_toArray, List.getElem_cons_zero]
      refine wpAnyH_take (i := 1) (oi := _) (v := ?_) rfl (by kernel_rfl) (by kernel_rfl) (by kernel_rfl) (fun _ _ _ h => h) (Or.inl ⟨by rfl, ?_⟩) (by assumption) ?_
      case refine_2 =>
        intro w9 hSw
        (try dsimp only at hSw)
        go_simp
        (try with_reducible rfl)
      try simp only [Act.put, List.setIfInBounds_toArray, List.set_cons_zero, List.set_cons_succ, List.getElem_toArray, List.getElem_cons_zero, List.getElem_cons_succ]
      refine wpAnyH_take (i := 2) (oi := _) (v := ?_) rfl (by kernel_rfl) (by kernel_rfl) (by kernel_rfl) (fun _ _ _ h => h) (Or.inl ⟨by rfl, ?_⟩) (by assumption) ?_
      case refine_2 =>
        intro w9 hSw
        (try dsimp only at hSw)
        go_simp
        (try with_reducible rfl)
      try simp only [Act.put, List.setIfInBounds_toArray, List.set_cons_zero, List.set_cons_succ, List.getElem_toArray, List.getElem_cons_zero, List.getElem_cons_succ]
      refine wpAnyH_take (i := 3) (oi := _) (v := _) rfl (by kernel_rfl) (by kernel_rfl) (by kernel_rfl) (fun _ _ _ h => h) (Or.inr ⟨by rfl, rfl⟩) (by assumption) ?_
      try simp only [Act.put, List.setIfInBounds_toArray, List.set_cons_zero, List.set_cons_succ, List.getElem_toArray, List.getElem_cons_zero, List.getElem_cons_succ]
      refine wpAnyH_take (i := 4) (oi := _) (v := _) rfl (by kernel_rfl) (by kernel_rfl) (by kernel_rfl) (fun _ _ _ h => h) (Or.inr ⟨by rfl, rfl⟩) (by assumption) ?_
      try simp only [Act.put, List.setIfInBounds_toArray, List.set_cons_zero, List.set_cons_succ, List.getElem_toArray, List.getElem_cons_zero, List.getElem_cons_succ]
      refine wpAnyH_take (i := 5) (oi := _) (v := _) rfl (by kernel_rfl) (by kernel_rfl) (by kernel_rfl) (fun _ _ _ h => h) (Or.inr ⟨by rfl, rfl⟩) (by assumption) ?_
      try simp only [Act.put, List.setIfInBounds_toArray, List.set_cons_zero, List.set_cons_succ, List.getElem_toArray, List.getElem_cons_zero, List.getElem_cons_succ]
      refine wpAnyH_take (i := 6) (oi := _) (v := ?_) rfl (by kernel_rfl) (by kernel_rfl) (by kernel_rfl) (fun _ _ _ h => h) (Or.inl ⟨by rfl, ?_⟩) (by assumption) ?_
      case refine_2 =>
        intro w9 hSw
        (try dsimp only at hSw)
        go_simp
        (try with_reducible rfl)
      try simp only [Act.put, List.setIfInBounds_toArray, List.set_cons_zero, List.set_cons_succ, List.getElem_toArray, List.getElem_cons_zero, List.getElem_cons_succ]
      refine wpAnyH_take (i := 7) (oi := _) (v := ?_) rfl (by kernel_rfl) (by kernel_rfl) (by kernel_rfl) (fun _ _ _ h => h) (Or.inl ⟨by rfl, ?_⟩) (by assumption) ?_
      case refine_2 =>
        intro w9 hSw
        (try dsimp only at hSw)
        go_simp
        (try with_reducible rfl)
      try simp only [Act.put, List.setIfInBounds_toArray, List.set_cons_zero, List.set_cons_succ, List.getElem_toArray, List.getElem_cons_zero, List.getElem_cons_succ]
      refine wpAnyH_take (i := 8) (oi := _) (v := ?_) rfl (by kernel_rfl) (by kernel_rfl) (by kernel_rfl) (fun _ _ _ h => h) (Or.inl ⟨by rfl, ?_⟩) (by assumption) ?_
      case refine_2 =>
        intro w9 hSw
        (try dsimp only at hSw)
        go_simp
        (try with_reducible rfl)
      try simp only [Act.put, List.setIfInBounds_toArray, List.set_cons_zero, List.set_cons_succ, List.getElem_toArray, List.getElem_cons_zero, List.getElem_cons_succ]
      refine wpAnyH_take (i := 9) (oi := _) (v := ?_) rfl (by kernel_rfl) (by kernel_rfl) (by kernel_rfl) (fun _ _ _ h => h) (Or.inl ⟨by rfl, ?_⟩) (by assumption) ?_
      case refine_2 =>
        intro w9 hSw
        (try dsimp only at hSw)
        go_simp
        (try with_reducible rfl)
      try simp only [Act.put, List.setIfInBounds_toArray, List.set_cons_zero, List.set_cons_succ, List.getElem_toArray, List.getElem_cons_zero, List.getElem_cons_succ]
      refine wpAnyH_take (i := 10) (oi := _) (v := _) rfl (by kernel_rfl) (by kernel_rfl) (by kernel_rfl) (fun _ _ _ h => h) (Or.inr ⟨by rfl, rfl⟩) (by assumption) ?_
      try simp only [Act.put, List.setIfInBounds_toArray, List.set_cons_zero, List.set_cons_succ, List.getElem_toArray, List.getElem_cons_zero, List.getElem_cons_succ]
      refine wpAnyH_take (i := 11) (oi := _) (v := _) rfl (by kernel_rfl) (by kernel_rfl) (by kernel_rfl) (fun _ _ _ h => h) (Or.inr ⟨by rfl, rfl⟩) (by assumption) ?_
      try simp only [Act.put, List.setIfInBounds_toArray, List.set_cons_zero, List.set_cons_succ, List.getElem_toArray, List.getElem_cons_zero, List.getElem_cons_succ]
      refine wpAnyH_take (i := 12) (oi := _) (v := _) rfl (by kernel_rfl) (by kernel_rfl) (by kernel_rfl) (fun _ _ _ h => h) (Or.inr ⟨by rfl, rfl⟩) (by assumption) ?_
      try simp only [Act.put, List.setIfInBounds_toArray, List.set_cons_zero, List.set_cons_succ, List.getElem_toArray, List.getElem_cons_zero, List.getElem_cons_succ]
      refine wpAnyH_take (i := 13) (oi := _) (v := ?_) rfl (by kernel_rfl) (by kernel_rfl) (by kernel_rfl) (fun _ _ _ h => h) (Or.inl ⟨by rfl, ?_⟩) (by assumption) ?_
      case refine_2 =>
        intro w9 hSw
        (try dsimp only at hSw)
        go_simp
        (try with_reducible rfl)
      try simp only [Act.put, List.setIfInBounds_toArray, List.set_cons_zero, List.set_cons_succ, List.getElem_toArray, List.getElem_cons_zero, List.getElem_cons_succ]
      refine wpAnyH_take (i := 14) (oi := _) (v := ?_) rfl (by kernel_rfl) (by kernel_rfl) (by kernel_rfl) (fun _ _ _ h => h) (Or.inl ⟨by rfl, ?_⟩) (by assumption) ?_
      case refine_2 =>
        intro w9 hSw
        (try dsimp only at hSw)
        go_simp
        (try with_reducible rfl)
      try simp only [Act.put, List.setIfInBounds_toArray, List.set_cons_zero, List.set_cons_succ, List.getElem_toArray, List.getElem_cons_zero, List.getElem_cons_succ]
      refine wpAnyH_take (i := 15) (oi := _) (v := ?_) rfl (by kernel_rfl) (by kernel_rfl) (by kernel_rfl) (fun _ _ _ h => h) (Or.inl ⟨by rfl, ?_⟩) (by assumption) ?_
      case refine_2 =>
        intro w9 hSw
        (try dsimp only at hSw)
        go_simp
        (try with_reducible rfl)
      try simp only [Act.put, List.setIfInBounds_toArray, List.set_cons_zero, List.set_cons_succ, List.getElem_toArray, List.getElem_cons_zero, List.getElem_cons_succ]
      refine wpAnyH_done (by kernel_rfl) ?_ _
      have HL9 := Lib.hid (HL8.out.trans (HR9.out.mono HL8.out.size))
      go_wp2_with fail
      go_ret
      exact ⟨ret_int (by first | exact HCM.out.symm | (rw [HCM.out]; rfl)), HL9⟩
end Go.Proofs.YtffdkakogeofmaaGreatDoor
