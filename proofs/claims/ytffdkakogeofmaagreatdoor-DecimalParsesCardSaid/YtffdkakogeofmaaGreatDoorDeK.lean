/-
  The walks of the reference's Round, Prec, Whole.
-/
import Derived.Test.YtffdkakogeofmaaGreatDoorDeJ
import Derived.Test.YtffdkakogeofmaaGreatDoorNumDM
set_option linter.unusedVariables false
namespace Go.Proofs.YtffdkakogeofmaaGreatDoor
open Go.RowKit Go.Fl Go.Fl.Nm Go.Fl.Dy
theorem cut03n (neg more up : Bool) (A : Option Addr) (n c q p : Nat) (k : Nat) (w : World) (ha : Sl w A n c (limbs q)) (hp : 8 ≤ p) (hp2 : p ≤ 512) (hpq : p ≤ blen q) (hq : blen q ≤ 6000) (hk : k ≤ 5000) :
    Calls Tryz.prog 76 #[.bool neg, .slice A n c, .int .i64 (-(k : Int)), .bool more, .int .i64 p, .bool up] w (DyE (cutX neg q (-(k : Int)) more p up, 0) w) := by
  rw [show (-(k : Int)) = 0 - (k : Int) by omega]
  exact cut03 neg more up A n c q p k w ha hp hp2 hpq hq hk
set_option maxHeartbeats 1000000 in
theorem prec03 (p : Int) (w : World) : Calls Tryz.prog 35 #[.int .i64 p] w (fun e w' => e = .returned (.bool (precB p)) ∧ w = w') := by
  have HP := Lib.hid (show precB p = (decide (8 ≤ p) && decide (p ≤ 512)) by unfold precB; exact Bool.decide_and _ _)
  rw [HP.out]
  cases h1 : decide (8 ≤ p) with
  | false =>
    go_enter Tryz.func35, Tryz.ntmps35
    go_wp2_with fail
    go_ret
    exact ⟨rfl, rfl⟩
  | true =>
    cases h2 : decide (p ≤ 512) with
    | false =>
      go_enter Tryz.func35, Tryz.ntmps35
      go_wp2_with fail
      go_ret
      exact ⟨rfl, rfl⟩
    | true =>
      go_enter Tryz.func35, Tryz.ntmps35
      go_wp2_with fail
      go_ret
      exact ⟨rfl, rfl⟩

set_option maxHeartbeats 1000000 in
theorem whole05 (w : World) : Calls Tryz.prog 36 #[] w (fun e w' => e = .returned (.agg #[.bool false, .slice none 0 0, .int .i64 0, .bool false, .slice none 0 0, .int .i64 0, .bool true]) ∧ Hid (Below w.heap.size w w')) := by
  go_enter Tryz.func36, Tryz.ntmps36
  go_wp2_with fail
  refine bodyPost_ret (v := .agg #[.bool false, .slice none 0 0, .int .i64 0, .bool false, .slice none 0 0, .int .i64 0, .bool true]) (by simp [results, Tryz.results36, go_sem]) rfl ?_
  exact ⟨rfl, Lib.hid (below_a1 _ _)⟩


set_option maxHeartbeats 8000000 in
set_option maxRecDepth 100000 in
theorem round11 (s : ByteArray) (l : List UInt8) (b : Nat) (neg up : Bool) (p : Nat) (w : World) (hl : s.data.toList = l) (hd : l.all Nm.isDig = true) (hz : l.length ≤ 256) (hb : b ≤ 256) (hp : 8 ≤ p) (hp2 : p ≤ 512) :
    Calls Tryz.prog 39 #[.agg #[.string s, .int .i64 (b : Int), .bool neg], .int .i64 p, .bool up] w (DyE (rndR ⟨l, b, neg⟩ p up, 0) w) := by
  have HRR := Lib.hid (show rndR ⟨l, b, neg⟩ p up = encE (sI neg (dval l)) ((10 ^ b : Nat) : Int) p up from rfl)
  rw [HRR.out]
  have bV : blen (dval l) ≤ 1100 := by
    have h1 := blen_mono (Nat.le_of_lt (dval_lt l hd))
    have h2 := blen_ten l.length
    omega
  have bT : blen (10 ^ b) ≤ 1100 := by have := blen_ten b; omega
  have hT0 : 10 ^ b ≠ 0 := Nat.pos_iff_ne_zero.1 (Nat.pow_pos (by omega))
  obtain ⟨V, hV⟩ : ∃ V, dval l = V := ⟨_, rfl⟩
  obtain ⟨T, hT⟩ : ∃ T, 10 ^ b = T := ⟨_, rfl⟩
  rw [hV] at bV
  rw [hT] at bT hT0
  rw [hV, hT]
  obtain ⟨RX, hRX⟩ : ∃ d, encE (sI neg V) (T : Int) p up = d := ⟨_, rfl⟩
  rw [hRX]
  have HRX := Lib.hid hRX
  clear hRX HRR
  have HV := Lib.hid hV
  have HT := Lib.hid hT
  have HVL := Lib.hid (show blen V ≤ 32 * 200 by omega)
  have HTL := Lib.hid (show blen T ≤ 32 * 200 by omega)
  have hb9 := Lib.hid (show b ≤ 1000 by omega)
  have hz9 := Lib.hid (show l.length ≤ 600 by omega)
  have K1 := Lib.hid (show 200 ≤ 1000000 by omega)
  have K2 := Lib.hid (show 200 ≤ 100000 by omega)
  have K3 := Lib.hid (show 200 ≤ 10000 by omega)
  have HL1 := Lib.hid hl
  have HD1 := Lib.hid hd
  obtain ⟨bv, hbv⟩ : ∃ z, blen V = z := ⟨_, rfl⟩
  obtain ⟨bt, hbt⟩ : ∃ z, blen T = z := ⟨_, rfl⟩
  have HBV := Lib.hid (show blen (val (limbs V)) = bv by rw [val_limbs]; exact hbv)
  have HBT := Lib.hid (show blen (val (limbs T)) = bt by rw [val_limbs]; exact hbt)
  clear hV hT hl hd hz hb
  go_enter Tryz.func39, Tryz.ntmps39
  go_wp2_with fail
  obtain ⟨w1, hw⟩ : ∃ z9 : World, z9 = ((w.alloc (.cells #[.string s, .int .i64 (b : Int), .bool neg] 64)).alloc (.cells #[.bool false, .slice none 0 0, .int .i64 0] 25)) := ⟨_, rfl⟩
  have HB1 := Lib.hid (show Below w.heap.size w w1 by rw [hw]; exact below_a2 _ _ _)
  have F1d := Lib.hid (show Blk w1 (w.heap.size) 64 #[.string s, .int .i64 (b : Int), .bool neg] by rw [hw]; exact (Blk.new _ _ _).alloc _)
  have F1r := Lib.hid (show Blk w1 (w.heap.size + 1) 25 #[.bool false, .slice none 0 0, .int .i64 0] by rw [hw]; exact Blk.new1 _ _ _ _)
  rw [← hw]
  clear hw
  obtain ⟨pd0, fd0, pd1, fd1, pd2, fd2⟩ := F1d.out.all3
  obtain ⟨pr0, fr0, pr1, fr1, pr2, fr2⟩ := F1r.out.all3
  clear pd0 fd0 pd1 fd1 pd2 fd2 pr0 fr0 pr1 fr1 pr2 fr2
  have HR2 := Lib.hid (below_dr w1)
  have R2d := Lib.hid (F1d.out.belowW HR2.out)
  have R2r := Lib.hid (F1r.out.belowW HR2.out)
  refine wp_region_held_drew (S := fun w' => w'.cell? ⟨w.heap.size, 0, none⟩ = some (.string s) ∧ w'.cell? ⟨w.heap.size, 1, none⟩ = some (.int .i64 (b : Int)) ∧ w'.cell? ⟨w.heap.size, 2, none⟩ = some (.bool neg)) (by kernel_rfl) ?_ (fun hHeld => ?_)
  case refine_1 => exact ⟨R2d.out.cell 0, R2d.out.cell 1, R2d.out.cell 2⟩
  refine wpAnyH_take (i := 0) (oi := _) (v := ?_) rfl (by kernel_rfl) (by kernel_rfl) (by kernel_rfl) (fun _ _ _ h => h) (Or.inl ⟨by rfl, ?_⟩) (by assumption) ?_
  case refine_2 =>
    intro w9 hSw
    (try dsimp only at hSw)
    go_simp
    (try with_reducible rfl)
  try simp only [Act.put, List.setIfInBounds_toArray, List.set_cons_zero, List.set_cons_succ, List.getElem_toArray, List.getElem_cons_zero]
  refine wpAnyH_take (i := 2) (oi := _) (v := ?_) rfl (by kernel_rfl) (by kernel_rfl) (by kernel_rfl) (fun _ _ _ h => h) (Or.inl ⟨by rfl, ?_⟩) (by assumption) ?_
  case refine_2 =>
    intro w9 hSw
    (try dsimp only at hSw)
    go_simp
    (try with_reducible rfl)
  try simp only [Act.put, List.setIfInBounds_toArray, List.set_cons_zero, List.set_cons_succ, List.getElem_toArray, List.getElem_cons_zero, List.getElem_cons_succ]
  refine wpAnyH_take (i := 3) (oi := _) (v := ?_) rfl (by kernel_rfl) (by kernel_rfl) (by kernel_rfl) (fun _ _ _ h => h) (Or.inl ⟨by rfl, ?_⟩) (by assumption) ?_
  case refine_2 =>
    intro w9 hSw
    (try dsimp only at hSw)
    go_simp
    (try with_reducible rfl)
  try simp only [Act.put, List.setIfInBounds_toArray, List.set_cons_zero, List.set_cons_succ, List.getElem_toArray, List.getElem_cons_zero, List.getElem_cons_succ]
  refine wpAnyH_ready (rs := [1]) (by kernel_rfl) (by simp) ?_
  refine AllReadyH.cons rfl (fun K hK => ?_) AllReadyH.nil
  go_simp
  (with_reducible refine (value11 s l b neg _ HL1.out HD1.out hz9.out).mono ?_)
  rw [HV.out]
  rintro e w3 ⟨A, n, c, rfl, HA, HC3⟩
  have R3d := Lib.hid (R2d.out.belowW HC3.out)
  have R3r := Lib.hid (R2r.out.belowW HC3.out)
  have HR3 := Lib.hid (HR2.out.trans (HC3.out.mono HR2.out.size))
  have R3v := Lib.hid (HA.out)
  go_wp2_with fail
  clear hHeld
  refine hK.out _ _ ?_ (fun hHeld => ?_)
  case refine_1 => exact ⟨R3d.out.cell 0, R3d.out.cell 1, R3d.out.cell 2⟩
  clear hK K
  try simp only [List.setIfInBounds_toArray, List.set_cons_zero, List.set_cons_succ]
  refine wpAnyH_ready (rs := [4]) (by kernel_rfl) (by simp) ?_
  refine AllReadyH.cons rfl (fun K hK => ?_) AllReadyH.nil
  go_simp
  (with_reducible refine (ten11b b _ hb9.out).mono ?_)
  rw [HT.out]
  rintro e w4 ⟨B, m, mc, rfl, HM, HC4⟩
  have R4d := Lib.hid (R3d.out.belowW HC4.out)
  have R4r := Lib.hid (R3r.out.belowW HC4.out)
  have R4v := Lib.hid (R3v.out.belowW HC4.out)
  have HR4 := Lib.hid (HR3.out.trans (HC4.out.mono HR3.out.size))
  have R4t := Lib.hid (HM.out)
  go_wp2_with fail
  clear hHeld
  refine hK.out _ _ ?_ (fun hHeld => ?_)
  case refine_1 => exact ⟨R4d.out.cell 0, R4d.out.cell 1, R4d.out.cell 2⟩
  clear hK K
  try simp only [List.setIfInBounds_toArray, List.set_cons_zero, List.set_cons_succ]
  refine wpAnyH_take (i := 5) (oi := _) (v := ?_) rfl (by kernel_rfl) (by kernel_rfl) (by kernel_rfl) (fun _ _ _ h => h) (Or.inl ⟨by rfl, ?_⟩) (by assumption) ?_
  case refine_2 =>
    intro w9 hSw
    (try dsimp only at hSw)
    go_simp
    (try with_reducible rfl)
  try simp only [Act.put, List.setIfInBounds_toArray, List.set_cons_zero, List.set_cons_succ, List.getElem_toArray, List.getElem_cons_zero, List.getElem_cons_succ]
  refine wpAnyH_take (i := 6) (oi := _) (v := ?_) rfl (by kernel_rfl) (by kernel_rfl) (by kernel_rfl) (fun _ _ _ h => h) (Or.inl ⟨by rfl, ?_⟩) (by assumption) ?_
  case refine_2 =>
    intro w9 hSw
    (try dsimp only at hSw)
    go_simp
    (try with_reducible rfl)
  try simp only [Act.put, List.setIfInBounds_toArray, List.set_cons_zero, List.set_cons_succ, List.getElem_toArray, List.getElem_cons_zero, List.getElem_cons_succ]
  refine wpAnyH_done (by kernel_rfl) ?_ _
  have HL4 := Lib.hid (HB1.out.trans (HR4.out.mono HB1.out.size))
  go_wp2_with fail
  have hn : n ≤ 200 := R4v.out.lim HVL.out
  have hm : m ≤ 200 := R4t.out.lim HTL.out
  have hn1 : n ≤ 1000000 := by omega
  have hn2 : n ≤ 100000 := by omega
  have hm1 : m ≤ 1000000 := by omega
  have hm2 : m ≤ 10000 := by omega
  refine (rBits A n c (limbs V) w4 R4v.out hn1).mono ?_
  rw [HBV.out]
  rintro e w' ⟨rfl, rfl⟩
  by_cases hv0 : V = 0
  case pos =>
    have hb0 : bv = 0 := by rw [← hbv, hv0, blen_zero]
    have dz : ((bv : Int) == 0) = true := by rw [hb0]; rfl
    have HR0 := Lib.hid (show RX = ⟨false, 0, 0⟩ by rw [← HRX.out, hv0]; unfold encE sI; rw [if_pos (by split <;> rfl)])
    subst hb0
    clear hbv hv0
    obtain ⟨pr0, fr0, pr1, fr1, pr2, fr2⟩ := R4r.out.all3
    go_wp2_with fail
    refine bodyPost_ret (v := .tuple #[.agg #[.bool false, .slice none 0 0, .int .i64 0], .int .i64 0]) (by simp [results, Tryz.results39, go_sem, pr0, pr1, pr2]) rfl ?_
    rw [HR0.out]
    exact ⟨none, 0, 0, rfl, Lib.hid (by rw [limbs_zero]; exact Sl.none_ _), Lib.hid (store3_below HL4.out R4r.out _ _ _ (by omega))⟩
  case neg =>
    have hbv0 : 0 < bv := by rw [← hbv]; exact blen_pos hv0
    have dz : ((bv : Int) == 0) = false := by rw [beq_eq_false_iff_ne]; omega
    obtain ⟨k, hk⟩ : ∃ k, p + 2 + blen T - blen V = k := ⟨_, rfl⟩
    obtain ⟨q, hq⟩ : ∃ q, V * 2 ^ k / T = q := ⟨_, rfl⟩
    obtain ⟨r, hr⟩ : ∃ r, V * 2 ^ k % T = r := ⟨_, rfl⟩
    have HENC := Lib.hid (cut_rnd (neg := neg) (up := up) hv0 hT0 (by omega : 0 < p) hk.symm hq)
    rw [hr] at HENC
    have hpq : p ≤ blen q := (ref_enc hv0 hT0 (by omega : 0 < p) hk.symm hq).1
    rw [hbv, hbt] at hk
    have bS : blen (V * 2 ^ k) ≤ 5000 := by
      have h1 := blen_mul_le' V (2 ^ k)
      have h2 : blen (2 ^ k) ≤ k + 1 := blen_le (by rw [Nat.pow_succ]; have := Nat.two_pow_pos k; omega)
      omega
    have bQ : blen q ≤ 5000 := by rw [← hq]; exact Nat.le_trans (blen_mono (Nat.div_le_self _ _)) bS
    have bR : blen r ≤ 1100 := by
      have h1 : r < T := by rw [← hr]; exact Nat.mod_lt _ (by omega)
      have := blen_mono (Nat.le_of_lt h1)
      omega
    have HSV := Lib.hid (show val (limbs V) * 2 ^ k = V * 2 ^ k by rw [val_limbs])
    have HDV := Lib.hid (show val (limbs (V * 2 ^ k)) / val (limbs T) = q ∧ val (limbs (V * 2 ^ k)) % val (limbs T) = r by rw [val_limbs, val_limbs]; exact ⟨hq, hr⟩)
    have HT9 := Lib.hid (show 0 < val (limbs T) by rw [val_limbs]; omega)
    have LS := Lib.hid (show blen (V * 2 ^ k) ≤ 32 * 200 by omega)
    have LQ := Lib.hid (show blen q ≤ 32 * 200 by omega)
    have LR := Lib.hid (show blen r ≤ 32 * 200 by omega)
    have Q1 := Lib.hid hpq
    have Q2 := Lib.hid (show blen q ≤ 6000 by omega)
    have hk5 : k ≤ 5000 := by omega
    have hk6 : k ≤ 1000000 := by omega
    obtain ⟨br, hbr⟩ : ∃ z, blen r = z := ⟨_, rfl⟩
    have HBR := Lib.hid (show blen (val (limbs r)) = br by rw [val_limbs]; exact hbr)
    obtain ⟨more, hmore⟩ : ∃ o, decide (0 < r) = o := ⟨_, rfl⟩
    have dm1 : decide (0 < br) = more := by rw [← hmore, decide_eq_decide, ← hbr]; have := blen_zero_iff (n := r); omega
    have dm2 : decide ((0 : Int) < (br : Int)) = more := by rw [← dm1, decide_eq_decide]; omega
    rw [hmore, HRX.out] at HENC
    have t1 : IntKind.i64.wrap ((p : Int) + 2) = (p : Int) + 2 := IntWalk.i64_in _ (by omega)
    have t2 : IntKind.i64.wrap ((p : Int) + 2 + (bt : Int)) = (p : Int) + 2 + (bt : Int) := IntWalk.i64_in _ (by omega)
    have t3 : IntKind.i64.wrap ((p : Int) + 2 + (bt : Int) - (bv : Int)) = (p : Int) + 2 + (bt : Int) - (bv : Int) := IntWalk.i64_in _ (by omega)
    have t4 : max 0 ((p : Int) + 2 + (bt : Int) - (bv : Int)) = (k : Int) := by omega
    have t5 : IntKind.i64.wrap (0 - (k : Int)) = 0 - (k : Int) := IntWalk.i64_in _ (by omega)
    have t6 : IntKind.i64.wrap (-(k : Int)) = 0 - (k : Int) := by rw [← Int.zero_sub]; exact t5
    clear hbr hmore hq hr hpq bS bQ bR hT0 bV bT hv0 hk hbv hbt
    go_wp2_with fail
    refine (rBits B m mc (limbs T) w4 R4t.out hm1).mono ?_
    rw [HBT.out]
    rintro e w' ⟨rfl, rfl⟩
    go_wp2_with fail
    refine (rBits A n c (limbs V) w4 R4v.out hn1).mono ?_
    rw [HBV.out]
    rintro e w' ⟨rfl, rfl⟩
    go_wp2_with fail
    refine (rShl A n c k (limbs V) w4 R4v.out hn2 hk6).mono ?_
    rw [HSV.out]
    rintro e w5 ⟨S, x, xc, rfl, HS, HB5⟩
    have F5d := Lib.hid (R4d.out.belowW HB5.out)
    have F5r := Lib.hid (R4r.out.belowW HB5.out)
    have F5v := Lib.hid (R4v.out.belowW HB5.out)
    have F5t := Lib.hid (R4t.out.belowW HB5.out)
    have HL5 := Lib.hid (HL4.out.trans (HB5.out.mono HL4.out.size))
    have F5s := Lib.hid (HS.out.sl)
    have hx : x ≤ 10000 := Nat.le_trans (F5s.out.lim LS.out) K3.out
    go_wp2_with fail
    refine (rDivMod S B x xc m mc (limbs (V * 2 ^ k)) (limbs T) w5 F5s.out F5t.out hx hm2 HT9.out).mono ?_
    rw [HDV.out.1, HDV.out.2]
    rintro e w6 ⟨E, y, yc, F, z, zc, rfl, HE, HF, HB6⟩
    have F6d := Lib.hid (F5d.out.belowW HB6.out)
    have F6r := Lib.hid (F5r.out.belowW HB6.out)
    have F6v := Lib.hid (F5v.out.belowW HB6.out)
    have F6t := Lib.hid (F5t.out.belowW HB6.out)
    have F6s := Lib.hid (F5s.out.belowW HB6.out)
    have HL6 := Lib.hid (HL5.out.trans (HB6.out.mono HL5.out.size))
    have F6q := Lib.hid (HE.out.sl)
    have F6z := Lib.hid (HF.out.sl)
    have hz : z ≤ 1000000 := Nat.le_trans (F6z.out.lim LR.out) K1.out
    obtain ⟨pd0, fd0, pd1, fd1, pd2, fd2⟩ := F6d.out.all3
    obtain ⟨pr0, fr0, pr1, fr1, pr2, fr2⟩ := F6r.out.all3
    go_wp2_with fail
    clear pd0 fd0 pd1 fd1 pd2 fd2 pr0 fr0 pr1 fr1 pr2 fr2
    have HR7 := Lib.hid (below_dr w6)
    have R7d := Lib.hid (F6d.out.belowW HR7.out)
    have R7r := Lib.hid (F6r.out.belowW HR7.out)
    have R7v := Lib.hid (F6v.out.belowW HR7.out)
    have R7t := Lib.hid (F6t.out.belowW HR7.out)
    have R7s := Lib.hid (F6s.out.belowW HR7.out)
    have R7q := Lib.hid (F6q.out.belowW HR7.out)
    have R7z := Lib.hid (F6z.out.belowW HR7.out)
    refine wp_region_held_drew (S := fun w' => w'.cell? ⟨w.heap.size, 0, none⟩ = some (.string s) ∧ w'.cell? ⟨w.heap.size, 1, none⟩ = some (.int .i64 (b : Int)) ∧ w'.cell? ⟨w.heap.size, 2, none⟩ = some (.bool neg)) (by kernel_rfl) ?_ (fun hHeld => ?_)
    case refine_1 => exact ⟨R7d.out.cell 0, R7d.out.cell 1, R7d.out.cell 2⟩
    refine wpAnyH_take (i := 0) (oi := _) (v := ?_) rfl (by kernel_rfl) (by kernel_rfl) (by kernel_rfl) (fun _ _ _ h => h) (Or.inl ⟨by rfl, ?_⟩) (by assumption) ?_
    case refine_2 =>
      intro w9 hSw
      (try dsimp only at hSw)
      go_simp
      (try with_reducible rfl)
    try simp only [Act.put, List.setIfInBounds_toArray, List.set_cons_zero, List.set_cons_succ, List.getElem_toArray, List.getElem_cons_zero]
    refine wpAnyH_take (i := 1) (oi := _) (v := ?_) rfl (by kernel_rfl) (by kernel_rfl) (by kernel_rfl) (fun _ _ _ h => h) (Or.inl ⟨by rfl, ?_⟩) (by assumption) ?_
    case refine_2 =>
      intro w9 hSw
      (try dsimp only at hSw)
      go_simp
      (try with_reducible rfl)
    try simp only [Act.put, List.setIfInBounds_toArray, List.set_cons_zero, List.set_cons_succ, List.getElem_toArray, List.getElem_cons_zero, List.getElem_cons_succ]
    refine wpAnyH_take (i := 2) (oi := _) (v := ?_) rfl (by kernel_rfl) (by kernel_rfl) (by kernel_rfl) (fun _ _ _ h => h) (Or.inl ⟨by rfl, ?_⟩) (by assumption) ?_
    case refine_2 =>
      intro w9 hSw
      (try dsimp only at hSw)
      go_simp
      (try with_reducible rfl)
    try simp only [Act.put, List.setIfInBounds_toArray, List.set_cons_zero, List.set_cons_succ, List.getElem_toArray, List.getElem_cons_zero, List.getElem_cons_succ]
    refine wpAnyH_take (i := 3) (oi := _) (v := ?_) rfl (by kernel_rfl) (by kernel_rfl) (by kernel_rfl) (fun _ _ _ h => h) (Or.inl ⟨by rfl, ?_⟩) (by assumption) ?_
    case refine_2 =>
      intro w9 hSw
      (try dsimp only at hSw)
      go_simp
      (try with_reducible rfl)
    try simp only [Act.put, List.setIfInBounds_toArray, List.set_cons_zero, List.set_cons_succ, List.getElem_toArray, List.getElem_cons_zero, List.getElem_cons_succ]
    refine wpAnyH_take (i := 4) (oi := _) (v := ?_) rfl (by kernel_rfl) (by kernel_rfl) (by kernel_rfl) (fun _ _ _ h => h) (Or.inl ⟨by rfl, ?_⟩) (by assumption) ?_
    case refine_2 =>
      intro w9 hSw
      (try dsimp only at hSw)
      go_simp
      (try with_reducible rfl)
    try simp only [Act.put, List.setIfInBounds_toArray, List.set_cons_zero, List.set_cons_succ, List.getElem_toArray, List.getElem_cons_zero, List.getElem_cons_succ]
    refine wpAnyH_take (i := 5) (oi := _) (v := ?_) rfl (by kernel_rfl) (by kernel_rfl) (by kernel_rfl) (fun _ _ _ h => h) (Or.inl ⟨by rfl, ?_⟩) (by assumption) ?_
    case refine_2 =>
      intro w9 hSw
      (try dsimp only at hSw)
      go_simp
      (try with_reducible rfl)
    try simp only [Act.put, List.setIfInBounds_toArray, List.set_cons_zero, List.set_cons_succ, List.getElem_toArray, List.getElem_cons_zero, List.getElem_cons_succ]
    refine wpAnyH_take (i := 8) (oi := _) (v := ?_) rfl (by kernel_rfl) (by kernel_rfl) (by kernel_rfl) (fun _ _ _ h => h) (Or.inl ⟨by rfl, ?_⟩) (by assumption) ?_
    case refine_2 =>
      intro w9 hSw
      (try dsimp only at hSw)
      go_simp
      (try with_reducible rfl)
    try simp only [Act.put, List.setIfInBounds_toArray, List.set_cons_zero, List.set_cons_succ, List.getElem_toArray, List.getElem_cons_zero, List.getElem_cons_succ]
    refine wpAnyH_take (i := 9) (oi := _) (v := ?_) rfl (by kernel_rfl) (by kernel_rfl) (by kernel_rfl) (fun _ _ _ h => h) (Or.inl ⟨by rfl, ?_⟩) (by assumption) ?_
    case refine_2 =>
      intro w9 hSw
      (try dsimp only at hSw)
      go_simp
      (try with_reducible rfl)
    try simp only [Act.put, List.setIfInBounds_toArray, List.set_cons_zero, List.set_cons_succ, List.getElem_toArray, List.getElem_cons_zero, List.getElem_cons_succ]
    refine wpAnyH_ready (rs := [6]) (by kernel_rfl) (by simp) ?_
    refine AllReadyH.cons rfl (fun K hK => ?_) AllReadyH.nil
    go_simp
    (with_reducible refine (rBits F z zc (limbs r) _ R7z.out hz).mono ?_)
    rw [HBR.out]
    rintro e w8 ⟨rfl, hqq⟩
    have HC8 := Lib.hid (show Below w6.drew.heap.size w6.drew w8 by rw [← hqq]; exact Below.refl _ _)
    clear hqq
    have R8d := Lib.hid (R7d.out.belowW HC8.out)
    have R8r := Lib.hid (R7r.out.belowW HC8.out)
    have R8v := Lib.hid (R7v.out.belowW HC8.out)
    have R8t := Lib.hid (R7t.out.belowW HC8.out)
    have R8s := Lib.hid (R7s.out.belowW HC8.out)
    have R8q := Lib.hid (R7q.out.belowW HC8.out)
    have R8z := Lib.hid (R7z.out.belowW HC8.out)
    have HR8 := Lib.hid (HR7.out.trans (HC8.out.mono HR7.out.size))
    go_wp2_with fail
    clear hHeld
    refine hK.out _ _ ?_ (fun hHeld => ?_)
    case refine_1 => exact ⟨R8d.out.cell 0, R8d.out.cell 1, R8d.out.cell 2⟩
    clear hK K
    try simp only [List.setIfInBounds_toArray, List.set_cons_zero, List.set_cons_succ]
    refine wpAnyH_take (i := 7) (oi := _) (v := ?_) rfl (by kernel_rfl) (by kernel_rfl) (by kernel_rfl) (fun _ _ _ h => h) (Or.inl ⟨by rfl, ?_⟩) (by assumption) ?_
    case refine_2 =>
      intro w9 hSw
      (try dsimp only at hSw)
      go_simp
      (try with_reducible rfl)
    try simp only [Act.put, List.setIfInBounds_toArray, List.set_cons_zero, List.set_cons_succ, List.getElem_toArray, List.getElem_cons_zero, List.getElem_cons_succ]
    refine wpAnyH_ready (rs := [10]) (by kernel_rfl) (by simp) ?_
    refine AllReadyH.cons rfl (fun K hK => ?_) AllReadyH.nil
    go_simp
    (with_reducible refine (cut03n neg more up E y yc q p k _ R8q.out hp hp2 Q1.out Q2.out hk5).mono ?_)
    rintro e w9 ⟨M, mn, mc', rfl, HMM, HC9⟩
    have R9d := Lib.hid (R8d.out.belowW HC9.out)
    have R9r := Lib.hid (R8r.out.belowW HC9.out)
    have R9v := Lib.hid (R8v.out.belowW HC9.out)
    have R9t := Lib.hid (R8t.out.belowW HC9.out)
    have R9s := Lib.hid (R8s.out.belowW HC9.out)
    have R9q := Lib.hid (R8q.out.belowW HC9.out)
    have R9z := Lib.hid (R8z.out.belowW HC9.out)
    have HR9 := Lib.hid (HR8.out.trans (HC9.out.mono HR8.out.size))
    have R9u := Lib.hid (HMM.out)
    go_wp2_with fail
    clear hHeld
    refine hK.out _ _ ?_ (fun hHeld => ?_)
    case refine_1 => exact ⟨R9d.out.cell 0, R9d.out.cell 1, R9d.out.cell 2⟩
    clear hK K
    try simp only [List.setIfInBounds_toArray, List.set_cons_zero, List.set_cons_succ]
    refine wpAnyH_take (i := 11) (oi := _) (v := ?_) rfl (by kernel_rfl) (by kernel_rfl) (by kernel_rfl) (fun _ _ _ h => h) (Or.inl ⟨by rfl, ?_⟩) (by assumption) ?_
    case refine_2 =>
      intro w9 hSw
      (try dsimp only at hSw)
      go_simp
      (try with_reducible rfl)
    try simp only [Act.put, List.setIfInBounds_toArray, List.set_cons_zero, List.set_cons_succ, List.getElem_toArray, List.getElem_cons_zero, List.getElem_cons_succ]
    refine wpAnyH_take (i := 12) (oi := _) (v := ?_) rfl (by kernel_rfl) (by kernel_rfl) (by kernel_rfl) (fun _ _ _ h => h) (Or.inl ⟨by rfl, ?_⟩) (by assumption) ?_
    case refine_2 =>
      intro w9 hSw
      (try dsimp only at hSw)
      go_simp
      (try with_reducible rfl)
    try simp only [Act.put, List.setIfInBounds_toArray, List.set_cons_zero, List.set_cons_succ, List.getElem_toArray, List.getElem_cons_zero, List.getElem_cons_succ]
    refine wpAnyH_ready (rs := [13]) (by kernel_rfl) (by simp) ?_
    refine AllReadyH.cons rfl (fun K hK => ?_) AllReadyH.nil
    have pr0 : (w9).cell? ⟨w.heap.size + 1, 0, none⟩ = some (.bool false) := R9r.out.cell 0
    have fr0 : (w9).frozen? ⟨w.heap.size + 1, 0, none⟩ = false := R9r.out.frozen 0
    have pr1 : (w9).cell? ⟨w.heap.size + 1, 1, none⟩ = some (.slice none 0 0) := R9r.out.cell 1
    have fr1 : (w9).frozen? ⟨w.heap.size + 1, 1, none⟩ = false := R9r.out.frozen 1
    have pr2 : (w9).cell? ⟨w.heap.size + 1, 2, none⟩ = some (.int .i64 0) := R9r.out.cell 2
    have fr2 : (w9).frozen? ⟨w.heap.size + 1, 2, none⟩ = false := R9r.out.frozen 2
    go_simp
    rw [store3_put R9r.out]
    have SR9 := Lib.hid (R9r.out.put #[.bool (cutX neg q (-(k : Int)) more p up).neg, .slice M mn mc', .int .i64 (cutX neg q (-(k : Int)) more p up).e])
    have SL8 := Lib.hid (HL6.out.trans (HR9.out.mono HL6.out.size))
    have SL9 := Lib.hid (SL8.out.trans (putB_below w9 _ 25 #[.bool (cutX neg q (-(k : Int)) more p up).neg, .slice M mn mc', .int .i64 (cutX neg q (-(k : Int)) more p up).e] (by omega : w.heap.size ≤ w.heap.size + 1)))
    have SS90 := Lib.hid (R9u.out.far R9r.out noU3 (putB_grown w9 _ 25 #[.bool (cutX neg q (-(k : Int)) more p up).neg, .slice M mn mc', .int .i64 (cutX neg q (-(k : Int)) more p up).e]))
    have SO9d := Lib.hid (R9d.out.far (t' := 25) (by omega : w.heap.size ≠ w.heap.size + 1) #[.bool (cutX neg q (-(k : Int)) more p up).neg, .slice M mn mc', .int .i64 (cutX neg q (-(k : Int)) more p up).e])
    clear pr0 fr0 pr1 fr1 pr2 fr2
    obtain ⟨w9, hw⟩ : ∃ z9 : World, z9 = putB w9 (w.heap.size + 1) 25 #[.bool (cutX neg q (-(k : Int)) more p up).neg, .slice M mn mc', .int .i64 (cutX neg q (-(k : Int)) more p up).e] := ⟨_, rfl⟩
    rw [← hw] at SR9 SL9 SS90 SO9d ⊢
    clear hw hHeld
    refine hK.out _ _ ?_ (fun hHeld => ?_)
    case refine_1 => exact ⟨SO9d.out.cell 0, SO9d.out.cell 1, SO9d.out.cell 2⟩
    clear hK K
    try simp only [List.setIfInBounds_toArray, List.set_cons_zero, List.set_cons_succ]
    refine wpAnyH_take (i := 14) (oi := _) (v := ?_) rfl (by kernel_rfl) (by kernel_rfl) (by kernel_rfl) (fun _ _ _ h => h) (Or.inl ⟨by rfl, ?_⟩) (by assumption) ?_
    case refine_2 =>
      intro w9 hSw
      (try dsimp only at hSw)
      go_simp
      (try with_reducible rfl)
    try simp only [Act.put, List.setIfInBounds_toArray, List.set_cons_zero, List.set_cons_succ, List.getElem_toArray, List.getElem_cons_zero, List.getElem_cons_succ]
    refine wpAnyH_done (by kernel_rfl) ?_ _
    obtain ⟨pr0, fr0, pr1, fr1, pr2, fr2⟩ := SR9.out.all3
    go_wp2_with fail
    refine bodyPost_ret (v := .tuple #[.agg #[.bool (cutX neg q (-(k : Int)) more p up).neg, .slice M mn mc', .int .i64 (cutX neg q (-(k : Int)) more p up).e], .int .i64 0]) (by simp [results, Tryz.results39, go_sem, pr0, pr1, pr2]) rfl ?_
    rw [← HENC.out, Int.zero_sub]
    exact ⟨M, mn, mc', rfl, SS90, SL9⟩
end Go.Proofs.YtffdkakogeofmaaGreatDoor
