/-
  The walks of the reference's decimals: Floor downward, Digits.
-/
import Derived.Test.YtffdkakogeofmaaGreatDoorDeA
import Derived.Test.YtffdkakogeofmaaGreatDoorDecY
set_option linter.unusedVariables false
namespace Go.Proofs.YtffdkakogeofmaaGreatDoor
open Go.RowKit Go.Fl Go.Fl.Nm Go.Fl.Dy
theorem rShl_at (A : Option Addr) (n c p : Nat) (e : Int) (a : List Nat) (w : World) (ha : Sl w A n c a) (hn : n ≤ 100000) (hp : p ≤ 1000000) (he : e = (p : Int)) :
    Calls Tryz.prog 75 #[.slice A n c, .int .i64 e] w (RP (val a * 2 ^ p) w) := by
  subst he
  exact rShl A n c p a w ha hn hp
/-- An integer with a sign, as the reference gives it. -/
def IntT (neg : Bool) (v : Nat) (w : World) (e : Ending) (w' : World) : Prop :=
  ∃ (A : Option Addr) (n c : Nat), e = .returned (.tuple #[.slice A n c, .bool neg]) ∧ Hid (Sl w' A n c (limbs v)) ∧ Hid (Below w.heap.size w w')

set_option maxHeartbeats 4000000 in
set_option maxRecDepth 100000 in
theorem floor11_whole (d : D) (A : Option Addr) (n c q : Nat) (w : World) (h : Sl w A n c (limbs d.k)) (hv : vld d) (hq : q ≤ 51) (ht : topB d ≤ 1000) (he : 0 ≤ d.e) : Calls Tryz.prog 45 #[.agg #[.bool d.neg, .slice A n c, .int .i64 d.e], .int .i64 q, .bool false] w (IntT (scN d q false) (scQ d q false) w) := by
  have H := Lib.hid h
  have hn : n ≤ 100000 := by have := h.lim (k := 128) (by have := vld_bits hv; omega); omega
  have hb := vld_ebd hv
  have hbb := vld_bits hv
  have q1000 : q ≤ 1000 := by omega
  have hk1 := top_bd hv ht
  obtain ⟨M, hM⟩ : ∃ M, scM d q = M := ⟨_, rfl⟩
  have HM := Lib.hid (show val (limbs d.k) * val (limbs (10 ^ q)) = M by rw [val_limbs, val_limbs]; exact hM)
  have bM : blen M ≤ 4301 := by rw [← hM]; have := scM_bits d q; omega
  have LT := Lib.hid (show blen (10 ^ q) ≤ 32 * 256 by have := blen_ten q; omega)
  have LM := Lib.hid (show blen M ≤ 32 * 256 by omega)
  have de : decide (0 ≤ d.e) = true := decide_eq_true he
  obtain ⟨E, hE⟩ : ∃ E : Nat, d.e = (E : Int) := ⟨d.e.toNat, by omega⟩
  have HR := Lib.hid (show scQ d q false = M * 2 ^ E ∧ scN d q false = d.neg by unfold scQ scN; rw [if_pos he, if_pos he, hM, hE, Int.toNat_natCast, Nat.mul_comm]; exact ⟨rfl, rfl⟩)
  have HX := Lib.hid (show val (limbs M) * 2 ^ E = M * 2 ^ E by rw [val_limbs])
  have hE1 : E ≤ 1000000 := by omega
  have HEE := Lib.hid hE
  clear h hv hM ht hk1 he hE
  go_enter Tryz.func45, Tryz.ntmps45
  go_wp2_with fail
  obtain ⟨w1, hw⟩ : ∃ z9 : World, z9 = (w.alloc (.cells #[.bool d.neg, .slice A n c, .int .i64 d.e] 25)) := ⟨_, rfl⟩
  have HB1 := Lib.hid (show Below w.heap.size w w1 by rw [hw]; exact below_a1 _ _)
  have F1a := Lib.hid (H.out.belowW HB1.out)
  have F1d := Lib.hid (show Blk w1 (w.heap.size) 25 #[.bool d.neg, .slice A n c, .int .i64 d.e] by rw [hw]; exact Blk.new _ _ _)
  rw [← hw]
  clear hw
  go_wp2_with fail
  have HR2 := Lib.hid (below_dr w1)
  have R2a := Lib.hid (F1a.out.belowW HR2.out)
  have R2d := Lib.hid (F1d.out.belowW HR2.out)
  refine wp_region_held_drew (S := fun w' => w'.cell? ⟨w.heap.size, 1, none⟩ = some (.slice A n c)) (by kernel_rfl) ?_ (fun hHeld => ?_)
  case refine_1 => exact R2d.out.cell 1
  refine wpAnyH_take (i := 0) (oi := _) (v := ?_) rfl (by kernel_rfl) (by kernel_rfl) (by kernel_rfl) (fun _ _ _ h => h) (Or.inl ⟨by rfl, ?_⟩) (by assumption) ?_
  case refine_2 =>
    intro w9 hSw
    (try dsimp only at hSw)
    go_simp
    (try with_reducible rfl)
  try simp only [Act.put, List.setIfInBounds_toArray, List.set_cons_zero, List.set_cons_succ, List.getElem_toArray, List.getElem_cons_zero]
  refine wpAnyH_take (i := 1) (oi := _) (v := ?_) rfl (by kernel_rfl) (by kernel_rfl) (by kernel_rfl) (fun _ _ _ h => h) (Or.inl ⟨by rfl, ?_⟩) (by assumption) ?_
  case refine_2 =>
    intro w9 hSw
    (try dsimp only at hSw)
    go_simp
    (try with_reducible rfl)
  try simp only [Act.put, List.setIfInBounds_toArray, List.set_cons_zero, List.set_cons_succ, List.getElem_toArray, List.getElem_cons_zero, List.getElem_cons_succ]
  refine wpAnyH_take (i := 2) (oi := _) (v := ?_) rfl (by kernel_rfl) (by kernel_rfl) (by kernel_rfl) (fun _ _ _ h => h) (Or.inl ⟨by rfl, ?_⟩) (by assumption) ?_
  case refine_2 =>
    intro w9 hSw
    (try dsimp only at hSw)
    go_simp
    (try with_reducible rfl)
  try simp only [Act.put, List.setIfInBounds_toArray, List.set_cons_zero, List.set_cons_succ, List.getElem_toArray, List.getElem_cons_zero, List.getElem_cons_succ]
  refine wpAnyH_ready (rs := [3]) (by kernel_rfl) (by simp) ?_
  refine AllReadyH.cons rfl (fun K hK => ?_) AllReadyH.nil
  go_simp
  (with_reducible refine (ten11 q _ q1000).mono ?_)
  rintro e w3 ⟨P, p, pc, rfl, HP, HC3⟩
  have R3a := Lib.hid (R2a.out.belowW HC3.out)
  have R3d := Lib.hid (R2d.out.belowW HC3.out)
  have HR3 := Lib.hid (HR2.out.trans (HC3.out.mono HR2.out.size))
  have R3p := Lib.hid (HP.out)
  have hp : p ≤ 100000 := by have := HP.out.lim LT.out; omega
  go_wp2_with fail
  clear hHeld
  refine hK.out _ _ ?_ (fun hHeld => ?_)
  case refine_1 => exact R3d.out.cell 1
  clear hK K
  try simp only [List.setIfInBounds_toArray, List.set_cons_zero, List.set_cons_succ]
  refine wpAnyH_ready (rs := [4]) (by kernel_rfl) (by simp) ?_
  refine AllReadyH.cons rfl (fun K hK => ?_) AllReadyH.nil
  go_simp
  (with_reducible refine (rMul A P n c p pc (limbs d.k) (limbs (10 ^ q)) _ R3a.out R3p.out hn hp).mono ?_)
  rw [HM.out]
  rintro e w4 ⟨B, m, mc, rfl, HY, HC4⟩
  have R4a := Lib.hid (R3a.out.belowW HC4.out)
  have R4d := Lib.hid (R3d.out.belowW HC4.out)
  have R4p := Lib.hid (R3p.out.belowW HC4.out)
  have HR4 := Lib.hid (HR3.out.trans (HC4.out.mono HR3.out.size))
  have R4m := Lib.hid (HY.out.sl)
  have hm : m ≤ 100000 := by have := HY.out.sl.lim LM.out; omega
  go_wp2_with fail
  clear hHeld
  refine hK.out _ _ ?_ (fun hHeld => ?_)
  case refine_1 => exact R4d.out.cell 1
  clear hK K
  try simp only [List.setIfInBounds_toArray, List.set_cons_zero, List.set_cons_succ]
  refine wpAnyH_take (i := 5) (oi := _) (v := ?_) rfl (by kernel_rfl) (by kernel_rfl) (by kernel_rfl) (fun _ _ _ h => h) (Or.inl ⟨by rfl, ?_⟩) (by assumption) ?_
  case refine_2 =>
    intro w9 hSw
    (try dsimp only at hSw)
    go_simp
    (try with_reducible rfl)
  try simp only [Act.put, List.setIfInBounds_toArray, List.set_cons_zero, List.set_cons_succ, List.getElem_toArray, List.getElem_cons_zero, List.getElem_cons_succ]
  refine wpAnyH_done (by kernel_rfl) ?_ _
  have HL4 := Lib.hid (HB1.out.trans (HR4.out.mono HB1.out.size))
  obtain ⟨pd0, fd0, pd1, fd1, pd2, fd2⟩ := R4d.out.all3
  go_wp2_with fail
  have HR5 := Lib.hid (below_dr w4)
  have R5a := Lib.hid (R4a.out.belowW HR5.out)
  have R5d := Lib.hid (R4d.out.belowW HR5.out)
  have R5p := Lib.hid (R4p.out.belowW HR5.out)
  have R5m := Lib.hid (R4m.out.belowW HR5.out)
  refine wp_region_held_drew (S := fun w' => w'.cell? ⟨w.heap.size, 0, none⟩ = some (.bool d.neg) ∧ w'.cell? ⟨w.heap.size, 2, none⟩ = some (.int .i64 d.e)) (by kernel_rfl) ?_ (fun hHeld => ?_)
  case refine_1 => exact ⟨R5d.out.cell 0, R5d.out.cell 2⟩
  refine wpAnyH_take (i := 0) (oi := _) (v := ?_) rfl (by kernel_rfl) (by kernel_rfl) (by kernel_rfl) (fun _ _ _ h => h) (Or.inl ⟨by rfl, ?_⟩) (by assumption) ?_
  case refine_2 =>
    intro w9 hSw
    (try dsimp only at hSw)
    go_simp
    (try with_reducible rfl)
  try simp only [Act.put, List.setIfInBounds_toArray, List.set_cons_zero, List.set_cons_succ, List.getElem_toArray, List.getElem_cons_zero]
  refine wpAnyH_take (i := 1) (oi := _) (v := ?_) rfl (by kernel_rfl) (by kernel_rfl) (by kernel_rfl) (fun _ _ _ h => h) (Or.inl ⟨by rfl, ?_⟩) (by assumption) ?_
  case refine_2 =>
    intro w9 hSw
    (try dsimp only at hSw)
    go_simp
    (try with_reducible rfl)
  try simp only [Act.put, List.setIfInBounds_toArray, List.set_cons_zero, List.set_cons_succ, List.getElem_toArray, List.getElem_cons_zero, List.getElem_cons_succ]
  refine wpAnyH_take (i := 2) (oi := _) (v := ?_) rfl (by kernel_rfl) (by kernel_rfl) (by kernel_rfl) (fun _ _ _ h => h) (Or.inl ⟨by rfl, ?_⟩) (by assumption) ?_
  case refine_2 =>
    intro w9 hSw
    (try dsimp only at hSw)
    go_simp
    (try with_reducible rfl)
  try simp only [Act.put, List.setIfInBounds_toArray, List.set_cons_zero, List.set_cons_succ, List.getElem_toArray, List.getElem_cons_zero, List.getElem_cons_succ]
  refine wpAnyH_take (i := 4) (oi := _) (v := ?_) rfl (by kernel_rfl) (by kernel_rfl) (by kernel_rfl) (fun _ _ _ h => h) (Or.inl ⟨by rfl, ?_⟩) (by assumption) ?_
  case refine_2 =>
    intro w9 hSw
    (try dsimp only at hSw)
    go_simp
    (try with_reducible rfl)
  try simp only [Act.put, List.setIfInBounds_toArray, List.set_cons_zero, List.set_cons_succ, List.getElem_toArray, List.getElem_cons_zero, List.getElem_cons_succ]
  refine wpAnyH_take (i := 5) (oi := _) (v := ?_) rfl (by kernel_rfl) (by kernel_rfl) (by kernel_rfl) (fun _ _ _ h => h) (Or.inl ⟨by rfl, ?_⟩) (by assumption) ?_
  case refine_2 =>
    intro w9 hSw
    (try dsimp only at hSw)
    go_simp
    (try with_reducible rfl)
  try simp only [Act.put, List.setIfInBounds_toArray, List.set_cons_zero, List.set_cons_succ, List.getElem_toArray, List.getElem_cons_zero, List.getElem_cons_succ]
  refine wpAnyH_ready (rs := [3]) (by kernel_rfl) (by simp) ?_
  refine AllReadyH.cons rfl (fun K hK => ?_) AllReadyH.nil
  go_simp
  (with_reducible refine (rShl_at B m mc E d.e (limbs M) _ R5m.out hm hE1 HEE.out).mono ?_)
  rw [HX.out]
  rintro e w6 ⟨C, k, kc, rfl, HC, HC6⟩
  have R6a := Lib.hid (R5a.out.belowW HC6.out)
  have R6d := Lib.hid (R5d.out.belowW HC6.out)
  have R6p := Lib.hid (R5p.out.belowW HC6.out)
  have R6m := Lib.hid (R5m.out.belowW HC6.out)
  have HR6 := Lib.hid (HR5.out.trans (HC6.out.mono HR5.out.size))
  have R6k := Lib.hid (HC.out.sl)
  go_wp2_with fail
  clear hHeld
  refine hK.out _ _ ?_ (fun hHeld => ?_)
  case refine_1 => exact ⟨R6d.out.cell 0, R6d.out.cell 2⟩
  clear hK K
  try simp only [List.setIfInBounds_toArray, List.set_cons_zero, List.set_cons_succ]
  refine wpAnyH_take (i := 6) (oi := _) (v := ?_) rfl (by kernel_rfl) (by kernel_rfl) (by kernel_rfl) (fun _ _ _ h => h) (Or.inl ⟨by rfl, ?_⟩) (by assumption) ?_
  case refine_2 =>
    intro w9 hSw
    (try dsimp only at hSw)
    go_simp
    (try with_reducible rfl)
  try simp only [Act.put, List.setIfInBounds_toArray, List.set_cons_zero, List.set_cons_succ, List.getElem_toArray, List.getElem_cons_zero, List.getElem_cons_succ]
  refine wpAnyH_take (i := 7) (oi := _) (v := ?_) rfl (by kernel_rfl) (by kernel_rfl) (by kernel_rfl) (fun _ _ _ h => h) (Or.inl ⟨by rfl, ?_⟩) (by assumption) ?_
  case refine_2 =>
    intro w9 hSw
    (try dsimp only at hSw)
    go_simp
    (try with_reducible rfl)
  try simp only [Act.put, List.setIfInBounds_toArray, List.set_cons_zero, List.set_cons_succ, List.getElem_toArray, List.getElem_cons_zero, List.getElem_cons_succ]
  refine wpAnyH_done (by kernel_rfl) ?_ _
  have HL6 := Lib.hid (HL4.out.trans (HR6.out.mono HL4.out.size))
  go_wp2_with fail
  refine bodyPost_ret (v := .tuple #[.slice C k kc, .bool d.neg]) (by simp [results, Tryz.results45, go_sem]) rfl ?_
  rw [HR.out.1, HR.out.2]
  exact ⟨C, k, kc, rfl, R6k, HL6⟩

set_option maxHeartbeats 8000000 in
set_option maxRecDepth 100000 in
theorem floor11_part (d : D) (A : Option Addr) (n c q : Nat) (w : World) (h : Sl w A n c (limbs d.k)) (hv : vld d) (hq : q ≤ 51) (ht : topB d ≤ 1000) (he : d.e < 0) : Calls Tryz.prog 45 #[.agg #[.bool d.neg, .slice A n c, .int .i64 d.e], .int .i64 q, .bool false] w (IntT (scN d q false) (scQ d q false) w) := by
  have H := Lib.hid h
  have hn : n ≤ 100000 := by have := h.lim (k := 128) (by have := vld_bits hv; omega); omega
  have hb := vld_ebd hv
  have hbb := vld_bits hv
  have q1000 : q ≤ 1000 := by omega
  have hk1 := top_bd hv ht
  obtain ⟨M, hM⟩ : ∃ M, scM d q = M := ⟨_, rfl⟩
  have HM := Lib.hid (show val (limbs d.k) * val (limbs (10 ^ q)) = M by rw [val_limbs, val_limbs]; exact hM)
  have bM : blen M ≤ 4301 := by rw [← hM]; have := scM_bits d q; omega
  have LT := Lib.hid (show blen (10 ^ q) ≤ 32 * 256 by have := blen_ten q; omega)
  have LM := Lib.hid (show blen M ≤ 32 * 256 by omega)
  have de : decide (0 ≤ d.e) = false := decide_eq_false (by omega)
  obtain ⟨J, hJ⟩ : ∃ J : Nat, d.e = -(J : Int) := ⟨(-d.e).toNat, by omega⟩
  have hneg : 0 - d.e = (J : Int) := by omega
  have hneg2 : -d.e = (J : Int) := by omega
  have hnegw : IntKind.i64.wrap (0 - d.e) = (J : Int) := by rw [hneg]; exact IntWalk.i64_in _ (by omega)
  have hnegw2 : IntKind.i64.wrap (-d.e) = (J : Int) := by rw [hneg2]; exact IntWalk.i64_in _ (by omega)
  have eJw : IntKind.i64.wrap (J : Int) = (J : Int) := IntWalk.i64_in _ (by omega)
  have hJ1 : J ≤ 1000000 := by omega
  obtain ⟨Q, hQ⟩ : ∃ Q, M / 2 ^ J = Q := ⟨_, rfl⟩
  have HQ := Lib.hid (show val (limbs M) / 2 ^ J = Q by rw [val_limbs]; exact hQ)
  have bQ : blen Q ≤ 4301 := by rw [← hQ]; exact Nat.le_trans (blen_mono (Nat.div_le_self _ _)) bM
  have LQ := Lib.hid (show blen Q ≤ 32 * 256 by omega)
  obtain ⟨lost, hlost⟩ : ∃ l, decide (M % 2 ^ J ≠ 0) = l := ⟨_, rfl⟩
  have HS := Lib.hid (show scQ d q false = Q + (if lost && (false != d.neg) then 1 else 0) by unfold scQ; rw [if_neg (by omega), hM, hneg2, Int.toNat_natCast, hQ, hlost])
  have HN := Lib.hid (show scN d q false = (d.neg && decide (0 < scQ d q false)) by unfold scN; rw [if_neg (by omega)])
  obtain ⟨cz, hcz⟩ : ∃ z, cmpN (Q * 2 ^ J) M = z := ⟨_, rfl⟩
  have HBK := Lib.hid (show val (limbs Q) * 2 ^ J = Q * 2 ^ J by rw [val_limbs])
  have HCZ := Lib.hid (show cmpN (val (limbs (Q * 2 ^ J))) (val (limbs M)) = cz by rw [val_limbs, val_limbs]; exact hcz)
  have LB := Lib.hid (show blen (Q * 2 ^ J) ≤ 32 * 256 by
    have : Q * 2 ^ J ≤ M := by rw [← hQ]; exact Nat.div_mul_le_self _ _
    have := blen_mono this
    omega)
  have dcz : (cz != 0) = lost := by
    rw [← hcz, cmp_ne, ← hlost, decide_eq_decide, ← hQ]
    have := Nat.div_add_mod M (2 ^ J)
    rw [Nat.mul_comm]
    omega
  have o9 : (1 : Nat) ≤ 900000 := by omega
  clear h hv hM hQ hlost ht hk1 hcz hJ
  go_enter Tryz.func45, Tryz.ntmps45
  go_wp2_with fail
  obtain ⟨w1, hw⟩ : ∃ z9 : World, z9 = (w.alloc (.cells #[.bool d.neg, .slice A n c, .int .i64 d.e] 25)) := ⟨_, rfl⟩
  have HB1 := Lib.hid (show Below w.heap.size w w1 by rw [hw]; exact below_a1 _ _)
  have F1a := Lib.hid (H.out.belowW HB1.out)
  have F1d := Lib.hid (show Blk w1 (w.heap.size) 25 #[.bool d.neg, .slice A n c, .int .i64 d.e] by rw [hw]; exact Blk.new _ _ _)
  rw [← hw]
  clear hw
  go_wp2_with fail
  have HR2 := Lib.hid (below_dr w1)
  have R2a := Lib.hid (F1a.out.belowW HR2.out)
  have R2d := Lib.hid (F1d.out.belowW HR2.out)
  refine wp_region_held_drew (S := fun w' => w'.cell? ⟨w.heap.size, 1, none⟩ = some (.slice A n c)) (by kernel_rfl) ?_ (fun hHeld => ?_)
  case refine_1 => exact R2d.out.cell 1
  refine wpAnyH_take (i := 0) (oi := _) (v := ?_) rfl (by kernel_rfl) (by kernel_rfl) (by kernel_rfl) (fun _ _ _ h => h) (Or.inl ⟨by rfl, ?_⟩) (by assumption) ?_
  case refine_2 =>
    intro w9 hSw
    (try dsimp only at hSw)
    go_simp
    (try with_reducible rfl)
  try simp only [Act.put, List.setIfInBounds_toArray, List.set_cons_zero, List.set_cons_succ, List.getElem_toArray, List.getElem_cons_zero]
  refine wpAnyH_take (i := 1) (oi := _) (v := ?_) rfl (by kernel_rfl) (by kernel_rfl) (by kernel_rfl) (fun _ _ _ h => h) (Or.inl ⟨by rfl, ?_⟩) (by assumption) ?_
  case refine_2 =>
    intro w9 hSw
    (try dsimp only at hSw)
    go_simp
    (try with_reducible rfl)
  try simp only [Act.put, List.setIfInBounds_toArray, List.set_cons_zero, List.set_cons_succ, List.getElem_toArray, List.getElem_cons_zero, List.getElem_cons_succ]
  refine wpAnyH_take (i := 2) (oi := _) (v := ?_) rfl (by kernel_rfl) (by kernel_rfl) (by kernel_rfl) (fun _ _ _ h => h) (Or.inl ⟨by rfl, ?_⟩) (by assumption) ?_
  case refine_2 =>
    intro w9 hSw
    (try dsimp only at hSw)
    go_simp
    (try with_reducible rfl)
  try simp only [Act.put, List.setIfInBounds_toArray, List.set_cons_zero, List.set_cons_succ, List.getElem_toArray, List.getElem_cons_zero, List.getElem_cons_succ]
  refine wpAnyH_ready (rs := [3]) (by kernel_rfl) (by simp) ?_
  refine AllReadyH.cons rfl (fun K hK => ?_) AllReadyH.nil
  go_simp
  (with_reducible refine (ten11 q _ q1000).mono ?_)
  rintro e w3 ⟨P, p, pc, rfl, HP, HC3⟩
  have R3a := Lib.hid (R2a.out.belowW HC3.out)
  have R3d := Lib.hid (R2d.out.belowW HC3.out)
  have HR3 := Lib.hid (HR2.out.trans (HC3.out.mono HR2.out.size))
  have R3p := Lib.hid (HP.out)
  have hp : p ≤ 100000 := by have := HP.out.lim LT.out; omega
  go_wp2_with fail
  clear hHeld
  refine hK.out _ _ ?_ (fun hHeld => ?_)
  case refine_1 => exact R3d.out.cell 1
  clear hK K
  try simp only [List.setIfInBounds_toArray, List.set_cons_zero, List.set_cons_succ]
  refine wpAnyH_ready (rs := [4]) (by kernel_rfl) (by simp) ?_
  refine AllReadyH.cons rfl (fun K hK => ?_) AllReadyH.nil
  go_simp
  (with_reducible refine (rMul A P n c p pc (limbs d.k) (limbs (10 ^ q)) _ R3a.out R3p.out hn hp).mono ?_)
  rw [HM.out]
  rintro e w4 ⟨B, m, mc, rfl, HY, HC4⟩
  have R4a := Lib.hid (R3a.out.belowW HC4.out)
  have R4d := Lib.hid (R3d.out.belowW HC4.out)
  have R4p := Lib.hid (R3p.out.belowW HC4.out)
  have HR4 := Lib.hid (HR3.out.trans (HC4.out.mono HR3.out.size))
  have R4m := Lib.hid (HY.out.sl)
  have hm : m ≤ 100000 := by have := HY.out.sl.lim LM.out; omega
  go_wp2_with fail
  clear hHeld
  refine hK.out _ _ ?_ (fun hHeld => ?_)
  case refine_1 => exact R4d.out.cell 1
  clear hK K
  try simp only [List.setIfInBounds_toArray, List.set_cons_zero, List.set_cons_succ]
  refine wpAnyH_take (i := 5) (oi := _) (v := ?_) rfl (by kernel_rfl) (by kernel_rfl) (by kernel_rfl) (fun _ _ _ h => h) (Or.inl ⟨by rfl, ?_⟩) (by assumption) ?_
  case refine_2 =>
    intro w9 hSw
    (try dsimp only at hSw)
    go_simp
    (try with_reducible rfl)
  try simp only [Act.put, List.setIfInBounds_toArray, List.set_cons_zero, List.set_cons_succ, List.getElem_toArray, List.getElem_cons_zero, List.getElem_cons_succ]
  refine wpAnyH_done (by kernel_rfl) ?_ _
  have HL4 := Lib.hid (HB1.out.trans (HR4.out.mono HB1.out.size))
  obtain ⟨pd0, fd0, pd1, fd1, pd2, fd2⟩ := R4d.out.all3
  go_wp2_with fail
  refine (rShr B m mc J (limbs M) w4 R4m.out hm hJ1).mono ?_
  rw [HQ.out]
  rintro e w5 ⟨C, k, kc, rfl, HC, HB5⟩
  have F5a := Lib.hid (R4a.out.belowW HB5.out)
  have F5d := Lib.hid (R4d.out.belowW HB5.out)
  have F5p := Lib.hid (R4p.out.belowW HB5.out)
  have F5m := Lib.hid (R4m.out.belowW HB5.out)
  have HL5 := Lib.hid (HL4.out.trans (HB5.out.mono HL4.out.size))
  have F5k := Lib.hid (HC.out.sl)
  have hk : k ≤ 100000 := by have := HC.out.sl.lim LQ.out; omega
  have hk9 : k ≤ 900000 := by omega
  have hk1 : k ≤ 1000000 := by omega
  clear pd0 fd0 pd1 fd1 pd2 fd2
  obtain ⟨pd0, fd0, pd1, fd1, pd2, fd2⟩ := F5d.out.all3
  cases hng : d.neg with
  | false =>
    have HF := Lib.hid (show scQ d q false = Q ∧ scN d q false = false by rw [HN.out, HS.out, hng]; simp)
    clear pd0 fd0 pd1 fd1 pd2 fd2
    obtain ⟨pd0, fd0, pd1, fd1, pd2, fd2⟩ := F5d.out.all3
    go_wp2_with fail
    refine bodyPost_ret (v := .tuple #[.slice C k kc, .bool false]) (by simp [results, Tryz.results45, go_sem]) rfl ?_
    rw [HF.out.1, HF.out.2]
    exact ⟨C, k, kc, rfl, F5k, HL5⟩
  | true =>
    clear pd0 fd0 pd1 fd1 pd2 fd2
    obtain ⟨pd0, fd0, pd1, fd1, pd2, fd2⟩ := F5d.out.all3
    go_wp2_with fail
    refine (rShl C k kc J (limbs Q) w5 F5k.out hk hJ1).mono ?_
    rw [HBK.out]
    rintro e w6 ⟨E, x, xc, rfl, HE, HB6⟩
    have F6a := Lib.hid (F5a.out.belowW HB6.out)
    have F6d := Lib.hid (F5d.out.belowW HB6.out)
    have F6p := Lib.hid (F5p.out.belowW HB6.out)
    have F6m := Lib.hid (F5m.out.belowW HB6.out)
    have F6k := Lib.hid (F5k.out.belowW HB6.out)
    have HL6 := Lib.hid (HL5.out.trans (HB6.out.mono HL5.out.size))
    have F6e := Lib.hid (HE.out.sl)
    have hx : x ≤ 1000000 := by have := HE.out.sl.lim LB.out; omega
    have hm1 : m ≤ 1000000 := by omega
    go_wp2_with fail
    refine (rCmp E B x xc m mc (limbs (Q * 2 ^ J)) (limbs M) w6 F6e.out F6m.out hx hm1).mono ?_
    rw [HCZ.out]
    rintro e w' ⟨rfl, rfl⟩
    clear pd0 fd0 pd1 fd1 pd2 fd2
    obtain ⟨pd0, fd0, pd1, fd1, pd2, fd2⟩ := F6d.out.all3
    cases lost with
    | false =>
      have HF := Lib.hid (show scQ d q false = Q by rw [HS.out]; simp)
      go_wp2_with fail
      refine (rBits C k kc (limbs Q) w6 F6k.out hk1).mono ?_
      rw [val_limbs]
      rintro e w' ⟨rfl, rfl⟩
      obtain ⟨gz, hgz⟩ : ∃ g, decide ((0 : Int) < (blen Q : Int)) = g := ⟨_, rfl⟩
      have HGZ := Lib.hid (show decide (0 < Q) = gz by rw [← hgz, decide_eq_decide]; have := blen_zero_iff (n := Q); omega)
      have hgz2 : decide (0 < blen Q) = gz := by rw [← hgz, decide_eq_decide]; omega
      go_wp2_with fail
      refine bodyPost_ret (v := .tuple #[.slice C k kc, .bool gz]) (by simp [results, Tryz.results45, go_sem]) rfl ?_
      rw [HN.out, HF.out, hng, Bool.true_and, HGZ.out]
      exact ⟨C, k, kc, rfl, F6k, HL6⟩
    | true =>
      have HF := Lib.hid (show scQ d q false = Q + 1 by rw [HS.out, hng]; rfl)
      go_wp2_with fail
      obtain ⟨w7, hw⟩ : ∃ z9 : World, z9 = w6.alloc (.cells #[.int .u32 1] 49) := ⟨_, rfl⟩
      have HB7 := Lib.hid (show Below w6.heap.size w6 w7 by rw [hw]; exact below_a1 _ _)
      have F7one := Lib.hid (show Blk w7 w6.heap.size 49 #[.int .u32 1] by rw [hw]; exact Blk.new _ _ _)
      rw [← hw]
      clear hw
      have F7a := Lib.hid (F6a.out.belowW HB7.out)
      have F7d := Lib.hid (F6d.out.belowW HB7.out)
      have F7p := Lib.hid (F6p.out.belowW HB7.out)
      have F7m := Lib.hid (F6m.out.belowW HB7.out)
      have F7k := Lib.hid (F6k.out.belowW HB7.out)
      have F7e := Lib.hid (F6e.out.belowW HB7.out)
      have HL7 := Lib.hid (HL6.out.trans (HB7.out.mono HL6.out.size))
      have FO := Lib.hid (Sl.one (x := 1) F7one.out (by unfold BB; omega))
      clear pd0 fd0 pd1 fd1 pd2 fd2
      obtain ⟨pd0, fd0, pd1, fd1, pd2, fd2⟩ := F7d.out.all3
      have HA1 := Lib.hid (show val (limbs Q) + val [1] = Q + 1 by rw [val_limbs, val_cons, val_nil, Nat.mul_zero])
      have HA3 := Lib.hid (show blen (Q + 1) ≤ 32 * 256 by have := blen_succ Q; omega)
      refine (rAdd C (some ⟨w6.heap.size, 0, none⟩) k kc 1 1 (limbs Q) [1] w7 F7k.out FO.out hk9 o9).mono ?_
      rw [HA1.out]
      rintro e w8 ⟨G, g, gc, rfl, HG, HB8⟩
      have F8a := Lib.hid (F7a.out.belowW HB8.out)
      have F8d := Lib.hid (F7d.out.belowW HB8.out)
      have F8p := Lib.hid (F7p.out.belowW HB8.out)
      have F8m := Lib.hid (F7m.out.belowW HB8.out)
      have F8k := Lib.hid (F7k.out.belowW HB8.out)
      have F8e := Lib.hid (F7e.out.belowW HB8.out)
      have F8one := Lib.hid (FO.out.belowW HB8.out)
      have HL8 := Lib.hid (HL7.out.trans (HB8.out.mono HL7.out.size))
      have F8g := Lib.hid (HG.out.sl)
      have hg1 : g ≤ 1000000 := by have := HG.out.sl.lim HA3.out; omega
      clear pd0 fd0 pd1 fd1 pd2 fd2
      obtain ⟨pd0, fd0, pd1, fd1, pd2, fd2⟩ := F8d.out.all3
      go_wp2_with fail
      refine (rBits G g gc (limbs (Q + 1)) w8 F8g.out hg1).mono ?_
      rw [val_limbs]
      rintro e w' ⟨rfl, rfl⟩
      obtain ⟨gz, hgz⟩ : ∃ g, decide ((0 : Int) < (blen (Q + 1) : Int)) = g := ⟨_, rfl⟩
      have HGZ := Lib.hid (show decide (0 < (Q + 1)) = gz by rw [← hgz, decide_eq_decide]; have := blen_zero_iff (n := (Q + 1)); omega)
      have hgz2 : decide (0 < blen (Q + 1)) = gz := by rw [← hgz, decide_eq_decide]; omega
      go_wp2_with fail
      refine bodyPost_ret (v := .tuple #[.slice G g gc, .bool gz]) (by simp [results, Tryz.results45, go_sem]) rfl ?_
      rw [HN.out, HF.out, hng, Bool.true_and, HGZ.out]
      exact ⟨G, g, gc, rfl, F8g, HL8⟩
theorem floor11 (d : D) (A : Option Addr) (n c q : Nat) (w : World) (h : Sl w A n c (limbs d.k)) (hv : vld d) (hq : q ≤ 51) (ht : topB d ≤ 1000) : Calls Tryz.prog 45 #[.agg #[.bool d.neg, .slice A n c, .int .i64 d.e], .int .i64 q, .bool false] w (IntT (scN d q false) (scQ d q false) w) := by
  by_cases he : 0 ≤ d.e
  · exact floor11_whole d A n c q w h hv hq ht he
  · exact floor11_part d A n c q w h hv hq ht (by omega)

set_option maxHeartbeats 1000000 in
theorem digits11_no (na : Bool) (A : Option Addr) (n c : Nat) (ea : Int) (l : List Nat) (na' : Bool) (A' : Option Addr) (n' c' : Nat) (ea' : Int) (l' : List Nat) (sa : Bool) (w : World) (h : Sl w A n c l) (h' : Sl w A' n' c' l') (hv : (vldIB na l ea na' l' ea' sa && !sa) = false) :
    Calls Tryz.prog 15 #[.agg #[.bool na, .slice A n c, .int .i64 ea, .bool na', .slice A' n' c', .int .i64 ea', .bool sa]] w (Ret (.int .i64 (-1)) w) := by
  have H1 := Lib.hid h
  have H2 := Lib.hid h'
  obtain ⟨v, hvv⟩ : ∃ v, vldIB na l ea na' l' ea' sa = v := ⟨_, rfl⟩
  have HV := Lib.hid hvv
  rw [hvv] at hv
  clear h h' hvv
  cases v with
  | false =>
    go_enter Tryz.func15, Tryz.ntmps15
    go_wp2_with fail
    obtain ⟨w1, hw⟩ : ∃ z9 : World, z9 = (w.alloc (.cells #[.bool na, .slice A n c, .int .i64 ea, .bool na', .slice A' n' c', .int .i64 ea', .bool sa] 27)) := ⟨_, rfl⟩
    have HB1 := Lib.hid (show Below w.heap.size w w1 by rw [hw]; exact below_a1 _ _)
    have F1a := Lib.hid (H1.out.belowW HB1.out)
    have F1b := Lib.hid (H2.out.belowW HB1.out)
    have F1x := Lib.hid (show Blk w1 (w.heap.size) 27 #[.bool na, .slice A n c, .int .i64 ea, .bool na', .slice A' n' c', .int .i64 ea', .bool sa] by rw [hw]; exact Blk.new _ _ _)
    rw [← hw]
    clear hw
    obtain ⟨px0, fx0, px1, fx1, px2, fx2, px3, fx3, px4, fx4, px5, fx5, px6, fx6⟩ := F1x.out.all7
    go_wp2_with fail
    refine (ivalid05_any na A n c ea l na' A' n' c' ea' l' sa w1 F1a.out F1b.out).mono ?_
    rw [HV.out]
    rintro e w2 ⟨rfl, HB2⟩
    have F2a := Lib.hid (F1a.out.belowW HB2.out)
    have F2b := Lib.hid (F1b.out.belowW HB2.out)
    have F2x := Lib.hid (F1x.out.belowW HB2.out)
    have HL2 := Lib.hid (HB1.out.trans (HB2.out.mono HB1.out.size))
    clear px0 fx0 px1 fx1 px2 fx2 px3 fx3 px4 fx4 px5 fx5 px6 fx6
    obtain ⟨px0, fx0, px1, fx1, px2, fx2, px3, fx3, px4, fx4, px5, fx5, px6, fx6⟩ := F2x.out.all7
    go_wp2_with fail
    go_ret
    exact ⟨rfl, HL2⟩
  | true =>
    cases sa with
    | false => cases hv
    | true =>
      go_enter Tryz.func15, Tryz.ntmps15
      go_wp2_with fail
      obtain ⟨w1, hw⟩ : ∃ z9 : World, z9 = (w.alloc (.cells #[.bool na, .slice A n c, .int .i64 ea, .bool na', .slice A' n' c', .int .i64 ea', .bool true] 27)) := ⟨_, rfl⟩
      have HB1 := Lib.hid (show Below w.heap.size w w1 by rw [hw]; exact below_a1 _ _)
      have F1a := Lib.hid (H1.out.belowW HB1.out)
      have F1b := Lib.hid (H2.out.belowW HB1.out)
      have F1x := Lib.hid (show Blk w1 (w.heap.size) 27 #[.bool na, .slice A n c, .int .i64 ea, .bool na', .slice A' n' c', .int .i64 ea', .bool true] by rw [hw]; exact Blk.new _ _ _)
      rw [← hw]
      clear hw
      obtain ⟨px0, fx0, px1, fx1, px2, fx2, px3, fx3, px4, fx4, px5, fx5, px6, fx6⟩ := F1x.out.all7
      go_wp2_with fail
      refine (ivalid05_any na A n c ea l na' A' n' c' ea' l' true w1 F1a.out F1b.out).mono ?_
      rw [HV.out]
      rintro e w2 ⟨rfl, HB2⟩
      have F2a := Lib.hid (F1a.out.belowW HB2.out)
      have F2b := Lib.hid (F1b.out.belowW HB2.out)
      have F2x := Lib.hid (F1x.out.belowW HB2.out)
      have HL2 := Lib.hid (HB1.out.trans (HB2.out.mono HB1.out.size))
      clear px0 fx0 px1 fx1 px2 fx2 px3 fx3 px4 fx4 px5 fx5 px6 fx6
      obtain ⟨px0, fx0, px1, fx1, px2, fx2, px3, fx3, px4, fx4, px5, fx5, px6, fx6⟩ := F2x.out.all7
      go_wp2_with fail
      go_ret
      exact ⟨rfl, HL2⟩

def D1Rel (x y : D) (W : World) (k : Nat) (nv : Value) (wr : World) : Prop :=
  ∃ j : Nat, nv = .int .i64 ((j : Int) - 1) ∧ k = 51 - j ∧ j ≤ 51 ∧ Hid (digF x y 51 0 = digF x y (51 - j) j) ∧ Hid (Below W.heap.size W wr)
theorem fl_eq {x y : D} {j : Nat} : flD x j = flD y j ↔ scN x j false = scN y j false ∧ scQ x j false = scQ y j false := by
  unfold flD
  constructor
  · exact fun h => textD_inj h
  · rintro ⟨h1, h2⟩
    rw [h1, h2]
set_option maxHeartbeats 8000000 in
set_option maxRecDepth 100000 in
theorem digits11_yes (x y : D) (A : Option Addr) (n c : Nat) (B : Option Addr) (m d : Nat) (w : World) (hx : Sl w A n c (limbs x.k)) (hy : Sl w B m d (limbs y.k)) (vx : vld x) (vy : vld y) (hc : cmpD x y ≤ 0) :
    Calls Tryz.prog 15 #[.agg #[.bool x.neg, .slice A n c, .int .i64 x.e, .bool y.neg, .slice B m d, .int .i64 y.e, .bool false]] w (Ret (.int .i64 (digR x y)) w) := by
  have H1 := Lib.hid hx
  have H2 := Lib.hid hy
  have VX := Lib.hid vx
  have VY := Lib.hid vy
  have HVI := Lib.hid (vldIB_of vx vy hc)
  obtain ⟨tx, htx⟩ : ∃ t, decide (topB x ≤ 1000) = t := ⟨_, rfl⟩
  obtain ⟨ty, hty⟩ : ∃ t, decide (topB y ≤ 1000) = t := ⟨_, rfl⟩
  have HTX := Lib.hid htx
  have HTY := Lib.hid hty
  clear hx hy vx vy hc htx hty
  go_enter Tryz.func15, Tryz.ntmps15
  go_wp2_with fail
  obtain ⟨w1, hw⟩ : ∃ z9 : World, z9 = (w.alloc (.cells #[.bool x.neg, .slice A n c, .int .i64 x.e, .bool y.neg, .slice B m d, .int .i64 y.e, .bool false] 27)) := ⟨_, rfl⟩
  have HB1 := Lib.hid (show Below w.heap.size w w1 by rw [hw]; exact below_a1 _ _)
  have F1a := Lib.hid (H1.out.belowW HB1.out)
  have F1b := Lib.hid (H2.out.belowW HB1.out)
  have F1x := Lib.hid (show Blk w1 (w.heap.size) 27 #[.bool x.neg, .slice A n c, .int .i64 x.e, .bool y.neg, .slice B m d, .int .i64 y.e, .bool false] by rw [hw]; exact Blk.new _ _ _)
  rw [← hw]
  clear hw
  obtain ⟨px0, fx0, px1, fx1, px2, fx2, px3, fx3, px4, fx4, px5, fx5, px6, fx6⟩ := F1x.out.all7
  go_wp2_with fail
  refine (ivalid05_any x.neg A n c x.e (limbs x.k) y.neg B m d y.e (limbs y.k) false w1 F1a.out F1b.out).mono ?_
  rw [HVI.out]
  rintro e w2 ⟨rfl, HB2⟩
  have F2a := Lib.hid (F1a.out.belowW HB2.out)
  have F2b := Lib.hid (F1b.out.belowW HB2.out)
  have F2x := Lib.hid (F1x.out.belowW HB2.out)
  have HL2 := Lib.hid (HB1.out.trans (HB2.out.mono HB1.out.size))
  clear px0 fx0 px1 fx1 px2 fx2 px3 fx3 px4 fx4 px5 fx5 px6 fx6
  obtain ⟨px0, fx0, px1, fx1, px2, fx2, px3, fx3, px4, fx4, px5, fx5, px6, fx6⟩ := F2x.out.all7
  go_wp2_with fail
  refine (writable11 x A n c w2 F2a.out VX.out).mono ?_
  rw [HTX.out]
  rintro e w3 ⟨rfl, HB3⟩
  have F3a := Lib.hid (F2a.out.belowW HB3.out)
  have F3b := Lib.hid (F2b.out.belowW HB3.out)
  have F3x := Lib.hid (F2x.out.belowW HB3.out)
  have HL3 := Lib.hid (HL2.out.trans (HB3.out.mono HL2.out.size))
  clear px0 fx0 px1 fx1 px2 fx2 px3 fx3 px4 fx4 px5 fx5 px6 fx6
  obtain ⟨px0, fx0, px1, fx1, px2, fx2, px3, fx3, px4, fx4, px5, fx5, px6, fx6⟩ := F3x.out.all7
  cases tx with
  | false =>
    go_wp2_with fail
    go_ret
    exact ⟨ret_int (by unfold digR; rw [if_neg (fun h => by have := HTX.out; rw [decide_eq_true h.1] at this; cases this)]), HL3⟩
  | true =>
    go_wp2_with fail
    refine (writable11 y B m d w3 F3b.out VY.out).mono ?_
    rw [HTY.out]
    rintro e w4 ⟨rfl, HB4⟩
    have F4a := Lib.hid (F3a.out.belowW HB4.out)
    have F4b := Lib.hid (F3b.out.belowW HB4.out)
    have F4x := Lib.hid (F3x.out.belowW HB4.out)
    have HL4 := Lib.hid (HL3.out.trans (HB4.out.mono HL3.out.size))
    clear px0 fx0 px1 fx1 px2 fx2 px3 fx3 px4 fx4 px5 fx5 px6 fx6
    obtain ⟨px0, fx0, px1, fx1, px2, fx2, px3, fx3, px4, fx4, px5, fx5, px6, fx6⟩ := F4x.out.all7
    cases ty with
    | false =>
      go_wp2_with fail
      go_ret
      exact ⟨ret_int (by unfold digR; rw [if_neg (fun h => by have := HTY.out; rw [decide_eq_true h.2] at this; cases this)]), HL4⟩
    | true =>
      clear px0 fx0 px1 fx1 px2 fx2 px3 fx3 px4 fx4 px5 fx5 px6 fx6
      obtain ⟨px0, fx0, px1, fx1, px2, fx2, px3, fx3, px4, fx4, px5, fx5, px6, fx6⟩ := F4x.out.all7
      go_wp2_with fail
      have TX : topB x ≤ 1000 := of_decide_eq_true HTX.out
      have TY : topB y ≤ 1000 := of_decide_eq_true HTY.out
      have HR := Lib.hid (show digR x y = (digF x y 51 0 : Int) - 1 by unfold digR; rw [if_pos ⟨TX, TY⟩])
      clear px0 fx0 px1 fx1 px2 fx2 px3 fx3 px4 fx4 px5 fx5 px6 fx6
      go_loopg [3] 51 (D1Rel x y w4)
      case atStart => exact ⟨0, rfl, rfl, by omega, Lib.hid rfl, Lib.hid (Below.refl _ _)⟩
      case round =>
        obtain ⟨j, rfl, hk, hj, HF, HW⟩ := hrel
        have hj1 : IntKind.i64.wrap ((j : Int) - 1 + 1) = (j : Int) := by rw [Int.sub_add_cancel]; exact IntWalk.i64_in _ (by omega)
        have hj2 : IntKind.i64.wrap (j : Int) = (j : Int) := IntWalk.i64_in _ (by omega)
        have hj3 : (j : Int) - 1 + 1 = (j : Int) := by omega
        by_cases hlt : j < 51
        case neg =>
          have hej : j = 51 := by omega
          have HE := Lib.hid (show (digF x y 51 0 : Int) - 1 = (j : Int) - 1 by rw [HF.out, hej]; rfl)
          have d1 : decide ((j : Int) - 1 < 50) = false := decide_eq_false (by omega)
          clear hej
          go_wp2_with fail
          go_ret
          exact ⟨ret_int (by rw [HR.out, HE.out]), Lib.hid (HL4.out.trans (HW.out.mono HL4.out.size))⟩
        case pos =>
          have d1 : decide ((j : Int) - 1 < 50) = true := decide_eq_true (by omega)
          have hj51 : j ≤ 51 := hj
          obtain ⟨n1, hn1⟩ : ∃ z, scN x j false = z := ⟨_, rfl⟩
          obtain ⟨n2, hn2⟩ : ∃ z, scN y j false = z := ⟨_, rfl⟩
          obtain ⟨q1, hq1⟩ : ∃ z, scQ x j false = z := ⟨_, rfl⟩
          obtain ⟨q2, hq2⟩ : ∃ z, scQ y j false = z := ⟨_, rfl⟩
          have K1 := Lib.hid hn1
          have K2 := Lib.hid hn2
          have K3 := Lib.hid hq1
          have K4 := Lib.hid hq2
          have L1 := Lib.hid (show blen q1 ≤ 32 * 256 by rw [← hq1]; exact scQ_bits VX.out hj51 (top_bd VX.out TX))
          have L2 := Lib.hid (show blen q2 ≤ 32 * 256 by rw [← hq2]; exact scQ_bits VY.out hj51 (top_bd VY.out TY))
          have HFL := Lib.hid (show flD x j = flD y j ↔ n1 = n2 ∧ q1 = q2 by rw [fl_eq, hn1, hn2, hq1, hq2])
          have HST := Lib.hid (show digF x y (51 - j) j = if flD x j = flD y j then digF x y (51 - (j + 1)) (j + 1) else j by rw [show 51 - j = 51 - (j + 1) + 1 by omega]; rfl)
          obtain ⟨cz, hcz⟩ : ∃ z, cmpN q1 q2 = z := ⟨_, rfl⟩
          have HCZ := Lib.hid (show cmpN (val (limbs q1)) (val (limbs q2)) = cz by rw [val_limbs, val_limbs, hcz])
          have HCE := Lib.hid (show (cz != 0) = decide (q1 ≠ q2) by rw [← hcz, cmp_ne])
          clear hn1 hn2 hq1 hq2 hcz
          have Ga := Lib.hid (F4a.out.belowW HW.out)
          have Gb := Lib.hid (F4b.out.belowW HW.out)
          have Gx := Lib.hid (F4x.out.belowW HW.out)
          have GL := Lib.hid (HL4.out.trans (HW.out.mono HL4.out.size))
          obtain ⟨px0, fx0, px1, fx1, px2, fx2, px3, fx3, px4, fx4, px5, fx5, px6, fx6⟩ := Gx.out.all7
          go_wp2_with fail
          refine (floor11 x A n c j wr Ga.out VX.out hj51 TX).mono ?_
          rw [K1.out, K3.out]
          rintro e w5 ⟨P, p, pc, rfl, HP, HB5⟩
          have F5a := Lib.hid (Ga.out.belowW HB5.out)
          have F5b := Lib.hid (Gb.out.belowW HB5.out)
          have F5x := Lib.hid (Gx.out.belowW HB5.out)
          have HL5 := Lib.hid (GL.out.trans (HB5.out.mono GL.out.size))
          have F5p := Lib.hid (HP.out)
          have hp : p ≤ 1000000 := by have := HP.out.lim L1.out; omega
          clear px0 fx0 px1 fx1 px2 fx2 px3 fx3 px4 fx4 px5 fx5 px6 fx6
          obtain ⟨px0, fx0, px1, fx1, px2, fx2, px3, fx3, px4, fx4, px5, fx5, px6, fx6⟩ := F5x.out.all7
          go_wp2_with fail
          refine (floor11 y B m d j w5 F5b.out VY.out hj51 TY).mono ?_
          rw [K2.out, K4.out]
          rintro e w6 ⟨Q, q, qc, rfl, HQ, HB6⟩
          have F6a := Lib.hid (F5a.out.belowW HB6.out)
          have F6b := Lib.hid (F5b.out.belowW HB6.out)
          have F6x := Lib.hid (F5x.out.belowW HB6.out)
          have F6p := Lib.hid (F5p.out.belowW HB6.out)
          have HL6 := Lib.hid (HL5.out.trans (HB6.out.mono HL5.out.size))
          have F6q := Lib.hid (HQ.out)
          have hq : q ≤ 1000000 := by have := HQ.out.lim L2.out; omega
          clear px0 fx0 px1 fx1 px2 fx2 px3 fx3 px4 fx4 px5 fx5 px6 fx6
          obtain ⟨px0, fx0, px1, fx1, px2, fx2, px3, fx3, px4, fx4, px5, fx5, px6, fx6⟩ := F6x.out.all7
          have HWN := Lib.hid (show Below w4.heap.size w4 w6 from HW.out.trans ((HB5.out.trans (HB6.out.mono HB5.out.size)).mono HW.out.size))
          by_cases hnn : n1 = n2
          case neg =>
            have dn : (n1 != n2) = true := by rw [bne_iff_ne]; exact hnn
            have HE := Lib.hid (show (digF x y 51 0 : Int) - 1 = (j : Int) - 1 by rw [HF.out, HST.out, if_neg (by rw [HFL.out]; exact fun h => hnn h.1)])
            go_wp2_with fail
            go_ret
            exact ⟨ret_int (by rw [HR.out, HE.out]), HL6⟩
          have dn : (n1 != n2) = false := by rw [hnn]; simp
          go_wp2_with fail
          refine (rCmp P Q p pc q qc (limbs q1) (limbs q2) w6 F6p.out F6q.out hp hq).mono ?_
          rw [HCZ.out]
          rintro e w' ⟨rfl, rfl⟩
          by_cases hqq : q1 = q2
          case neg =>
            have dq : (cz != 0) = true := by rw [HCE.out]; exact decide_eq_true hqq
            have HE := Lib.hid (show (digF x y 51 0 : Int) - 1 = (j : Int) - 1 by rw [HF.out, HST.out, if_neg (by rw [HFL.out]; exact fun h => hqq h.2)])
            go_wp2_with fail
            go_ret
            exact ⟨ret_int (by rw [HR.out, HE.out]), HL6⟩
          have dq : (cz != 0) = false := by rw [HCE.out]; exact decide_eq_false (fun h => h hqq)
          have HNX := Lib.hid (show digF x y 51 0 = digF x y (51 - (j + 1)) (j + 1) by rw [HF.out, HST.out, if_pos (HFL.out.2 ⟨hnn, hqq⟩)])
          go_wp2_with fail
          go_roundg (51 - (j + 1))
          case measure => omega
          case rel => exact ⟨j + 1, by go_num, rfl, by omega, HNX, HWN⟩
end Go.Proofs.YtffdkakogeofmaaGreatDoor
