/-
  The walks of the reference's decimals: Floor, both ways.
-/
import Derived.Test.YtoogeihbhhcpaaaGreatDoorDeA
import Derived.Test.YtoogeihbhhcpaaaGreatDoorDecC
import Derived.Test.YtoogeihbhhcpaaaGreatDoorFrP
set_option linter.unusedVariables false
namespace Go.Fl.Dy
open Go.Fl.Nm
/-- What is written has few bits. -/
theorem scQ_small {d : D} {q : Nat} {up : Bool} (hq : q ≤ 51) (ht : (if d.k = 0 then 0 else blen d.k + d.e : Int) ≤ 1000) : blen (scQ d q up) ≤ 1250 := by
  have h1 := scM_bits d q
  by_cases h0 : d.k = 0
  · have hM : scM d q = 0 := by unfold scM; rw [h0, Nat.zero_mul]
    unfold scQ
    rw [hM]
    split
    · rw [Nat.mul_zero, blen_zero]; omega
    · rw [Nat.zero_div, Nat.zero_mod]
      simp [blen_zero]
  rw [if_neg h0] at ht
  unfold scQ
  split
  · rename_i he
    have h2 := blen_mul_le' (2 ^ d.e.toNat) (scM d q)
    have h3 : blen (2 ^ d.e.toNat) ≤ d.e.toNat + 1 := blen_le (by rw [Nat.pow_succ]; have := Nat.two_pow_pos d.e.toNat; omega)
    omega
  · rename_i he
    obtain ⟨J, hJ⟩ : ∃ J : Nat, (-d.e).toNat = J := ⟨_, rfl⟩
    rw [hJ]
    have h2 : blen (scM d q / 2 ^ J) ≤ blen (scM d q) - J := by
      refine blen_le ?_
      rw [Nat.div_lt_iff_lt_mul (Nat.two_pow_pos J), ← Nat.pow_add]
      exact blen_lt (by omega)
    refine Nat.le_trans (blen_mono (show _ ≤ scM d q / 2 ^ J + 1 by split <;> omega)) ?_
    have h3 : blen (scM d q / 2 ^ J + 1) ≤ blen (scM d q / 2 ^ J) + 1 := by
      have h4 := blen_lt (Nat.le_refl (blen (scM d q / 2 ^ J)))
      refine blen_le ?_
      rw [Nat.pow_succ]
      have := Nat.two_pow_pos (blen (scM d q / 2 ^ J))
      omega
    omega
end Go.Fl.Dy
namespace Go.Proofs.YtoogeihbhhcpaaaGreatDoor
open Go.RowKit Go.Fl Go.Fl.Nm Go.Fl.Dy
open List renaming setIfInBounds_toArray → qa, set_cons_zero → qb, set_cons_succ → qc, getElem_toArray → qd, getElem_cons_zero → qe, getElem_cons_succ → qf
theorem rShl_to (A : Option Addr) (n c p : Nat) (e : Int) (a : List Nat) (w : World) (ha : Sl w A n c a) (hn : n ≤ 100000) (hp : p ≤ 1000000) (he : e = (p : Int)) :
    Calls Tryz.prog 113 #[.slice A n c, .int .i64 e] w (RP (val a * 2 ^ p) w) := by
  subst he
  exact rShl A n c p a w ha hn hp
/-- An integer with a sign, as the reference gives it. -/
def IntG (neg : Bool) (v : Nat) (w : World) (e : Ending) (w' : World) : Prop :=
  ∃ (A : Option Addr) (n c : Nat), e = .returned (.tuple #[.slice A n c, .bool neg]) ∧ Hid (Sl w' A n c (limbs v)) ∧ Hid (Below w.heap.size w w')

set_option maxHeartbeats 4000000 in
set_option maxRecDepth 100000 in
theorem floordown_whole (d : D) (A : Option Addr) (n c q : Nat) (w : World) (h : Sl w A n c (limbs d.k)) (hv : vld d) (hq : q ≤ 51) (ht : topB d ≤ 1000) (he : 0 ≤ d.e) : Calls Tryz.prog 73 #[.agg #[.bool d.neg, .slice A n c, .int .i64 d.e], .int .i64 q, .bool false] w (IntG (scN d q false) (scQ d q false) w) := by
  have H := Lib.hid h
  have hn : n ≤ 100000 := by have := h.lim (k := 128) (by have := vld_bits hv; omega); omega
  have hb := vld_ebd hv
  have hbb := vld_bits hv
  have q1000 : q ≤ 1000 := by omega
  have hk1 := top_bd hv ht
  obtain ⟨M, hM⟩ : ∃ M, scM d q = M := ⟨_, rfl⟩
  have HM := Lib.hid (show val (limbs d.k) * val (limbs (10 ^ q)) = M by rw [val_limbs, val_limbs]; exact hM)
  have bM : blen M ≤ 4301 := by rw [← hM]; have := scM_bits d q; omega
  have LT := Lib.hid (show blen (10 ^ q) ≤ 32 * 256 by have := blen_ten q; omega)
  have LM := Lib.hid (show blen M ≤ 32 * 256 by omega)
  have de : decide (0 ≤ d.e) = true := decide_eq_true he
  obtain ⟨E, hE⟩ : ∃ E : Nat, d.e = (E : Int) := ⟨d.e.toNat, by omega⟩
  have HR := Lib.hid (show scQ d q false = M * 2 ^ E ∧ scN d q false = d.neg by unfold scQ scN; rw [if_pos he, if_pos he, hM, hE, Int.toNat_natCast, Nat.mul_comm]; exact ⟨rfl, rfl⟩)
  have HX := Lib.hid (show val (limbs M) * 2 ^ E = M * 2 ^ E by rw [val_limbs])
  have hE1 : E ≤ 1000000 := by omega
  have HEE := Lib.hid hE
  clear h hv hM ht hk1 he hE
  go_enter Tryz.func73, Tryz.ntmps73
  go_wp2_with fail
  obtain ⟨w1, hw⟩ : ∃ z9 : World, z9 = (w.alloc (.cells #[.bool d.neg, .slice A n c, .int .i64 d.e] 40)) := ⟨_, rfl⟩
  have HB1 := Lib.hid (show Below w.heap.size w w1 by rw [hw]; exact below_a1 _ _)
  have F1a := Lib.hid (H.out.belowW HB1.out)
  have F1d := Lib.hid (show Blk w1 (w.heap.size) 40 #[.bool d.neg, .slice A n c, .int .i64 d.e] by rw [hw]; exact Blk.new _ _ _)
  rw [← hw]
  clear hw
  go_wp2_with fail
  have HR2 := Lib.hid (below_dr w1)
  have R2a := Lib.hid (F1a.out.belowW HR2.out)
  have R2d := Lib.hid (F1d.out.belowW HR2.out)
  refine wp_region_held_drew (S := fun w' => w'.cell? ⟨w.heap.size, 1, none⟩ = some (.slice A n c)) (by kernel_rfl) ?_ (fun hHeld => ?_)
  case refine_1 => exact R2d.out.cell 1
  refine tkZ 0 rfl (v := ?_) (.inl ⟨by rfl, ?_⟩) ?_
  case refine_2 => intro w9 hSw; (try dsimp only at hSw); go_simp; (try with_reducible rfl)
  try simp only [Act.put, qa, qb, qc, qd, qe]
  refine tkZ 1 rfl (v := ?_) (.inl ⟨by rfl, ?_⟩) ?_
  case refine_2 => intro w9 hSw; (try dsimp only at hSw); go_simp; (try with_reducible rfl)
  try simp only [Act.put, qa, qb, qc, qd, qe, qf]
  refine tkZ 2 rfl (v := ?_) (.inl ⟨by rfl, ?_⟩) ?_
  case refine_2 => intro w9 hSw; (try dsimp only at hSw); go_simp; (try with_reducible rfl)
  try simp only [Act.put, qa, qb, qc, qd, qe, qf]
  refine wpAnyH_ready (rs := [3]) (by kernel_rfl) (by simp) ?_
  refine AllReadyH.cons rfl (fun K hK => ?_) AllReadyH.nil
  go_simp
  (with_reducible refine (ten11 q _ q1000).mono ?_)
  rintro e w3 ⟨P, p, pc, rfl, HP, HC3⟩
  have R3a := Lib.hid (R2a.out.belowW HC3.out)
  have R3d := Lib.hid (R2d.out.belowW HC3.out)
  have HR3 := Lib.hid (HR2.out.trans (HC3.out.mono HR2.out.size))
  have R3p := Lib.hid (HP.out)
  have hp : p ≤ 100000 := by have := HP.out.lim LT.out; omega
  go_wp2_with fail
  clear hHeld
  refine hK.out _ _ ?_ (fun hHeld => ?_)
  case refine_1 => exact R3d.out.cell 1
  clear hK K
  try simp only [qa, qb, qc]
  refine wpAnyH_ready (rs := [4]) (by kernel_rfl) (by simp) ?_
  refine AllReadyH.cons rfl (fun K hK => ?_) AllReadyH.nil
  go_simp
  (with_reducible refine (rMul A P n c p pc (limbs d.k) (limbs (10 ^ q)) _ R3a.out R3p.out hn hp).mono ?_)
  rw [HM.out]
  rintro e w4 ⟨B, m, mc, rfl, HY, HC4⟩
  have R4a := Lib.hid (R3a.out.belowW HC4.out)
  have R4d := Lib.hid (R3d.out.belowW HC4.out)
  have R4p := Lib.hid (R3p.out.belowW HC4.out)
  have HR4 := Lib.hid (HR3.out.trans (HC4.out.mono HR3.out.size))
  have R4m := Lib.hid (HY.out.sl)
  have hm : m ≤ 100000 := by have := HY.out.sl.lim LM.out; omega
  go_wp2_with fail
  clear hHeld
  refine hK.out _ _ ?_ (fun hHeld => ?_)
  case refine_1 => exact R4d.out.cell 1
  clear hK K
  try simp only [qa, qb, qc]
  refine tkZ 5 rfl (v := ?_) (.inl ⟨by rfl, ?_⟩) ?_
  case refine_2 => intro w9 hSw; (try dsimp only at hSw); go_simp; (try with_reducible rfl)
  try simp only [Act.put, qa, qb, qc, qd, qe, qf]
  refine wpAnyH_done (by kernel_rfl) ?_ _
  have HL4 := Lib.hid (HB1.out.trans (HR4.out.mono HB1.out.size))
  obtain ⟨pd0, fd0, pd1, fd1, pd2, fd2⟩ := R4d.out.all3
  go_wp2_with fail
  have HR5 := Lib.hid (below_dr w4)
  have R5a := Lib.hid (R4a.out.belowW HR5.out)
  have R5d := Lib.hid (R4d.out.belowW HR5.out)
  have R5p := Lib.hid (R4p.out.belowW HR5.out)
  have R5m := Lib.hid (R4m.out.belowW HR5.out)
  refine wp_region_held_drew (S := fun w' => w'.cell? ⟨w.heap.size, 0, none⟩ = some (.bool d.neg) ∧ w'.cell? ⟨w.heap.size, 2, none⟩ = some (.int .i64 d.e)) (by kernel_rfl) ?_ (fun hHeld => ?_)
  case refine_1 => exact ⟨R5d.out.cell 0, R5d.out.cell 2⟩
  refine tkZ 0 rfl (v := ?_) (.inl ⟨by rfl, ?_⟩) ?_
  case refine_2 => intro w9 hSw; (try dsimp only at hSw); go_simp; (try with_reducible rfl)
  try simp only [Act.put, qa, qb, qc, qd, qe]
  refine tkZ 1 rfl (v := ?_) (.inl ⟨by rfl, ?_⟩) ?_
  case refine_2 => intro w9 hSw; (try dsimp only at hSw); go_simp; (try with_reducible rfl)
  try simp only [Act.put, qa, qb, qc, qd, qe, qf]
  refine tkZ 2 rfl (v := ?_) (.inl ⟨by rfl, ?_⟩) ?_
  case refine_2 => intro w9 hSw; (try dsimp only at hSw); go_simp; (try with_reducible rfl)
  try simp only [Act.put, qa, qb, qc, qd, qe, qf]
  refine tkZ 4 rfl (v := ?_) (.inl ⟨by rfl, ?_⟩) ?_
  case refine_2 => intro w9 hSw; (try dsimp only at hSw); go_simp; (try with_reducible rfl)
  try simp only [Act.put, qa, qb, qc, qd, qe, qf]
  refine tkZ 5 rfl (v := ?_) (.inl ⟨by rfl, ?_⟩) ?_
  case refine_2 => intro w9 hSw; (try dsimp only at hSw); go_simp; (try with_reducible rfl)
  try simp only [Act.put, qa, qb, qc, qd, qe, qf]
  refine wpAnyH_ready (rs := [3]) (by kernel_rfl) (by simp) ?_
  refine AllReadyH.cons rfl (fun K hK => ?_) AllReadyH.nil
  go_simp
  (with_reducible refine (rShl_to B m mc E d.e (limbs M) _ R5m.out hm hE1 HEE.out).mono ?_)
  rw [HX.out]
  rintro e w6 ⟨C, k, kc, rfl, HC, HC6⟩
  have R6a := Lib.hid (R5a.out.belowW HC6.out)
  have R6d := Lib.hid (R5d.out.belowW HC6.out)
  have R6p := Lib.hid (R5p.out.belowW HC6.out)
  have R6m := Lib.hid (R5m.out.belowW HC6.out)
  have HR6 := Lib.hid (HR5.out.trans (HC6.out.mono HR5.out.size))
  have R6k := Lib.hid (HC.out.sl)
  go_wp2_with fail
  clear hHeld
  refine hK.out _ _ ?_ (fun hHeld => ?_)
  case refine_1 => exact ⟨R6d.out.cell 0, R6d.out.cell 2⟩
  clear hK K
  try simp only [qa, qb, qc]
  refine tkZ 6 rfl (v := ?_) (.inl ⟨by rfl, ?_⟩) ?_
  case refine_2 => intro w9 hSw; (try dsimp only at hSw); go_simp; (try with_reducible rfl)
  try simp only [Act.put, qa, qb, qc, qd, qe, qf]
  refine tkZ 7 rfl (v := ?_) (.inl ⟨by rfl, ?_⟩) ?_
  case refine_2 => intro w9 hSw; (try dsimp only at hSw); go_simp; (try with_reducible rfl)
  try simp only [Act.put, qa, qb, qc, qd, qe, qf]
  refine wpAnyH_done (by kernel_rfl) ?_ _
  have HL6 := Lib.hid (HL4.out.trans (HR6.out.mono HL4.out.size))
  go_wp2_with fail
  refine bodyPost_ret (v := .tuple #[.slice C k kc, .bool d.neg]) (by simp [results, Tryz.results73, go_sem]) rfl ?_
  rw [HR.out.1, HR.out.2]
  exact ⟨C, k, kc, rfl, R6k, HL6⟩

set_option maxHeartbeats 8000000 in
set_option maxRecDepth 100000 in
theorem floordown_part (d : D) (A : Option Addr) (n c q : Nat) (w : World) (h : Sl w A n c (limbs d.k)) (hv : vld d) (hq : q ≤ 51) (ht : topB d ≤ 1000) (he : d.e < 0) : Calls Tryz.prog 73 #[.agg #[.bool d.neg, .slice A n c, .int .i64 d.e], .int .i64 q, .bool false] w (IntG (scN d q false) (scQ d q false) w) := by
  have H := Lib.hid h
  have hn : n ≤ 100000 := by have := h.lim (k := 128) (by have := vld_bits hv; omega); omega
  have hb := vld_ebd hv
  have hbb := vld_bits hv
  have q1000 : q ≤ 1000 := by omega
  have hk1 := top_bd hv ht
  obtain ⟨M, hM⟩ : ∃ M, scM d q = M := ⟨_, rfl⟩
  have HM := Lib.hid (show val (limbs d.k) * val (limbs (10 ^ q)) = M by rw [val_limbs, val_limbs]; exact hM)
  have bM : blen M ≤ 4301 := by rw [← hM]; have := scM_bits d q; omega
  have LT := Lib.hid (show blen (10 ^ q) ≤ 32 * 256 by have := blen_ten q; omega)
  have LM := Lib.hid (show blen M ≤ 32 * 256 by omega)
  have de : decide (0 ≤ d.e) = false := decide_eq_false (by omega)
  obtain ⟨J, hJ⟩ : ∃ J : Nat, d.e = -(J : Int) := ⟨(-d.e).toNat, by omega⟩
  have hneg : 0 - d.e = (J : Int) := by omega
  have hneg2 : -d.e = (J : Int) := by omega
  have hnegw : IntKind.i64.wrap (0 - d.e) = (J : Int) := by rw [hneg]; exact IntWalk.i64_in _ (by omega)
  have hnegw2 : IntKind.i64.wrap (-d.e) = (J : Int) := by rw [hneg2]; exact IntWalk.i64_in _ (by omega)
  have eJw : IntKind.i64.wrap (J : Int) = (J : Int) := IntWalk.i64_in _ (by omega)
  have hJ1 : J ≤ 1000000 := by omega
  obtain ⟨Q, hQ⟩ : ∃ Q, M / 2 ^ J = Q := ⟨_, rfl⟩
  have HQ := Lib.hid (show val (limbs M) / 2 ^ J = Q by rw [val_limbs]; exact hQ)
  have bQ : blen Q ≤ 4301 := by rw [← hQ]; exact Nat.le_trans (blen_mono (Nat.div_le_self _ _)) bM
  have LQ := Lib.hid (show blen Q ≤ 32 * 256 by omega)
  obtain ⟨lost, hlost⟩ : ∃ l, decide (M % 2 ^ J ≠ 0) = l := ⟨_, rfl⟩
  have HS := Lib.hid (show scQ d q false = Q + (if lost && (false != d.neg) then 1 else 0) by unfold scQ; rw [if_neg (by omega), hM, hneg2, Int.toNat_natCast, hQ, hlost])
  have HN := Lib.hid (show scN d q false = (d.neg && decide (0 < scQ d q false)) by unfold scN; rw [if_neg (by omega)])
  obtain ⟨cz, hcz⟩ : ∃ z, cmpN (Q * 2 ^ J) M = z := ⟨_, rfl⟩
  have HBK := Lib.hid (show val (limbs Q) * 2 ^ J = Q * 2 ^ J by rw [val_limbs])
  have HCZ := Lib.hid (show cmpN (val (limbs (Q * 2 ^ J))) (val (limbs M)) = cz by rw [val_limbs, val_limbs]; exact hcz)
  have LB := Lib.hid (show blen (Q * 2 ^ J) ≤ 32 * 256 by
    have : Q * 2 ^ J ≤ M := by rw [← hQ]; exact Nat.div_mul_le_self _ _
    have := blen_mono this
    omega)
  have dcz : (cz != 0) = lost := by
    rw [← hcz, cmp_ne, ← hlost, decide_eq_decide, ← hQ]
    have := Nat.div_add_mod M (2 ^ J)
    rw [Nat.mul_comm]
    omega
  have o9 : (1 : Nat) ≤ 900000 := by omega
  clear h hv hM hQ hlost ht hk1 hcz hJ
  go_enter Tryz.func73, Tryz.ntmps73
  go_wp2_with fail
  obtain ⟨w1, hw⟩ : ∃ z9 : World, z9 = (w.alloc (.cells #[.bool d.neg, .slice A n c, .int .i64 d.e] 40)) := ⟨_, rfl⟩
  have HB1 := Lib.hid (show Below w.heap.size w w1 by rw [hw]; exact below_a1 _ _)
  have F1a := Lib.hid (H.out.belowW HB1.out)
  have F1d := Lib.hid (show Blk w1 (w.heap.size) 40 #[.bool d.neg, .slice A n c, .int .i64 d.e] by rw [hw]; exact Blk.new _ _ _)
  rw [← hw]
  clear hw
  go_wp2_with fail
  have HR2 := Lib.hid (below_dr w1)
  have R2a := Lib.hid (F1a.out.belowW HR2.out)
  have R2d := Lib.hid (F1d.out.belowW HR2.out)
  refine wp_region_held_drew (S := fun w' => w'.cell? ⟨w.heap.size, 1, none⟩ = some (.slice A n c)) (by kernel_rfl) ?_ (fun hHeld => ?_)
  case refine_1 => exact R2d.out.cell 1
  refine tkZ 0 rfl (v := ?_) (.inl ⟨by rfl, ?_⟩) ?_
  case refine_2 => intro w9 hSw; (try dsimp only at hSw); go_simp; (try with_reducible rfl)
  try simp only [Act.put, qa, qb, qc, qd, qe]
  refine tkZ 1 rfl (v := ?_) (.inl ⟨by rfl, ?_⟩) ?_
  case refine_2 => intro w9 hSw; (try dsimp only at hSw); go_simp; (try with_reducible rfl)
  try simp only [Act.put, qa, qb, qc, qd, qe, qf]
  refine tkZ 2 rfl (v := ?_) (.inl ⟨by rfl, ?_⟩) ?_
  case refine_2 => intro w9 hSw; (try dsimp only at hSw); go_simp; (try with_reducible rfl)
  try simp only [Act.put, qa, qb, qc, qd, qe, qf]
  refine wpAnyH_ready (rs := [3]) (by kernel_rfl) (by simp) ?_
  refine AllReadyH.cons rfl (fun K hK => ?_) AllReadyH.nil
  go_simp
  (with_reducible refine (ten11 q _ q1000).mono ?_)
  rintro e w3 ⟨P, p, pc, rfl, HP, HC3⟩
  have R3a := Lib.hid (R2a.out.belowW HC3.out)
  have R3d := Lib.hid (R2d.out.belowW HC3.out)
  have HR3 := Lib.hid (HR2.out.trans (HC3.out.mono HR2.out.size))
  have R3p := Lib.hid (HP.out)
  have hp : p ≤ 100000 := by have := HP.out.lim LT.out; omega
  go_wp2_with fail
  clear hHeld
  refine hK.out _ _ ?_ (fun hHeld => ?_)
  case refine_1 => exact R3d.out.cell 1
  clear hK K
  try simp only [qa, qb, qc]
  refine wpAnyH_ready (rs := [4]) (by kernel_rfl) (by simp) ?_
  refine AllReadyH.cons rfl (fun K hK => ?_) AllReadyH.nil
  go_simp
  (with_reducible refine (rMul A P n c p pc (limbs d.k) (limbs (10 ^ q)) _ R3a.out R3p.out hn hp).mono ?_)
  rw [HM.out]
  rintro e w4 ⟨B, m, mc, rfl, HY, HC4⟩
  have R4a := Lib.hid (R3a.out.belowW HC4.out)
  have R4d := Lib.hid (R3d.out.belowW HC4.out)
  have R4p := Lib.hid (R3p.out.belowW HC4.out)
  have HR4 := Lib.hid (HR3.out.trans (HC4.out.mono HR3.out.size))
  have R4m := Lib.hid (HY.out.sl)
  have hm : m ≤ 100000 := by have := HY.out.sl.lim LM.out; omega
  go_wp2_with fail
  clear hHeld
  refine hK.out _ _ ?_ (fun hHeld => ?_)
  case refine_1 => exact R4d.out.cell 1
  clear hK K
  try simp only [qa, qb, qc]
  refine tkZ 5 rfl (v := ?_) (.inl ⟨by rfl, ?_⟩) ?_
  case refine_2 => intro w9 hSw; (try dsimp only at hSw); go_simp; (try with_reducible rfl)
  try simp only [Act.put, qa, qb, qc, qd, qe, qf]
  refine wpAnyH_done (by kernel_rfl) ?_ _
  have HL4 := Lib.hid (HB1.out.trans (HR4.out.mono HB1.out.size))
  obtain ⟨pd0, fd0, pd1, fd1, pd2, fd2⟩ := R4d.out.all3
  go_wp2_with fail
  refine (rShr B m mc J (limbs M) w4 R4m.out hm hJ1).mono ?_
  rw [HQ.out]
  rintro e w5 ⟨C, k, kc, rfl, HC, HB5⟩
  have F5a := Lib.hid (R4a.out.belowW HB5.out)
  have F5d := Lib.hid (R4d.out.belowW HB5.out)
  have F5p := Lib.hid (R4p.out.belowW HB5.out)
  have F5m := Lib.hid (R4m.out.belowW HB5.out)
  have HL5 := Lib.hid (HL4.out.trans (HB5.out.mono HL4.out.size))
  have F5k := Lib.hid (HC.out.sl)
  have hk : k ≤ 100000 := by have := HC.out.sl.lim LQ.out; omega
  have hk9 : k ≤ 900000 := by omega
  have hk1 : k ≤ 1000000 := by omega
  clear pd0 fd0 pd1 fd1 pd2 fd2
  obtain ⟨pd0, fd0, pd1, fd1, pd2, fd2⟩ := F5d.out.all3
  cases hng : d.neg with
  | false =>
    have HF := Lib.hid (show scQ d q false = Q ∧ scN d q false = false by rw [HN.out, HS.out, hng]; simp)
    clear pd0 fd0 pd1 fd1 pd2 fd2
    obtain ⟨pd0, fd0, pd1, fd1, pd2, fd2⟩ := F5d.out.all3
    go_wp2_with fail
    refine bodyPost_ret (v := .tuple #[.slice C k kc, .bool false]) (by simp [results, Tryz.results73, go_sem]) rfl ?_
    rw [HF.out.1, HF.out.2]
    exact ⟨C, k, kc, rfl, F5k, HL5⟩
  | true =>
    clear pd0 fd0 pd1 fd1 pd2 fd2
    obtain ⟨pd0, fd0, pd1, fd1, pd2, fd2⟩ := F5d.out.all3
    go_wp2_with fail
    refine (rShl C k kc J (limbs Q) w5 F5k.out hk hJ1).mono ?_
    rw [HBK.out]
    rintro e w6 ⟨E, x, xc, rfl, HE, HB6⟩
    have F6a := Lib.hid (F5a.out.belowW HB6.out)
    have F6d := Lib.hid (F5d.out.belowW HB6.out)
    have F6p := Lib.hid (F5p.out.belowW HB6.out)
    have F6m := Lib.hid (F5m.out.belowW HB6.out)
    have F6k := Lib.hid (F5k.out.belowW HB6.out)
    have HL6 := Lib.hid (HL5.out.trans (HB6.out.mono HL5.out.size))
    have F6e := Lib.hid (HE.out.sl)
    have hx : x ≤ 1000000 := by have := HE.out.sl.lim LB.out; omega
    have hm1 : m ≤ 1000000 := by omega
    go_wp2_with fail
    refine (rCmp E B x xc m mc (limbs (Q * 2 ^ J)) (limbs M) w6 F6e.out F6m.out hx hm1).mono ?_
    rw [HCZ.out]
    rintro e w' ⟨rfl, rfl⟩
    clear pd0 fd0 pd1 fd1 pd2 fd2
    obtain ⟨pd0, fd0, pd1, fd1, pd2, fd2⟩ := F6d.out.all3
    cases lost with
    | false =>
      have HF := Lib.hid (show scQ d q false = Q by rw [HS.out]; simp)
      go_wp2_with fail
      refine (rBits C k kc (limbs Q) w6 F6k.out hk1).mono ?_
      rw [val_limbs]
      rintro e w' ⟨rfl, rfl⟩
      obtain ⟨gz, hgz⟩ : ∃ g, decide ((0 : Int) < (blen Q : Int)) = g := ⟨_, rfl⟩
      have HGZ := Lib.hid (show decide (0 < Q) = gz by rw [← hgz, decide_eq_decide]; have := blen_zero_iff (n := Q); omega)
      have hgz2 : decide (0 < blen Q) = gz := by rw [← hgz, decide_eq_decide]; omega
      go_wp2_with fail
      refine bodyPost_ret (v := .tuple #[.slice C k kc, .bool gz]) (by simp [results, Tryz.results73, go_sem]) rfl ?_
      rw [HN.out, HF.out, hng, Bool.true_and, HGZ.out]
      exact ⟨C, k, kc, rfl, F6k, HL6⟩
    | true =>
      have HF := Lib.hid (show scQ d q false = Q + 1 by rw [HS.out, hng]; rfl)
      go_wp2_with fail
      obtain ⟨w7, hw⟩ : ∃ z9 : World, z9 = w6.alloc (.cells #[.int .u32 1] 125) := ⟨_, rfl⟩
      have HB7 := Lib.hid (show Below w6.heap.size w6 w7 by rw [hw]; exact below_a1 _ _)
      have F7one := Lib.hid (show Blk w7 w6.heap.size 125 #[.int .u32 1] by rw [hw]; exact Blk.new _ _ _)
      rw [← hw]
      clear hw
      have F7a := Lib.hid (F6a.out.belowW HB7.out)
      have F7d := Lib.hid (F6d.out.belowW HB7.out)
      have F7p := Lib.hid (F6p.out.belowW HB7.out)
      have F7m := Lib.hid (F6m.out.belowW HB7.out)
      have F7k := Lib.hid (F6k.out.belowW HB7.out)
      have F7e := Lib.hid (F6e.out.belowW HB7.out)
      have HL7 := Lib.hid (HL6.out.trans (HB7.out.mono HL6.out.size))
      have FO := Lib.hid (Sl.one (x := 1) F7one.out (by unfold BB; omega))
      clear pd0 fd0 pd1 fd1 pd2 fd2
      obtain ⟨pd0, fd0, pd1, fd1, pd2, fd2⟩ := F7d.out.all3
      have HA1 := Lib.hid (show val (limbs Q) + val [1] = Q + 1 by rw [val_limbs, val_cons, val_nil, Nat.mul_zero])
      have HA3 := Lib.hid (show blen (Q + 1) ≤ 32 * 256 by have := blen_succ Q; omega)
      refine (rAdd C (some ⟨w6.heap.size, 0, none⟩) k kc 1 1 (limbs Q) [1] w7 F7k.out FO.out hk9 o9).mono ?_
      rw [HA1.out]
      rintro e w8 ⟨G, g, gc, rfl, HG, HB8⟩
      have F8a := Lib.hid (F7a.out.belowW HB8.out)
      have F8d := Lib.hid (F7d.out.belowW HB8.out)
      have F8p := Lib.hid (F7p.out.belowW HB8.out)
      have F8m := Lib.hid (F7m.out.belowW HB8.out)
      have F8k := Lib.hid (F7k.out.belowW HB8.out)
      have F8e := Lib.hid (F7e.out.belowW HB8.out)
      have F8one := Lib.hid (FO.out.belowW HB8.out)
      have HL8 := Lib.hid (HL7.out.trans (HB8.out.mono HL7.out.size))
      have F8g := Lib.hid (HG.out.sl)
      have hg1 : g ≤ 1000000 := by have := HG.out.sl.lim HA3.out; omega
      clear pd0 fd0 pd1 fd1 pd2 fd2
      obtain ⟨pd0, fd0, pd1, fd1, pd2, fd2⟩ := F8d.out.all3
      go_wp2_with fail
      refine (rBits G g gc (limbs (Q + 1)) w8 F8g.out hg1).mono ?_
      rw [val_limbs]
      rintro e w' ⟨rfl, rfl⟩
      obtain ⟨gz, hgz⟩ : ∃ g, decide ((0 : Int) < (blen (Q + 1) : Int)) = g := ⟨_, rfl⟩
      have HGZ := Lib.hid (show decide (0 < (Q + 1)) = gz by rw [← hgz, decide_eq_decide]; have := blen_zero_iff (n := (Q + 1)); omega)
      have hgz2 : decide (0 < blen (Q + 1)) = gz := by rw [← hgz, decide_eq_decide]; omega
      go_wp2_with fail
      refine bodyPost_ret (v := .tuple #[.slice G g gc, .bool gz]) (by simp [results, Tryz.results73, go_sem]) rfl ?_
      rw [HN.out, HF.out, hng, Bool.true_and, HGZ.out]
      exact ⟨G, g, gc, rfl, F8g, HL8⟩
theorem floordown (d : D) (A : Option Addr) (n c q : Nat) (w : World) (h : Sl w A n c (limbs d.k)) (hv : vld d) (hq : q ≤ 51) (ht : topB d ≤ 1000) : Calls Tryz.prog 73 #[.agg #[.bool d.neg, .slice A n c, .int .i64 d.e], .int .i64 q, .bool false] w (IntG (scN d q false) (scQ d q false) w) := by
  by_cases he : 0 ≤ d.e
  · exact floordown_whole d A n c q w h hv hq ht he
  · exact floordown_part d A n c q w h hv hq ht (by omega)

set_option maxHeartbeats 4000000 in
set_option maxRecDepth 100000 in
theorem floorup_whole (d : D) (A : Option Addr) (n c q : Nat) (w : World) (h : Sl w A n c (limbs d.k)) (hv : vld d) (hq : q ≤ 51) (ht : topB d ≤ 1000) (he : 0 ≤ d.e) : Calls Tryz.prog 73 #[.agg #[.bool d.neg, .slice A n c, .int .i64 d.e], .int .i64 q, .bool true] w (IntG (scN d q true) (scQ d q true) w) := by
  have H := Lib.hid h
  have hn : n ≤ 100000 := by have := h.lim (k := 128) (by have := vld_bits hv; omega); omega
  have hb := vld_ebd hv
  have hbb := vld_bits hv
  have q1000 : q ≤ 1000 := by omega
  have hk1 := top_bd hv ht
  obtain ⟨M, hM⟩ : ∃ M, scM d q = M := ⟨_, rfl⟩
  have HM := Lib.hid (show val (limbs d.k) * val (limbs (10 ^ q)) = M by rw [val_limbs, val_limbs]; exact hM)
  have bM : blen M ≤ 4301 := by rw [← hM]; have := scM_bits d q; omega
  have LT := Lib.hid (show blen (10 ^ q) ≤ 32 * 256 by have := blen_ten q; omega)
  have LM := Lib.hid (show blen M ≤ 32 * 256 by omega)
  have de : decide (0 ≤ d.e) = true := decide_eq_true he
  obtain ⟨E, hE⟩ : ∃ E : Nat, d.e = (E : Int) := ⟨d.e.toNat, by omega⟩
  have HR := Lib.hid (show scQ d q true = M * 2 ^ E ∧ scN d q true = d.neg by unfold scQ scN; rw [if_pos he, if_pos he, hM, hE, Int.toNat_natCast, Nat.mul_comm]; exact ⟨rfl, rfl⟩)
  have HX := Lib.hid (show val (limbs M) * 2 ^ E = M * 2 ^ E by rw [val_limbs])
  have hE1 : E ≤ 1000000 := by omega
  have HEE := Lib.hid hE
  clear h hv hM ht hk1 he hE
  go_enter Tryz.func73, Tryz.ntmps73
  go_wp2_with fail
  obtain ⟨w1, hw⟩ : ∃ z9 : World, z9 = (w.alloc (.cells #[.bool d.neg, .slice A n c, .int .i64 d.e] 40)) := ⟨_, rfl⟩
  have HB1 := Lib.hid (show Below w.heap.size w w1 by rw [hw]; exact below_a1 _ _)
  have F1a := Lib.hid (H.out.belowW HB1.out)
  have F1d := Lib.hid (show Blk w1 (w.heap.size) 40 #[.bool d.neg, .slice A n c, .int .i64 d.e] by rw [hw]; exact Blk.new _ _ _)
  rw [← hw]
  clear hw
  go_wp2_with fail
  have HR2 := Lib.hid (below_dr w1)
  have R2a := Lib.hid (F1a.out.belowW HR2.out)
  have R2d := Lib.hid (F1d.out.belowW HR2.out)
  refine wp_region_held_drew (S := fun w' => w'.cell? ⟨w.heap.size, 1, none⟩ = some (.slice A n c)) (by kernel_rfl) ?_ (fun hHeld => ?_)
  case refine_1 => exact R2d.out.cell 1
  refine tkZ 0 rfl (v := ?_) (.inl ⟨by rfl, ?_⟩) ?_
  case refine_2 => intro w9 hSw; (try dsimp only at hSw); go_simp; (try with_reducible rfl)
  try simp only [Act.put, qa, qb, qc, qd, qe]
  refine tkZ 1 rfl (v := ?_) (.inl ⟨by rfl, ?_⟩) ?_
  case refine_2 => intro w9 hSw; (try dsimp only at hSw); go_simp; (try with_reducible rfl)
  try simp only [Act.put, qa, qb, qc, qd, qe, qf]
  refine tkZ 2 rfl (v := ?_) (.inl ⟨by rfl, ?_⟩) ?_
  case refine_2 => intro w9 hSw; (try dsimp only at hSw); go_simp; (try with_reducible rfl)
  try simp only [Act.put, qa, qb, qc, qd, qe, qf]
  refine wpAnyH_ready (rs := [3]) (by kernel_rfl) (by simp) ?_
  refine AllReadyH.cons rfl (fun K hK => ?_) AllReadyH.nil
  go_simp
  (with_reducible refine (ten11 q _ q1000).mono ?_)
  rintro e w3 ⟨P, p, pc, rfl, HP, HC3⟩
  have R3a := Lib.hid (R2a.out.belowW HC3.out)
  have R3d := Lib.hid (R2d.out.belowW HC3.out)
  have HR3 := Lib.hid (HR2.out.trans (HC3.out.mono HR2.out.size))
  have R3p := Lib.hid (HP.out)
  have hp : p ≤ 100000 := by have := HP.out.lim LT.out; omega
  go_wp2_with fail
  clear hHeld
  refine hK.out _ _ ?_ (fun hHeld => ?_)
  case refine_1 => exact R3d.out.cell 1
  clear hK K
  try simp only [qa, qb, qc]
  refine wpAnyH_ready (rs := [4]) (by kernel_rfl) (by simp) ?_
  refine AllReadyH.cons rfl (fun K hK => ?_) AllReadyH.nil
  go_simp
  (with_reducible refine (rMul A P n c p pc (limbs d.k) (limbs (10 ^ q)) _ R3a.out R3p.out hn hp).mono ?_)
  rw [HM.out]
  rintro e w4 ⟨B, m, mc, rfl, HY, HC4⟩
  have R4a := Lib.hid (R3a.out.belowW HC4.out)
  have R4d := Lib.hid (R3d.out.belowW HC4.out)
  have R4p := Lib.hid (R3p.out.belowW HC4.out)
  have HR4 := Lib.hid (HR3.out.trans (HC4.out.mono HR3.out.size))
  have R4m := Lib.hid (HY.out.sl)
  have hm : m ≤ 100000 := by have := HY.out.sl.lim LM.out; omega
  go_wp2_with fail
  clear hHeld
  refine hK.out _ _ ?_ (fun hHeld => ?_)
  case refine_1 => exact R4d.out.cell 1
  clear hK K
  try simp only [qa, qb, qc]
  refine tkZ 5 rfl (v := ?_) (.inl ⟨by rfl, ?_⟩) ?_
  case refine_2 => intro w9 hSw; (try dsimp only at hSw); go_simp; (try with_reducible rfl)
  try simp only [Act.put, qa, qb, qc, qd, qe, qf]
  refine wpAnyH_done (by kernel_rfl) ?_ _
  have HL4 := Lib.hid (HB1.out.trans (HR4.out.mono HB1.out.size))
  obtain ⟨pd0, fd0, pd1, fd1, pd2, fd2⟩ := R4d.out.all3
  go_wp2_with fail
  have HR5 := Lib.hid (below_dr w4)
  have R5a := Lib.hid (R4a.out.belowW HR5.out)
  have R5d := Lib.hid (R4d.out.belowW HR5.out)
  have R5p := Lib.hid (R4p.out.belowW HR5.out)
  have R5m := Lib.hid (R4m.out.belowW HR5.out)
  refine wp_region_held_drew (S := fun w' => w'.cell? ⟨w.heap.size, 0, none⟩ = some (.bool d.neg) ∧ w'.cell? ⟨w.heap.size, 2, none⟩ = some (.int .i64 d.e)) (by kernel_rfl) ?_ (fun hHeld => ?_)
  case refine_1 => exact ⟨R5d.out.cell 0, R5d.out.cell 2⟩
  refine tkZ 0 rfl (v := ?_) (.inl ⟨by rfl, ?_⟩) ?_
  case refine_2 => intro w9 hSw; (try dsimp only at hSw); go_simp; (try with_reducible rfl)
  try simp only [Act.put, qa, qb, qc, qd, qe]
  refine tkZ 1 rfl (v := ?_) (.inl ⟨by rfl, ?_⟩) ?_
  case refine_2 => intro w9 hSw; (try dsimp only at hSw); go_simp; (try with_reducible rfl)
  try simp only [Act.put, qa, qb, qc, qd, qe, qf]
  refine tkZ 2 rfl (v := ?_) (.inl ⟨by rfl, ?_⟩) ?_
  case refine_2 => intro w9 hSw; (try dsimp only at hSw); go_simp; (try with_reducible rfl)
  try simp only [Act.put, qa, qb, qc, qd, qe, qf]
  refine tkZ 4 rfl (v := ?_) (.inl ⟨by rfl, ?_⟩) ?_
  case refine_2 => intro w9 hSw; (try dsimp only at hSw); go_simp; (try with_reducible rfl)
  try simp only [Act.put, qa, qb, qc, qd, qe, qf]
  refine tkZ 5 rfl (v := ?_) (.inl ⟨by rfl, ?_⟩) ?_
  case refine_2 => intro w9 hSw; (try dsimp only at hSw); go_simp; (try with_reducible rfl)
  try simp only [Act.put, qa, qb, qc, qd, qe, qf]
  refine wpAnyH_ready (rs := [3]) (by kernel_rfl) (by simp) ?_
  refine AllReadyH.cons rfl (fun K hK => ?_) AllReadyH.nil
  go_simp
  (with_reducible refine (rShl_to B m mc E d.e (limbs M) _ R5m.out hm hE1 HEE.out).mono ?_)
  rw [HX.out]
  rintro e w6 ⟨C, k, kc, rfl, HC, HC6⟩
  have R6a := Lib.hid (R5a.out.belowW HC6.out)
  have R6d := Lib.hid (R5d.out.belowW HC6.out)
  have R6p := Lib.hid (R5p.out.belowW HC6.out)
  have R6m := Lib.hid (R5m.out.belowW HC6.out)
  have HR6 := Lib.hid (HR5.out.trans (HC6.out.mono HR5.out.size))
  have R6k := Lib.hid (HC.out.sl)
  go_wp2_with fail
  clear hHeld
  refine hK.out _ _ ?_ (fun hHeld => ?_)
  case refine_1 => exact ⟨R6d.out.cell 0, R6d.out.cell 2⟩
  clear hK K
  try simp only [qa, qb, qc]
  refine tkZ 6 rfl (v := ?_) (.inl ⟨by rfl, ?_⟩) ?_
  case refine_2 => intro w9 hSw; (try dsimp only at hSw); go_simp; (try with_reducible rfl)
  try simp only [Act.put, qa, qb, qc, qd, qe, qf]
  refine tkZ 7 rfl (v := ?_) (.inl ⟨by rfl, ?_⟩) ?_
  case refine_2 => intro w9 hSw; (try dsimp only at hSw); go_simp; (try with_reducible rfl)
  try simp only [Act.put, qa, qb, qc, qd, qe, qf]
  refine wpAnyH_done (by kernel_rfl) ?_ _
  have HL6 := Lib.hid (HL4.out.trans (HR6.out.mono HL4.out.size))
  go_wp2_with fail
  refine bodyPost_ret (v := .tuple #[.slice C k kc, .bool d.neg]) (by simp [results, Tryz.results73, go_sem]) rfl ?_
  rw [HR.out.1, HR.out.2]
  exact ⟨C, k, kc, rfl, R6k, HL6⟩

set_option maxHeartbeats 8000000 in
set_option maxRecDepth 100000 in
theorem floorup_part (d : D) (A : Option Addr) (n c q : Nat) (w : World) (h : Sl w A n c (limbs d.k)) (hv : vld d) (hq : q ≤ 51) (ht : topB d ≤ 1000) (he : d.e < 0) : Calls Tryz.prog 73 #[.agg #[.bool d.neg, .slice A n c, .int .i64 d.e], .int .i64 q, .bool true] w (IntG (scN d q true) (scQ d q true) w) := by
  have H := Lib.hid h
  have hn : n ≤ 100000 := by have := h.lim (k := 128) (by have := vld_bits hv; omega); omega
  have hb := vld_ebd hv
  have hbb := vld_bits hv
  have q1000 : q ≤ 1000 := by omega
  have hk1 := top_bd hv ht
  obtain ⟨M, hM⟩ : ∃ M, scM d q = M := ⟨_, rfl⟩
  have HM := Lib.hid (show val (limbs d.k) * val (limbs (10 ^ q)) = M by rw [val_limbs, val_limbs]; exact hM)
  have bM : blen M ≤ 4301 := by rw [← hM]; have := scM_bits d q; omega
  have LT := Lib.hid (show blen (10 ^ q) ≤ 32 * 256 by have := blen_ten q; omega)
  have LM := Lib.hid (show blen M ≤ 32 * 256 by omega)
  have de : decide (0 ≤ d.e) = false := decide_eq_false (by omega)
  obtain ⟨J, hJ⟩ : ∃ J : Nat, d.e = -(J : Int) := ⟨(-d.e).toNat, by omega⟩
  have hneg : 0 - d.e = (J : Int) := by omega
  have hneg2 : -d.e = (J : Int) := by omega
  have hnegw : IntKind.i64.wrap (0 - d.e) = (J : Int) := by rw [hneg]; exact IntWalk.i64_in _ (by omega)
  have hnegw2 : IntKind.i64.wrap (-d.e) = (J : Int) := by rw [hneg2]; exact IntWalk.i64_in _ (by omega)
  have eJw : IntKind.i64.wrap (J : Int) = (J : Int) := IntWalk.i64_in _ (by omega)
  have hJ1 : J ≤ 1000000 := by omega
  obtain ⟨Q, hQ⟩ : ∃ Q, M / 2 ^ J = Q := ⟨_, rfl⟩
  have HQ := Lib.hid (show val (limbs M) / 2 ^ J = Q by rw [val_limbs]; exact hQ)
  have bQ : blen Q ≤ 4301 := by rw [← hQ]; exact Nat.le_trans (blen_mono (Nat.div_le_self _ _)) bM
  have LQ := Lib.hid (show blen Q ≤ 32 * 256 by omega)
  obtain ⟨lost, hlost⟩ : ∃ l, decide (M % 2 ^ J ≠ 0) = l := ⟨_, rfl⟩
  have HS := Lib.hid (show scQ d q true = Q + (if lost && (true != d.neg) then 1 else 0) by unfold scQ; rw [if_neg (by omega), hM, hneg2, Int.toNat_natCast, hQ, hlost])
  have HN := Lib.hid (show scN d q true = (d.neg && decide (0 < scQ d q true)) by unfold scN; rw [if_neg (by omega)])
  obtain ⟨cz, hcz⟩ : ∃ z, cmpN (Q * 2 ^ J) M = z := ⟨_, rfl⟩
  have HBK := Lib.hid (show val (limbs Q) * 2 ^ J = Q * 2 ^ J by rw [val_limbs])
  have HCZ := Lib.hid (show cmpN (val (limbs (Q * 2 ^ J))) (val (limbs M)) = cz by rw [val_limbs, val_limbs]; exact hcz)
  have LB := Lib.hid (show blen (Q * 2 ^ J) ≤ 32 * 256 by
    have : Q * 2 ^ J ≤ M := by rw [← hQ]; exact Nat.div_mul_le_self _ _
    have := blen_mono this
    omega)
  have dcz : (cz != 0) = lost := by
    rw [← hcz, cmp_ne, ← hlost, decide_eq_decide, ← hQ]
    have := Nat.div_add_mod M (2 ^ J)
    rw [Nat.mul_comm]
    omega
  have o9 : (1 : Nat) ≤ 900000 := by omega
  clear h hv hM hQ hlost ht hk1 hcz hJ
  go_enter Tryz.func73, Tryz.ntmps73
  go_wp2_with fail
  obtain ⟨w1, hw⟩ : ∃ z9 : World, z9 = (w.alloc (.cells #[.bool d.neg, .slice A n c, .int .i64 d.e] 40)) := ⟨_, rfl⟩
  have HB1 := Lib.hid (show Below w.heap.size w w1 by rw [hw]; exact below_a1 _ _)
  have F1a := Lib.hid (H.out.belowW HB1.out)
  have F1d := Lib.hid (show Blk w1 (w.heap.size) 40 #[.bool d.neg, .slice A n c, .int .i64 d.e] by rw [hw]; exact Blk.new _ _ _)
  rw [← hw]
  clear hw
  go_wp2_with fail
  have HR2 := Lib.hid (below_dr w1)
  have R2a := Lib.hid (F1a.out.belowW HR2.out)
  have R2d := Lib.hid (F1d.out.belowW HR2.out)
  refine wp_region_held_drew (S := fun w' => w'.cell? ⟨w.heap.size, 1, none⟩ = some (.slice A n c)) (by kernel_rfl) ?_ (fun hHeld => ?_)
  case refine_1 => exact R2d.out.cell 1
  refine tkZ 0 rfl (v := ?_) (.inl ⟨by rfl, ?_⟩) ?_
  case refine_2 => intro w9 hSw; (try dsimp only at hSw); go_simp; (try with_reducible rfl)
  try simp only [Act.put, qa, qb, qc, qd, qe]
  refine tkZ 1 rfl (v := ?_) (.inl ⟨by rfl, ?_⟩) ?_
  case refine_2 => intro w9 hSw; (try dsimp only at hSw); go_simp; (try with_reducible rfl)
  try simp only [Act.put, qa, qb, qc, qd, qe, qf]
  refine tkZ 2 rfl (v := ?_) (.inl ⟨by rfl, ?_⟩) ?_
  case refine_2 => intro w9 hSw; (try dsimp only at hSw); go_simp; (try with_reducible rfl)
  try simp only [Act.put, qa, qb, qc, qd, qe, qf]
  refine wpAnyH_ready (rs := [3]) (by kernel_rfl) (by simp) ?_
  refine AllReadyH.cons rfl (fun K hK => ?_) AllReadyH.nil
  go_simp
  (with_reducible refine (ten11 q _ q1000).mono ?_)
  rintro e w3 ⟨P, p, pc, rfl, HP, HC3⟩
  have R3a := Lib.hid (R2a.out.belowW HC3.out)
  have R3d := Lib.hid (R2d.out.belowW HC3.out)
  have HR3 := Lib.hid (HR2.out.trans (HC3.out.mono HR2.out.size))
  have R3p := Lib.hid (HP.out)
  have hp : p ≤ 100000 := by have := HP.out.lim LT.out; omega
  go_wp2_with fail
  clear hHeld
  refine hK.out _ _ ?_ (fun hHeld => ?_)
  case refine_1 => exact R3d.out.cell 1
  clear hK K
  try simp only [qa, qb, qc]
  refine wpAnyH_ready (rs := [4]) (by kernel_rfl) (by simp) ?_
  refine AllReadyH.cons rfl (fun K hK => ?_) AllReadyH.nil
  go_simp
  (with_reducible refine (rMul A P n c p pc (limbs d.k) (limbs (10 ^ q)) _ R3a.out R3p.out hn hp).mono ?_)
  rw [HM.out]
  rintro e w4 ⟨B, m, mc, rfl, HY, HC4⟩
  have R4a := Lib.hid (R3a.out.belowW HC4.out)
  have R4d := Lib.hid (R3d.out.belowW HC4.out)
  have R4p := Lib.hid (R3p.out.belowW HC4.out)
  have HR4 := Lib.hid (HR3.out.trans (HC4.out.mono HR3.out.size))
  have R4m := Lib.hid (HY.out.sl)
  have hm : m ≤ 100000 := by have := HY.out.sl.lim LM.out; omega
  go_wp2_with fail
  clear hHeld
  refine hK.out _ _ ?_ (fun hHeld => ?_)
  case refine_1 => exact R4d.out.cell 1
  clear hK K
  try simp only [qa, qb, qc]
  refine tkZ 5 rfl (v := ?_) (.inl ⟨by rfl, ?_⟩) ?_
  case refine_2 => intro w9 hSw; (try dsimp only at hSw); go_simp; (try with_reducible rfl)
  try simp only [Act.put, qa, qb, qc, qd, qe, qf]
  refine wpAnyH_done (by kernel_rfl) ?_ _
  have HL4 := Lib.hid (HB1.out.trans (HR4.out.mono HB1.out.size))
  obtain ⟨pd0, fd0, pd1, fd1, pd2, fd2⟩ := R4d.out.all3
  go_wp2_with fail
  refine (rShr B m mc J (limbs M) w4 R4m.out hm hJ1).mono ?_
  rw [HQ.out]
  rintro e w5 ⟨C, k, kc, rfl, HC, HB5⟩
  have F5a := Lib.hid (R4a.out.belowW HB5.out)
  have F5d := Lib.hid (R4d.out.belowW HB5.out)
  have F5p := Lib.hid (R4p.out.belowW HB5.out)
  have F5m := Lib.hid (R4m.out.belowW HB5.out)
  have HL5 := Lib.hid (HL4.out.trans (HB5.out.mono HL4.out.size))
  have F5k := Lib.hid (HC.out.sl)
  have hk : k ≤ 100000 := by have := HC.out.sl.lim LQ.out; omega
  have hk9 : k ≤ 900000 := by omega
  have hk1 : k ≤ 1000000 := by omega
  clear pd0 fd0 pd1 fd1 pd2 fd2
  obtain ⟨pd0, fd0, pd1, fd1, pd2, fd2⟩ := F5d.out.all3
  cases hng : d.neg with
  | true =>
    have HF := Lib.hid (show scQ d q true = Q by rw [HS.out, hng]; simp)
    clear pd0 fd0 pd1 fd1 pd2 fd2
    obtain ⟨pd0, fd0, pd1, fd1, pd2, fd2⟩ := F5d.out.all3
    go_wp2_with fail
    refine (rBits C k kc (limbs Q) w5 F5k.out hk1).mono ?_
    rw [val_limbs]
    rintro e w' ⟨rfl, rfl⟩
    obtain ⟨gz, hgz⟩ : ∃ g, decide ((0 : Int) < (blen Q : Int)) = g := ⟨_, rfl⟩
    have HGZ := Lib.hid (show decide (0 < Q) = gz by rw [← hgz, decide_eq_decide]; have := blen_zero_iff (n := Q); omega)
    have hgz2 : decide (0 < blen Q) = gz := by rw [← hgz, decide_eq_decide]; omega
    go_wp2_with fail
    refine bodyPost_ret (v := .tuple #[.slice C k kc, .bool gz]) (by simp [results, Tryz.results73, go_sem]) rfl ?_
    rw [HN.out, HF.out, hng, Bool.true_and, HGZ.out]
    exact ⟨C, k, kc, rfl, F5k, HL5⟩
  | false =>
    clear pd0 fd0 pd1 fd1 pd2 fd2
    obtain ⟨pd0, fd0, pd1, fd1, pd2, fd2⟩ := F5d.out.all3
    go_wp2_with fail
    refine (rShl C k kc J (limbs Q) w5 F5k.out hk hJ1).mono ?_
    rw [HBK.out]
    rintro e w6 ⟨E, x, xc, rfl, HE, HB6⟩
    have F6a := Lib.hid (F5a.out.belowW HB6.out)
    have F6d := Lib.hid (F5d.out.belowW HB6.out)
    have F6p := Lib.hid (F5p.out.belowW HB6.out)
    have F6m := Lib.hid (F5m.out.belowW HB6.out)
    have F6k := Lib.hid (F5k.out.belowW HB6.out)
    have HL6 := Lib.hid (HL5.out.trans (HB6.out.mono HL5.out.size))
    have F6e := Lib.hid (HE.out.sl)
    have hx : x ≤ 1000000 := by have := HE.out.sl.lim LB.out; omega
    have hm1 : m ≤ 1000000 := by omega
    go_wp2_with fail
    refine (rCmp E B x xc m mc (limbs (Q * 2 ^ J)) (limbs M) w6 F6e.out F6m.out hx hm1).mono ?_
    rw [HCZ.out]
    rintro e w' ⟨rfl, rfl⟩
    clear pd0 fd0 pd1 fd1 pd2 fd2
    obtain ⟨pd0, fd0, pd1, fd1, pd2, fd2⟩ := F6d.out.all3
    cases lost with
    | false =>
      have HF := Lib.hid (show scQ d q true = Q by rw [HS.out]; simp)
      go_wp2_with fail
      refine bodyPost_ret (v := .tuple #[.slice C k kc, .bool false]) (by simp [results, Tryz.results73, go_sem]) rfl ?_
      rw [HN.out, HF.out, hng, Bool.false_and]
      exact ⟨C, k, kc, rfl, F6k, HL6⟩
    | true =>
      have HF := Lib.hid (show scQ d q true = Q + 1 by rw [HS.out, hng]; rfl)
      go_wp2_with fail
      obtain ⟨w7, hw⟩ : ∃ z9 : World, z9 = w6.alloc (.cells #[.int .u32 1] 125) := ⟨_, rfl⟩
      have HB7 := Lib.hid (show Below w6.heap.size w6 w7 by rw [hw]; exact below_a1 _ _)
      have F7one := Lib.hid (show Blk w7 w6.heap.size 125 #[.int .u32 1] by rw [hw]; exact Blk.new _ _ _)
      rw [← hw]
      clear hw
      have F7a := Lib.hid (F6a.out.belowW HB7.out)
      have F7d := Lib.hid (F6d.out.belowW HB7.out)
      have F7p := Lib.hid (F6p.out.belowW HB7.out)
      have F7m := Lib.hid (F6m.out.belowW HB7.out)
      have F7k := Lib.hid (F6k.out.belowW HB7.out)
      have F7e := Lib.hid (F6e.out.belowW HB7.out)
      have HL7 := Lib.hid (HL6.out.trans (HB7.out.mono HL6.out.size))
      have FO := Lib.hid (Sl.one (x := 1) F7one.out (by unfold BB; omega))
      clear pd0 fd0 pd1 fd1 pd2 fd2
      obtain ⟨pd0, fd0, pd1, fd1, pd2, fd2⟩ := F7d.out.all3
      have HA1 := Lib.hid (show val (limbs Q) + val [1] = Q + 1 by rw [val_limbs, val_cons, val_nil, Nat.mul_zero])
      have HA3 := Lib.hid (show blen (Q + 1) ≤ 32 * 256 by have := blen_succ Q; omega)
      refine (rAdd C (some ⟨w6.heap.size, 0, none⟩) k kc 1 1 (limbs Q) [1] w7 F7k.out FO.out hk9 o9).mono ?_
      rw [HA1.out]
      rintro e w8 ⟨G, g, gc, rfl, HG, HB8⟩
      have F8a := Lib.hid (F7a.out.belowW HB8.out)
      have F8d := Lib.hid (F7d.out.belowW HB8.out)
      have F8p := Lib.hid (F7p.out.belowW HB8.out)
      have F8m := Lib.hid (F7m.out.belowW HB8.out)
      have F8k := Lib.hid (F7k.out.belowW HB8.out)
      have F8e := Lib.hid (F7e.out.belowW HB8.out)
      have F8one := Lib.hid (FO.out.belowW HB8.out)
      have HL8 := Lib.hid (HL7.out.trans (HB8.out.mono HL7.out.size))
      have F8g := Lib.hid (HG.out.sl)
      have hg1 : g ≤ 1000000 := by have := HG.out.sl.lim HA3.out; omega
      clear pd0 fd0 pd1 fd1 pd2 fd2
      obtain ⟨pd0, fd0, pd1, fd1, pd2, fd2⟩ := F8d.out.all3
      go_wp2_with fail
      refine bodyPost_ret (v := .tuple #[.slice G g gc, .bool false]) (by simp [results, Tryz.results73, go_sem]) rfl ?_
      rw [HN.out, HF.out, hng, Bool.false_and]
      exact ⟨G, g, gc, rfl, F8g, HL8⟩
theorem floorup (d : D) (A : Option Addr) (n c q : Nat) (w : World) (h : Sl w A n c (limbs d.k)) (hv : vld d) (hq : q ≤ 51) (ht : topB d ≤ 1000) : Calls Tryz.prog 73 #[.agg #[.bool d.neg, .slice A n c, .int .i64 d.e], .int .i64 q, .bool true] w (IntG (scN d q true) (scQ d q true) w) := by
  by_cases he : 0 ≤ d.e
  · exact floorup_whole d A n c q w h hv hq ht he
  · exact floorup_part d A n c q w h hv hq ht (by omega)
end Go.Proofs.YtoogeihbhhcpaaaGreatDoor
