/-
  The walks of the reference's numbers: Cmp; of its intervals: zero, Valid; of its decimals: Writable.
-/
import Derived.Test.YtoogeihbhhcpaaaGreatDoorDecR
import Derived.Test.YtoogeihbhhcpaaaGreatDoorFrP
set_option linter.unusedVariables false
namespace Go.Fl.Dy
open Go.Fl.Nm
theorem cmpD_sg {a b : D} (h : sg a ≠ sg b) : cmpD a b = if sg a < sg b then -1 else 1 := by
  unfold cmpD
  by_cases h1 : sg a < sg b
  · rw [if_pos h1, if_pos h1]
  · rw [if_neg h1, if_neg h1, if_pos (by omega)]
theorem cmpD_zero {a b : D} (h : sg a = sg b) (h0 : sg a = 0) : cmpD a b = 0 := by
  unfold cmpD
  rw [if_neg (by omega), if_neg (by omega), if_pos h0]
theorem cmpD_same {a b : D} (h : sg a = sg b) (h0 : sg a ≠ 0) : cmpD a b = sg a * cmpM a b := by
  unfold cmpD
  rw [if_neg (by omega), if_neg (by omega), if_neg h0]
theorem sg_k {a : D} (h : sg a ≠ 0) : a.k ≠ 0 := by intro e; exact h (by unfold sg; rw [if_pos e])
theorem sg_two (a : D) : sg a = 0 ∨ sg a = 1 ∨ sg a = -1 := by
  unfold sg
  split
  · exact .inl rfl
  · split
    · exact .inr (.inr rfl)
    · exact .inr (.inl rfl)
theorem sg_neg {a b : D} (h : sg a = sg b) (h0 : sg a ≠ 0) : b.neg = a.neg := by
  have ha := sg_k h0
  have hb := sg_k (a := b) (by rw [← h]; exact h0)
  unfold sg at h
  rw [if_neg ha, if_neg hb] at h
  cases h1 : a.neg <;> cases h2 : b.neg <;> rw [h1, h2] at h <;> simp at h <;> rfl
end Go.Fl.Dy
namespace Go.Proofs.YtoogeihbhhcpaaaGreatDoor
open Go.RowKit Go.Fl Go.Fl.Nm Go.Fl.Dy
open List renaming setIfInBounds_toArray → qa, set_cons_zero → qb, set_cons_succ → qc, getElem_toArray → qd, getElem_cons_zero → qe, getElem_cons_succ → qf
theorem topB_k {a : D} (h : a.k ≠ 0) : topB a = blen a.k + a.e := by unfold topB; rw [if_neg h]
theorem uNegD (d dd : D) (A : Option Addr) (n c : Nat) (w : World) (h : Sl w A n c (limbs d.k)) (h0 : d.k ≠ 0) (hd : dd = ⟨!d.neg, d.k, d.e⟩) :
    Calls Tryz.prog 110 #[.agg #[.bool d.neg, .slice A n c, .int .i64 d.e]] w (Ret (.agg #[.bool dd.neg, .slice A n c, .int .i64 dd.e]) w) := by
  subst hd
  exact uNeg d A n c w h h0

set_option maxHeartbeats 4000000 in
set_option maxRecDepth 100000 in
theorem uCmp_sign (a b : D) (A B : Option Addr) (n c m d : Nat) (w : World) (h1 : Sl w A n c (limbs a.k)) (h2 : Sl w B m d (limbs b.k)) (va : vld a) (vb : vld b) (hn : sg a ≠ sg b) : Calls Tryz.prog 71 #[.agg #[.bool a.neg, .slice A n c, .int .i64 a.e], .agg #[.bool b.neg, .slice B m d, .int .i64 b.e]] w (Ret (.int .i64 (cmpD a b)) w) := by
  have H1 := Lib.hid h1
  have H2 := Lib.hid h2
  have VA := Lib.hid va
  have VB := Lib.hid vb
  obtain ⟨s, hs⟩ : ∃ s, sg a = s := ⟨_, rfl⟩
  obtain ⟨t, ht⟩ : ∃ s, sg b = s := ⟨_, rfl⟩
  have HS := Lib.hid hs
  have HT := Lib.hid ht
  have HR := Lib.hid (show cmpD a b = if s < t then -1 else 1 by rw [cmpD_sg hn, hs, ht])
  have d1 : (s != t) = true := by rw [bne_iff_ne, ← hs, ← ht]; exact hn
  clear h1 h2 va vb hn hs ht
  by_cases hlt : s < t
  case pos =>
    have d2 : decide (s < t) = true := decide_eq_true hlt
    have HE := Lib.hid (show cmpD a b = -1 by rw [HR.out, if_pos hlt])
    clear hlt
    go_enter Tryz.func71, Tryz.ntmps71
    go_wp2_with fail
    obtain ⟨w1, hw⟩ : ∃ z9 : World, z9 = ((w.alloc (.cells #[.bool a.neg, .slice A n c, .int .i64 a.e] 40)).alloc (.cells #[.bool b.neg, .slice B m d, .int .i64 b.e] 40)) := ⟨_, rfl⟩
    have HB1 := Lib.hid (show Below w.heap.size w w1 by rw [hw]; exact below_a2 _ _ _)
    have F1x := Lib.hid (H1.out.belowW HB1.out)
    have F1y := Lib.hid (H2.out.belowW HB1.out)
    have F1a := Lib.hid (show Blk w1 (w.heap.size) 40 #[.bool a.neg, .slice A n c, .int .i64 a.e] by rw [hw]; exact (Blk.new _ _ _).alloc _)
    have F1b := Lib.hid (show Blk w1 (w.heap.size + 1) 40 #[.bool b.neg, .slice B m d, .int .i64 b.e] by rw [hw]; exact Blk.new1 _ _ _ _)
    rw [← hw]
    clear hw
    go_wp2_with fail
    have HR2 := Lib.hid (below_dr w1)
    have R2x := Lib.hid (F1x.out.belowW HR2.out)
    have R2y := Lib.hid (F1y.out.belowW HR2.out)
    have R2a := Lib.hid (F1a.out.belowW HR2.out)
    have R2b := Lib.hid (F1b.out.belowW HR2.out)
    refine wp_region_held_drew (S := fun w' => w'.cell? ⟨w.heap.size, 0, none⟩ = some (.bool a.neg) ∧ w'.cell? ⟨w.heap.size, 1, none⟩ = some (.slice A n c) ∧ w'.cell? ⟨w.heap.size, 2, none⟩ = some (.int .i64 a.e) ∧ w'.cell? ⟨w.heap.size + 1, 0, none⟩ = some (.bool b.neg) ∧ w'.cell? ⟨w.heap.size + 1, 1, none⟩ = some (.slice B m d) ∧ w'.cell? ⟨w.heap.size + 1, 2, none⟩ = some (.int .i64 b.e)) (by kernel_rfl) ?_ (fun hHeld => ?_)
    case refine_1 => exact ⟨R2a.out.cell 0, R2a.out.cell 1, R2a.out.cell 2, R2b.out.cell 0, R2b.out.cell 1, R2b.out.cell 2⟩
    refine tkZ 0 rfl (v := ?_) (.inl ⟨by rfl, ?_⟩) ?_
    case refine_2 => intro w9 hSw; (try dsimp only at hSw); go_simp; (try with_reducible rfl)
    try simp only [Act.put, qa, qb, qc, qd, qe]
    refine tkZ 2 rfl (v := ?_) (.inl ⟨by rfl, ?_⟩) ?_
    case refine_2 => intro w9 hSw; (try dsimp only at hSw); go_simp; (try with_reducible rfl)
    try simp only [Act.put, qa, qb, qc, qd, qe, qf]
    refine wpAnyH_ready (rs := [1]) (by kernel_rfl) (by simp) ?_
    refine AllReadyH.cons rfl (fun K hK => ?_) AllReadyH.nil
    go_simp
    (with_reducible refine (uSign a A n c _ R2x.out).mono ?_)
    rw [HS.out]
    rintro e w3 ⟨rfl, HC3⟩
    have R3x := Lib.hid (R2x.out.belowW HC3.out)
    have R3y := Lib.hid (R2y.out.belowW HC3.out)
    have R3a := Lib.hid (R2a.out.belowW HC3.out)
    have R3b := Lib.hid (R2b.out.belowW HC3.out)
    have HR3 := Lib.hid (HR2.out.trans (HC3.out.mono HR2.out.size))
    go_wp2_with fail
    clear hHeld
    refine hK.out _ _ ?_ (fun hHeld => ?_)
    case refine_1 => exact ⟨R3a.out.cell 0, R3a.out.cell 1, R3a.out.cell 2, R3b.out.cell 0, R3b.out.cell 1, R3b.out.cell 2⟩
    clear hK K
    try simp only [qa, qb, qc]
    refine wpAnyH_ready (rs := [3]) (by kernel_rfl) (by simp) ?_
    refine AllReadyH.cons rfl (fun K hK => ?_) AllReadyH.nil
    go_simp
    (with_reducible refine (uSign b B m d _ R3y.out).mono ?_)
    rw [HT.out]
    rintro e w4 ⟨rfl, HC4⟩
    have R4x := Lib.hid (R3x.out.belowW HC4.out)
    have R4y := Lib.hid (R3y.out.belowW HC4.out)
    have R4a := Lib.hid (R3a.out.belowW HC4.out)
    have R4b := Lib.hid (R3b.out.belowW HC4.out)
    have HR4 := Lib.hid (HR3.out.trans (HC4.out.mono HR3.out.size))
    go_wp2_with fail
    clear hHeld
    refine hK.out _ _ ?_ (fun hHeld => ?_)
    case refine_1 => exact ⟨R4a.out.cell 0, R4a.out.cell 1, R4a.out.cell 2, R4b.out.cell 0, R4b.out.cell 1, R4b.out.cell 2⟩
    clear hK K
    try simp only [qa, qb, qc]
    refine tkZ 4 rfl (v := ?_) (.inl ⟨by rfl, ?_⟩) ?_
    case refine_2 => intro w9 hSw; (try dsimp only at hSw); go_simp; (try with_reducible rfl)
    try simp only [Act.put, qa, qb, qc, qd, qe, qf]
    refine tkZ 5 rfl (v := ?_) (.inl ⟨by rfl, ?_⟩) ?_
    case refine_2 => intro w9 hSw; (try dsimp only at hSw); go_simp; (try with_reducible rfl)
    try simp only [Act.put, qa, qb, qc, qd, qe, qf]
    refine wpAnyH_done (by kernel_rfl) ?_ _
    have HL4 := Lib.hid (HB1.out.trans (HR4.out.mono HB1.out.size))
    go_wp2_with fail
    go_ret
    exact ⟨by rw [HE.out]; rfl, HL4⟩
  case neg =>
    have d2 : decide (s < t) = false := decide_eq_false hlt
    have HE := Lib.hid (show cmpD a b = 1 by rw [HR.out, if_neg hlt])
    clear hlt
    go_enter Tryz.func71, Tryz.ntmps71
    go_wp2_with fail
    obtain ⟨w1, hw⟩ : ∃ z9 : World, z9 = ((w.alloc (.cells #[.bool a.neg, .slice A n c, .int .i64 a.e] 40)).alloc (.cells #[.bool b.neg, .slice B m d, .int .i64 b.e] 40)) := ⟨_, rfl⟩
    have HB1 := Lib.hid (show Below w.heap.size w w1 by rw [hw]; exact below_a2 _ _ _)
    have F1x := Lib.hid (H1.out.belowW HB1.out)
    have F1y := Lib.hid (H2.out.belowW HB1.out)
    have F1a := Lib.hid (show Blk w1 (w.heap.size) 40 #[.bool a.neg, .slice A n c, .int .i64 a.e] by rw [hw]; exact (Blk.new _ _ _).alloc _)
    have F1b := Lib.hid (show Blk w1 (w.heap.size + 1) 40 #[.bool b.neg, .slice B m d, .int .i64 b.e] by rw [hw]; exact Blk.new1 _ _ _ _)
    rw [← hw]
    clear hw
    go_wp2_with fail
    have HR2 := Lib.hid (below_dr w1)
    have R2x := Lib.hid (F1x.out.belowW HR2.out)
    have R2y := Lib.hid (F1y.out.belowW HR2.out)
    have R2a := Lib.hid (F1a.out.belowW HR2.out)
    have R2b := Lib.hid (F1b.out.belowW HR2.out)
    refine wp_region_held_drew (S := fun w' => w'.cell? ⟨w.heap.size, 0, none⟩ = some (.bool a.neg) ∧ w'.cell? ⟨w.heap.size, 1, none⟩ = some (.slice A n c) ∧ w'.cell? ⟨w.heap.size, 2, none⟩ = some (.int .i64 a.e) ∧ w'.cell? ⟨w.heap.size + 1, 0, none⟩ = some (.bool b.neg) ∧ w'.cell? ⟨w.heap.size + 1, 1, none⟩ = some (.slice B m d) ∧ w'.cell? ⟨w.heap.size + 1, 2, none⟩ = some (.int .i64 b.e)) (by kernel_rfl) ?_ (fun hHeld => ?_)
    case refine_1 => exact ⟨R2a.out.cell 0, R2a.out.cell 1, R2a.out.cell 2, R2b.out.cell 0, R2b.out.cell 1, R2b.out.cell 2⟩
    refine tkZ 0 rfl (v := ?_) (.inl ⟨by rfl, ?_⟩) ?_
    case refine_2 => intro w9 hSw; (try dsimp only at hSw); go_simp; (try with_reducible rfl)
    try simp only [Act.put, qa, qb, qc, qd, qe]
    refine tkZ 2 rfl (v := ?_) (.inl ⟨by rfl, ?_⟩) ?_
    case refine_2 => intro w9 hSw; (try dsimp only at hSw); go_simp; (try with_reducible rfl)
    try simp only [Act.put, qa, qb, qc, qd, qe, qf]
    refine wpAnyH_ready (rs := [1]) (by kernel_rfl) (by simp) ?_
    refine AllReadyH.cons rfl (fun K hK => ?_) AllReadyH.nil
    go_simp
    (with_reducible refine (uSign a A n c _ R2x.out).mono ?_)
    rw [HS.out]
    rintro e w3 ⟨rfl, HC3⟩
    have R3x := Lib.hid (R2x.out.belowW HC3.out)
    have R3y := Lib.hid (R2y.out.belowW HC3.out)
    have R3a := Lib.hid (R2a.out.belowW HC3.out)
    have R3b := Lib.hid (R2b.out.belowW HC3.out)
    have HR3 := Lib.hid (HR2.out.trans (HC3.out.mono HR2.out.size))
    go_wp2_with fail
    clear hHeld
    refine hK.out _ _ ?_ (fun hHeld => ?_)
    case refine_1 => exact ⟨R3a.out.cell 0, R3a.out.cell 1, R3a.out.cell 2, R3b.out.cell 0, R3b.out.cell 1, R3b.out.cell 2⟩
    clear hK K
    try simp only [qa, qb, qc]
    refine wpAnyH_ready (rs := [3]) (by kernel_rfl) (by simp) ?_
    refine AllReadyH.cons rfl (fun K hK => ?_) AllReadyH.nil
    go_simp
    (with_reducible refine (uSign b B m d _ R3y.out).mono ?_)
    rw [HT.out]
    rintro e w4 ⟨rfl, HC4⟩
    have R4x := Lib.hid (R3x.out.belowW HC4.out)
    have R4y := Lib.hid (R3y.out.belowW HC4.out)
    have R4a := Lib.hid (R3a.out.belowW HC4.out)
    have R4b := Lib.hid (R3b.out.belowW HC4.out)
    have HR4 := Lib.hid (HR3.out.trans (HC4.out.mono HR3.out.size))
    go_wp2_with fail
    clear hHeld
    refine hK.out _ _ ?_ (fun hHeld => ?_)
    case refine_1 => exact ⟨R4a.out.cell 0, R4a.out.cell 1, R4a.out.cell 2, R4b.out.cell 0, R4b.out.cell 1, R4b.out.cell 2⟩
    clear hK K
    try simp only [qa, qb, qc]
    refine tkZ 4 rfl (v := ?_) (.inl ⟨by rfl, ?_⟩) ?_
    case refine_2 => intro w9 hSw; (try dsimp only at hSw); go_simp; (try with_reducible rfl)
    try simp only [Act.put, qa, qb, qc, qd, qe, qf]
    refine tkZ 5 rfl (v := ?_) (.inl ⟨by rfl, ?_⟩) ?_
    case refine_2 => intro w9 hSw; (try dsimp only at hSw); go_simp; (try with_reducible rfl)
    try simp only [Act.put, qa, qb, qc, qd, qe, qf]
    refine wpAnyH_done (by kernel_rfl) ?_ _
    have HL4 := Lib.hid (HB1.out.trans (HR4.out.mono HB1.out.size))
    go_wp2_with fail
    go_ret
    exact ⟨by rw [HE.out]; rfl, HL4⟩

set_option maxHeartbeats 4000000 in
set_option maxRecDepth 100000 in
theorem uCmp_zero (a b : D) (A B : Option Addr) (n c m d : Nat) (w : World) (h1 : Sl w A n c (limbs a.k)) (h2 : Sl w B m d (limbs b.k)) (va : vld a) (vb : vld b) (hn : sg a = sg b) (h0 : sg a = 0) : Calls Tryz.prog 71 #[.agg #[.bool a.neg, .slice A n c, .int .i64 a.e], .agg #[.bool b.neg, .slice B m d, .int .i64 b.e]] w (Ret (.int .i64 (cmpD a b)) w) := by
  have H1 := Lib.hid h1
  have H2 := Lib.hid h2
  have VA := Lib.hid va
  have VB := Lib.hid vb
  obtain ⟨s, hs⟩ : ∃ s, sg a = s := ⟨_, rfl⟩
  obtain ⟨t, ht⟩ : ∃ s, sg b = s := ⟨_, rfl⟩
  have HS := Lib.hid hs
  have HT := Lib.hid ht
  have HE := Lib.hid (cmpD_zero hn h0)
  obtain rfl : s = 0 := hs.symm.trans h0
  obtain rfl : t = 0 := (ht.symm.trans hn.symm).trans h0
  clear h1 h2 va vb hn hs ht h0
  go_enter Tryz.func71, Tryz.ntmps71
  go_wp2_with fail
  obtain ⟨w1, hw⟩ : ∃ z9 : World, z9 = ((w.alloc (.cells #[.bool a.neg, .slice A n c, .int .i64 a.e] 40)).alloc (.cells #[.bool b.neg, .slice B m d, .int .i64 b.e] 40)) := ⟨_, rfl⟩
  have HB1 := Lib.hid (show Below w.heap.size w w1 by rw [hw]; exact below_a2 _ _ _)
  have F1x := Lib.hid (H1.out.belowW HB1.out)
  have F1y := Lib.hid (H2.out.belowW HB1.out)
  have F1a := Lib.hid (show Blk w1 (w.heap.size) 40 #[.bool a.neg, .slice A n c, .int .i64 a.e] by rw [hw]; exact (Blk.new _ _ _).alloc _)
  have F1b := Lib.hid (show Blk w1 (w.heap.size + 1) 40 #[.bool b.neg, .slice B m d, .int .i64 b.e] by rw [hw]; exact Blk.new1 _ _ _ _)
  rw [← hw]
  clear hw
  go_wp2_with fail
  have HR2 := Lib.hid (below_dr w1)
  have R2x := Lib.hid (F1x.out.belowW HR2.out)
  have R2y := Lib.hid (F1y.out.belowW HR2.out)
  have R2a := Lib.hid (F1a.out.belowW HR2.out)
  have R2b := Lib.hid (F1b.out.belowW HR2.out)
  refine wp_region_held_drew (S := fun w' => w'.cell? ⟨w.heap.size, 0, none⟩ = some (.bool a.neg) ∧ w'.cell? ⟨w.heap.size, 1, none⟩ = some (.slice A n c) ∧ w'.cell? ⟨w.heap.size, 2, none⟩ = some (.int .i64 a.e) ∧ w'.cell? ⟨w.heap.size + 1, 0, none⟩ = some (.bool b.neg) ∧ w'.cell? ⟨w.heap.size + 1, 1, none⟩ = some (.slice B m d) ∧ w'.cell? ⟨w.heap.size + 1, 2, none⟩ = some (.int .i64 b.e)) (by kernel_rfl) ?_ (fun hHeld => ?_)
  case refine_1 => exact ⟨R2a.out.cell 0, R2a.out.cell 1, R2a.out.cell 2, R2b.out.cell 0, R2b.out.cell 1, R2b.out.cell 2⟩
  refine tkZ 0 rfl (v := ?_) (.inl ⟨by rfl, ?_⟩) ?_
  case refine_2 => intro w9 hSw; (try dsimp only at hSw); go_simp; (try with_reducible rfl)
  try simp only [Act.put, qa, qb, qc, qd, qe]
  refine tkZ 2 rfl (v := ?_) (.inl ⟨by rfl, ?_⟩) ?_
  case refine_2 => intro w9 hSw; (try dsimp only at hSw); go_simp; (try with_reducible rfl)
  try simp only [Act.put, qa, qb, qc, qd, qe, qf]
  refine wpAnyH_ready (rs := [1]) (by kernel_rfl) (by simp) ?_
  refine AllReadyH.cons rfl (fun K hK => ?_) AllReadyH.nil
  go_simp
  (with_reducible refine (uSign a A n c _ R2x.out).mono ?_)
  rw [HS.out]
  rintro e w3 ⟨rfl, HC3⟩
  have R3x := Lib.hid (R2x.out.belowW HC3.out)
  have R3y := Lib.hid (R2y.out.belowW HC3.out)
  have R3a := Lib.hid (R2a.out.belowW HC3.out)
  have R3b := Lib.hid (R2b.out.belowW HC3.out)
  have HR3 := Lib.hid (HR2.out.trans (HC3.out.mono HR2.out.size))
  go_wp2_with fail
  clear hHeld
  refine hK.out _ _ ?_ (fun hHeld => ?_)
  case refine_1 => exact ⟨R3a.out.cell 0, R3a.out.cell 1, R3a.out.cell 2, R3b.out.cell 0, R3b.out.cell 1, R3b.out.cell 2⟩
  clear hK K
  try simp only [qa, qb, qc]
  refine wpAnyH_ready (rs := [3]) (by kernel_rfl) (by simp) ?_
  refine AllReadyH.cons rfl (fun K hK => ?_) AllReadyH.nil
  go_simp
  (with_reducible refine (uSign b B m d _ R3y.out).mono ?_)
  rw [HT.out]
  rintro e w4 ⟨rfl, HC4⟩
  have R4x := Lib.hid (R3x.out.belowW HC4.out)
  have R4y := Lib.hid (R3y.out.belowW HC4.out)
  have R4a := Lib.hid (R3a.out.belowW HC4.out)
  have R4b := Lib.hid (R3b.out.belowW HC4.out)
  have HR4 := Lib.hid (HR3.out.trans (HC4.out.mono HR3.out.size))
  go_wp2_with fail
  clear hHeld
  refine hK.out _ _ ?_ (fun hHeld => ?_)
  case refine_1 => exact ⟨R4a.out.cell 0, R4a.out.cell 1, R4a.out.cell 2, R4b.out.cell 0, R4b.out.cell 1, R4b.out.cell 2⟩
  clear hK K
  try simp only [qa, qb, qc]
  refine tkZ 4 rfl (v := ?_) (.inl ⟨by rfl, ?_⟩) ?_
  case refine_2 => intro w9 hSw; (try dsimp only at hSw); go_simp; (try with_reducible rfl)
  try simp only [Act.put, qa, qb, qc, qd, qe, qf]
  refine tkZ 5 rfl (v := ?_) (.inl ⟨by rfl, ?_⟩) ?_
  case refine_2 => intro w9 hSw; (try dsimp only at hSw); go_simp; (try with_reducible rfl)
  try simp only [Act.put, qa, qb, qc, qd, qe, qf]
  refine wpAnyH_done (by kernel_rfl) ?_ _
  have HL4 := Lib.hid (HB1.out.trans (HR4.out.mono HB1.out.size))
  go_wp2_with fail
  go_ret
  exact ⟨by rw [HE.out]; rfl, HL4⟩

set_option maxHeartbeats 4000000 in
set_option maxRecDepth 100000 in
theorem uCmp_top (a b : D) (A B : Option Addr) (n c m d : Nat) (w : World) (h1 : Sl w A n c (limbs a.k)) (h2 : Sl w B m d (limbs b.k)) (va : vld a) (vb : vld b) (hn : sg a = sg b) (h0 : sg a ≠ 0) (hd : topB a ≠ topB b) : Calls Tryz.prog 71 #[.agg #[.bool a.neg, .slice A n c, .int .i64 a.e], .agg #[.bool b.neg, .slice B m d, .int .i64 b.e]] w (Ret (.int .i64 (cmpD a b)) w) := by
  have H1 := Lib.hid h1
  have H2 := Lib.hid h2
  have VA := Lib.hid va
  have VB := Lib.hid vb
  obtain ⟨s, hs⟩ : ∃ s, sg a = s := ⟨_, rfl⟩
  obtain ⟨t, ht⟩ : ∃ s, sg b = s := ⟨_, rfl⟩
  have HS := Lib.hid hs
  have HT := Lib.hid ht
  have HE := Lib.hid (show cmpD a b = s * (if topB a < topB b then -1 else 1) by
    have ka := sg_k h0
    have kb := sg_k (a := b) (by rw [← hn]; exact h0)
    rw [cmpD_same hn h0, hs]
    congr 1
    rw [topB_k ka, topB_k kb] at hd ⊢
    by_cases hlt : (blen a.k : Int) + a.e < blen b.k + b.e
    · rw [if_pos hlt]; exact cmpM_lt va vb ka kb hlt
    · rw [if_neg hlt]; exact cmpM_gt va vb ka kb (by omega))
  obtain rfl : s = t := by rw [← hs, ← ht]; exact hn
  obtain ⟨ta, hta⟩ : ∃ t, topB a = t := ⟨_, rfl⟩
  obtain ⟨tb, htb⟩ : ∃ t, topB b = t := ⟨_, rfl⟩
  have HTA := Lib.hid hta
  have HTB := Lib.hid htb
  rw [hta, htb] at HE hd
  have d1 : (ta != tb) = true := by rw [bne_iff_ne]; exact hd
  have hs2 : s = 1 ∨ s = -1 := by
    rcases sg_two a with h | h | h
    · exact absurd h h0
    · exact .inl (hs.symm.trans h)
    · exact .inr (hs.symm.trans h)
  clear h1 h2 va vb hn hs ht h0 hta htb
  rcases hs2 with rfl | rfl
  · by_cases hlt : ta < tb
    case pos =>
      have d2 : decide (ta < tb) = true := decide_eq_true hlt
      have HF := Lib.hid (show cmpD a b = -1 by rw [HE.out, if_pos hlt]; rfl)
      clear hlt hd
      go_enter Tryz.func71, Tryz.ntmps71
      go_wp2_with fail
      obtain ⟨w1, hw⟩ : ∃ z9 : World, z9 = ((w.alloc (.cells #[.bool a.neg, .slice A n c, .int .i64 a.e] 40)).alloc (.cells #[.bool b.neg, .slice B m d, .int .i64 b.e] 40)) := ⟨_, rfl⟩
      have HB1 := Lib.hid (show Below w.heap.size w w1 by rw [hw]; exact below_a2 _ _ _)
      have F1x := Lib.hid (H1.out.belowW HB1.out)
      have F1y := Lib.hid (H2.out.belowW HB1.out)
      have F1a := Lib.hid (show Blk w1 (w.heap.size) 40 #[.bool a.neg, .slice A n c, .int .i64 a.e] by rw [hw]; exact (Blk.new _ _ _).alloc _)
      have F1b := Lib.hid (show Blk w1 (w.heap.size + 1) 40 #[.bool b.neg, .slice B m d, .int .i64 b.e] by rw [hw]; exact Blk.new1 _ _ _ _)
      rw [← hw]
      clear hw
      go_wp2_with fail
      have HR2 := Lib.hid (below_dr w1)
      have R2x := Lib.hid (F1x.out.belowW HR2.out)
      have R2y := Lib.hid (F1y.out.belowW HR2.out)
      have R2a := Lib.hid (F1a.out.belowW HR2.out)
      have R2b := Lib.hid (F1b.out.belowW HR2.out)
      refine wp_region_held_drew (S := fun w' => w'.cell? ⟨w.heap.size, 0, none⟩ = some (.bool a.neg) ∧ w'.cell? ⟨w.heap.size, 1, none⟩ = some (.slice A n c) ∧ w'.cell? ⟨w.heap.size, 2, none⟩ = some (.int .i64 a.e) ∧ w'.cell? ⟨w.heap.size + 1, 0, none⟩ = some (.bool b.neg) ∧ w'.cell? ⟨w.heap.size + 1, 1, none⟩ = some (.slice B m d) ∧ w'.cell? ⟨w.heap.size + 1, 2, none⟩ = some (.int .i64 b.e)) (by kernel_rfl) ?_ (fun hHeld => ?_)
      case refine_1 => exact ⟨R2a.out.cell 0, R2a.out.cell 1, R2a.out.cell 2, R2b.out.cell 0, R2b.out.cell 1, R2b.out.cell 2⟩
      refine tkZ 0 rfl (v := ?_) (.inl ⟨by rfl, ?_⟩) ?_
      case refine_2 => intro w9 hSw; (try dsimp only at hSw); go_simp; (try with_reducible rfl)
      try simp only [Act.put, qa, qb, qc, qd, qe]
      refine tkZ 2 rfl (v := ?_) (.inl ⟨by rfl, ?_⟩) ?_
      case refine_2 => intro w9 hSw; (try dsimp only at hSw); go_simp; (try with_reducible rfl)
      try simp only [Act.put, qa, qb, qc, qd, qe, qf]
      refine wpAnyH_ready (rs := [1]) (by kernel_rfl) (by simp) ?_
      refine AllReadyH.cons rfl (fun K hK => ?_) AllReadyH.nil
      go_simp
      (with_reducible refine (uSign a A n c _ R2x.out).mono ?_)
      rw [HS.out]
      rintro e w3 ⟨rfl, HC3⟩
      have R3x := Lib.hid (R2x.out.belowW HC3.out)
      have R3y := Lib.hid (R2y.out.belowW HC3.out)
      have R3a := Lib.hid (R2a.out.belowW HC3.out)
      have R3b := Lib.hid (R2b.out.belowW HC3.out)
      have HR3 := Lib.hid (HR2.out.trans (HC3.out.mono HR2.out.size))
      go_wp2_with fail
      clear hHeld
      refine hK.out _ _ ?_ (fun hHeld => ?_)
      case refine_1 => exact ⟨R3a.out.cell 0, R3a.out.cell 1, R3a.out.cell 2, R3b.out.cell 0, R3b.out.cell 1, R3b.out.cell 2⟩
      clear hK K
      try simp only [qa, qb, qc]
      refine wpAnyH_ready (rs := [3]) (by kernel_rfl) (by simp) ?_
      refine AllReadyH.cons rfl (fun K hK => ?_) AllReadyH.nil
      go_simp
      (with_reducible refine (uSign b B m d _ R3y.out).mono ?_)
      rw [HT.out]
      rintro e w4 ⟨rfl, HC4⟩
      have R4x := Lib.hid (R3x.out.belowW HC4.out)
      have R4y := Lib.hid (R3y.out.belowW HC4.out)
      have R4a := Lib.hid (R3a.out.belowW HC4.out)
      have R4b := Lib.hid (R3b.out.belowW HC4.out)
      have HR4 := Lib.hid (HR3.out.trans (HC4.out.mono HR3.out.size))
      go_wp2_with fail
      clear hHeld
      refine hK.out _ _ ?_ (fun hHeld => ?_)
      case refine_1 => exact ⟨R4a.out.cell 0, R4a.out.cell 1, R4a.out.cell 2, R4b.out.cell 0, R4b.out.cell 1, R4b.out.cell 2⟩
      clear hK K
      try simp only [qa, qb, qc]
      refine tkZ 4 rfl (v := ?_) (.inl ⟨by rfl, ?_⟩) ?_
      case refine_2 => intro w9 hSw; (try dsimp only at hSw); go_simp; (try with_reducible rfl)
      try simp only [Act.put, qa, qb, qc, qd, qe, qf]
      refine tkZ 5 rfl (v := ?_) (.inl ⟨by rfl, ?_⟩) ?_
      case refine_2 => intro w9 hSw; (try dsimp only at hSw); go_simp; (try with_reducible rfl)
      try simp only [Act.put, qa, qb, qc, qd, qe, qf]
      refine wpAnyH_done (by kernel_rfl) ?_ _
      have HL4 := Lib.hid (HB1.out.trans (HR4.out.mono HB1.out.size))
      go_wp2_with fail
      have HR5 := Lib.hid (below_dr w4)
      have R5x := Lib.hid (R4x.out.belowW HR5.out)
      have R5y := Lib.hid (R4y.out.belowW HR5.out)
      have R5a := Lib.hid (R4a.out.belowW HR5.out)
      have R5b := Lib.hid (R4b.out.belowW HR5.out)
      refine wp_region_held_drew (S := fun w' => w'.cell? ⟨w.heap.size, 0, none⟩ = some (.bool a.neg) ∧ w'.cell? ⟨w.heap.size, 1, none⟩ = some (.slice A n c) ∧ w'.cell? ⟨w.heap.size, 2, none⟩ = some (.int .i64 a.e) ∧ w'.cell? ⟨w.heap.size + 1, 0, none⟩ = some (.bool b.neg) ∧ w'.cell? ⟨w.heap.size + 1, 1, none⟩ = some (.slice B m d) ∧ w'.cell? ⟨w.heap.size + 1, 2, none⟩ = some (.int .i64 b.e)) (by kernel_rfl) ?_ (fun hHeld => ?_)
      case refine_1 => exact ⟨R5a.out.cell 0, R5a.out.cell 1, R5a.out.cell 2, R5b.out.cell 0, R5b.out.cell 1, R5b.out.cell 2⟩
      refine tkZ 0 rfl (v := ?_) (.inl ⟨by rfl, ?_⟩) ?_
      case refine_2 => intro w9 hSw; (try dsimp only at hSw); go_simp; (try with_reducible rfl)
      try simp only [Act.put, qa, qb, qc, qd, qe]
      refine tkZ 2 rfl (v := ?_) (.inl ⟨by rfl, ?_⟩) ?_
      case refine_2 => intro w9 hSw; (try dsimp only at hSw); go_simp; (try with_reducible rfl)
      try simp only [Act.put, qa, qb, qc, qd, qe, qf]
      refine wpAnyH_ready (rs := [1]) (by kernel_rfl) (by simp) ?_
      refine AllReadyH.cons rfl (fun K hK => ?_) AllReadyH.nil
      go_simp
      (with_reducible refine (uTop a A n c _ R5x.out VA.out).mono ?_)
      rw [HTA.out]
      rintro e w6 ⟨rfl, HC6⟩
      have R6x := Lib.hid (R5x.out.belowW HC6.out)
      have R6y := Lib.hid (R5y.out.belowW HC6.out)
      have R6a := Lib.hid (R5a.out.belowW HC6.out)
      have R6b := Lib.hid (R5b.out.belowW HC6.out)
      have HR6 := Lib.hid (HR5.out.trans (HC6.out.mono HR5.out.size))
      go_wp2_with fail
      clear hHeld
      refine hK.out _ _ ?_ (fun hHeld => ?_)
      case refine_1 => exact ⟨R6a.out.cell 0, R6a.out.cell 1, R6a.out.cell 2, R6b.out.cell 0, R6b.out.cell 1, R6b.out.cell 2⟩
      clear hK K
      try simp only [qa, qb, qc]
      refine wpAnyH_ready (rs := [3]) (by kernel_rfl) (by simp) ?_
      refine AllReadyH.cons rfl (fun K hK => ?_) AllReadyH.nil
      go_simp
      (with_reducible refine (uTop b B m d _ R6y.out VB.out).mono ?_)
      rw [HTB.out]
      rintro e w7 ⟨rfl, HC7⟩
      have R7x := Lib.hid (R6x.out.belowW HC7.out)
      have R7y := Lib.hid (R6y.out.belowW HC7.out)
      have R7a := Lib.hid (R6a.out.belowW HC7.out)
      have R7b := Lib.hid (R6b.out.belowW HC7.out)
      have HR7 := Lib.hid (HR6.out.trans (HC7.out.mono HR6.out.size))
      go_wp2_with fail
      clear hHeld
      refine hK.out _ _ ?_ (fun hHeld => ?_)
      case refine_1 => exact ⟨R7a.out.cell 0, R7a.out.cell 1, R7a.out.cell 2, R7b.out.cell 0, R7b.out.cell 1, R7b.out.cell 2⟩
      clear hK K
      try simp only [qa, qb, qc]
      refine tkZ 4 rfl (v := ?_) (.inl ⟨by rfl, ?_⟩) ?_
      case refine_2 => intro w9 hSw; (try dsimp only at hSw); go_simp; (try with_reducible rfl)
      try simp only [Act.put, qa, qb, qc, qd, qe, qf]
      refine wpAnyH_done (by kernel_rfl) ?_ _
      have HL7 := Lib.hid (HL4.out.trans (HR7.out.mono HL4.out.size))
      go_wp2_with fail
      have HR8 := Lib.hid (below_dr w7)
      have R8x := Lib.hid (R7x.out.belowW HR8.out)
      have R8y := Lib.hid (R7y.out.belowW HR8.out)
      have R8a := Lib.hid (R7a.out.belowW HR8.out)
      have R8b := Lib.hid (R7b.out.belowW HR8.out)
      refine wp_region_held_drew (S := fun w' => w'.cell? ⟨w.heap.size, 0, none⟩ = some (.bool a.neg) ∧ w'.cell? ⟨w.heap.size, 1, none⟩ = some (.slice A n c) ∧ w'.cell? ⟨w.heap.size, 2, none⟩ = some (.int .i64 a.e) ∧ w'.cell? ⟨w.heap.size + 1, 0, none⟩ = some (.bool b.neg) ∧ w'.cell? ⟨w.heap.size + 1, 1, none⟩ = some (.slice B m d) ∧ w'.cell? ⟨w.heap.size + 1, 2, none⟩ = some (.int .i64 b.e)) (by kernel_rfl) ?_ (fun hHeld => ?_)
      case refine_1 => exact ⟨R8a.out.cell 0, R8a.out.cell 1, R8a.out.cell 2, R8b.out.cell 0, R8b.out.cell 1, R8b.out.cell 2⟩
      refine tkZ 0 rfl (v := ?_) (.inl ⟨by rfl, ?_⟩) ?_
      case refine_2 => intro w9 hSw; (try dsimp only at hSw); go_simp; (try with_reducible rfl)
      try simp only [Act.put, qa, qb, qc, qd, qe]
      refine tkZ 2 rfl (v := ?_) (.inl ⟨by rfl, ?_⟩) ?_
      case refine_2 => intro w9 hSw; (try dsimp only at hSw); go_simp; (try with_reducible rfl)
      try simp only [Act.put, qa, qb, qc, qd, qe, qf]
      refine tkZ 5 rfl (v := ?_) (.inl ⟨by rfl, ?_⟩) ?_
      case refine_2 => intro w9 hSw; (try dsimp only at hSw); go_simp; (try with_reducible rfl)
      try simp only [Act.put, qa, qb, qc, qd, qe, qf]
      refine tkZ 6 rfl (v := ?_) (.inl ⟨by rfl, ?_⟩) ?_
      case refine_2 => intro w9 hSw; (try dsimp only at hSw); go_simp; (try with_reducible rfl)
      try simp only [Act.put, qa, qb, qc, qd, qe, qf]
      refine wpAnyH_ready (rs := [1]) (by kernel_rfl) (by simp) ?_
      refine AllReadyH.cons rfl (fun K hK => ?_) AllReadyH.nil
      go_simp
      (with_reducible refine (uTop a A n c _ R8x.out VA.out).mono ?_)
      rw [HTA.out]
      rintro e w9 ⟨rfl, HC9⟩
      have R9x := Lib.hid (R8x.out.belowW HC9.out)
      have R9y := Lib.hid (R8y.out.belowW HC9.out)
      have R9a := Lib.hid (R8a.out.belowW HC9.out)
      have R9b := Lib.hid (R8b.out.belowW HC9.out)
      have HR9 := Lib.hid (HR8.out.trans (HC9.out.mono HR8.out.size))
      go_wp2_with fail
      clear hHeld
      refine hK.out _ _ ?_ (fun hHeld => ?_)
      case refine_1 => exact ⟨R9a.out.cell 0, R9a.out.cell 1, R9a.out.cell 2, R9b.out.cell 0, R9b.out.cell 1, R9b.out.cell 2⟩
      clear hK K
      try simp only [qa, qb, qc]
      refine wpAnyH_ready (rs := [3]) (by kernel_rfl) (by simp) ?_
      refine AllReadyH.cons rfl (fun K hK => ?_) AllReadyH.nil
      go_simp
      (with_reducible refine (uTop b B m d _ R9y.out VB.out).mono ?_)
      rw [HTB.out]
      rintro e w10 ⟨rfl, HC10⟩
      have R10x := Lib.hid (R9x.out.belowW HC10.out)
      have R10y := Lib.hid (R9y.out.belowW HC10.out)
      have R10a := Lib.hid (R9a.out.belowW HC10.out)
      have R10b := Lib.hid (R9b.out.belowW HC10.out)
      have HR10 := Lib.hid (HR9.out.trans (HC10.out.mono HR9.out.size))
      go_wp2_with fail
      clear hHeld
      refine hK.out _ _ ?_ (fun hHeld => ?_)
      case refine_1 => exact ⟨R10a.out.cell 0, R10a.out.cell 1, R10a.out.cell 2, R10b.out.cell 0, R10b.out.cell 1, R10b.out.cell 2⟩
      clear hK K
      try simp only [qa, qb, qc]
      refine tkZ 4 rfl (v := ?_) (.inl ⟨by rfl, ?_⟩) ?_
      case refine_2 => intro w9 hSw; (try dsimp only at hSw); go_simp; (try with_reducible rfl)
      try simp only [Act.put, qa, qb, qc, qd, qe, qf]
      refine tkZ 7 rfl (v := ?_) (.inl ⟨by rfl, ?_⟩) ?_
      case refine_2 => intro w9 hSw; (try dsimp only at hSw); go_simp; (try with_reducible rfl)
      try simp only [Act.put, qa, qb, qc, qd, qe, qf]
      refine wpAnyH_done (by kernel_rfl) ?_ _
      have HL10 := Lib.hid (HL7.out.trans (HR10.out.mono HL7.out.size))
      go_wp2_with fail
      go_ret
      exact ⟨by rw [HF.out]; rfl, HL10⟩
    case neg =>
      have d2 : decide (ta < tb) = false := decide_eq_false hlt
      have HF := Lib.hid (show cmpD a b = 1 by rw [HE.out, if_neg hlt]; rfl)
      clear hlt hd
      go_enter Tryz.func71, Tryz.ntmps71
      go_wp2_with fail
      obtain ⟨w1, hw⟩ : ∃ z9 : World, z9 = ((w.alloc (.cells #[.bool a.neg, .slice A n c, .int .i64 a.e] 40)).alloc (.cells #[.bool b.neg, .slice B m d, .int .i64 b.e] 40)) := ⟨_, rfl⟩
      have HB1 := Lib.hid (show Below w.heap.size w w1 by rw [hw]; exact below_a2 _ _ _)
      have F1x := Lib.hid (H1.out.belowW HB1.out)
      have F1y := Lib.hid (H2.out.belowW HB1.out)
      have F1a := Lib.hid (show Blk w1 (w.heap.size) 40 #[.bool a.neg, .slice A n c, .int .i64 a.e] by rw [hw]; exact (Blk.new _ _ _).alloc _)
      have F1b := Lib.hid (show Blk w1 (w.heap.size + 1) 40 #[.bool b.neg, .slice B m d, .int .i64 b.e] by rw [hw]; exact Blk.new1 _ _ _ _)
      rw [← hw]
      clear hw
      go_wp2_with fail
      have HR2 := Lib.hid (below_dr w1)
      have R2x := Lib.hid (F1x.out.belowW HR2.out)
      have R2y := Lib.hid (F1y.out.belowW HR2.out)
      have R2a := Lib.hid (F1a.out.belowW HR2.out)
      have R2b := Lib.hid (F1b.out.belowW HR2.out)
      refine wp_region_held_drew (S := fun w' => w'.cell? ⟨w.heap.size, 0, none⟩ = some (.bool a.neg) ∧ w'.cell? ⟨w.heap.size, 1, none⟩ = some (.slice A n c) ∧ w'.cell? ⟨w.heap.size, 2, none⟩ = some (.int .i64 a.e) ∧ w'.cell? ⟨w.heap.size + 1, 0, none⟩ = some (.bool b.neg) ∧ w'.cell? ⟨w.heap.size + 1, 1, none⟩ = some (.slice B m d) ∧ w'.cell? ⟨w.heap.size + 1, 2, none⟩ = some (.int .i64 b.e)) (by kernel_rfl) ?_ (fun hHeld => ?_)
      case refine_1 => exact ⟨R2a.out.cell 0, R2a.out.cell 1, R2a.out.cell 2, R2b.out.cell 0, R2b.out.cell 1, R2b.out.cell 2⟩
      refine tkZ 0 rfl (v := ?_) (.inl ⟨by rfl, ?_⟩) ?_
      case refine_2 => intro w9 hSw; (try dsimp only at hSw); go_simp; (try with_reducible rfl)
      try simp only [Act.put, qa, qb, qc, qd, qe]
      refine tkZ 2 rfl (v := ?_) (.inl ⟨by rfl, ?_⟩) ?_
      case refine_2 => intro w9 hSw; (try dsimp only at hSw); go_simp; (try with_reducible rfl)
      try simp only [Act.put, qa, qb, qc, qd, qe, qf]
      refine wpAnyH_ready (rs := [1]) (by kernel_rfl) (by simp) ?_
      refine AllReadyH.cons rfl (fun K hK => ?_) AllReadyH.nil
      go_simp
      (with_reducible refine (uSign a A n c _ R2x.out).mono ?_)
      rw [HS.out]
      rintro e w3 ⟨rfl, HC3⟩
      have R3x := Lib.hid (R2x.out.belowW HC3.out)
      have R3y := Lib.hid (R2y.out.belowW HC3.out)
      have R3a := Lib.hid (R2a.out.belowW HC3.out)
      have R3b := Lib.hid (R2b.out.belowW HC3.out)
      have HR3 := Lib.hid (HR2.out.trans (HC3.out.mono HR2.out.size))
      go_wp2_with fail
      clear hHeld
      refine hK.out _ _ ?_ (fun hHeld => ?_)
      case refine_1 => exact ⟨R3a.out.cell 0, R3a.out.cell 1, R3a.out.cell 2, R3b.out.cell 0, R3b.out.cell 1, R3b.out.cell 2⟩
      clear hK K
      try simp only [qa, qb, qc]
      refine wpAnyH_ready (rs := [3]) (by kernel_rfl) (by simp) ?_
      refine AllReadyH.cons rfl (fun K hK => ?_) AllReadyH.nil
      go_simp
      (with_reducible refine (uSign b B m d _ R3y.out).mono ?_)
      rw [HT.out]
      rintro e w4 ⟨rfl, HC4⟩
      have R4x := Lib.hid (R3x.out.belowW HC4.out)
      have R4y := Lib.hid (R3y.out.belowW HC4.out)
      have R4a := Lib.hid (R3a.out.belowW HC4.out)
      have R4b := Lib.hid (R3b.out.belowW HC4.out)
      have HR4 := Lib.hid (HR3.out.trans (HC4.out.mono HR3.out.size))
      go_wp2_with fail
      clear hHeld
      refine hK.out _ _ ?_ (fun hHeld => ?_)
      case refine_1 => exact ⟨R4a.out.cell 0, R4a.out.cell 1, R4a.out.cell 2, R4b.out.cell 0, R4b.out.cell 1, R4b.out.cell 2⟩
      clear hK K
      try simp only [qa, qb, qc]
      refine tkZ 4 rfl (v := ?_) (.inl ⟨by rfl, ?_⟩) ?_
      case refine_2 => intro w9 hSw; (try dsimp only at hSw); go_simp; (try with_reducible rfl)
      try simp only [Act.put, qa, qb, qc, qd, qe, qf]
      refine tkZ 5 rfl (v := ?_) (.inl ⟨by rfl, ?_⟩) ?_
      case refine_2 => intro w9 hSw; (try dsimp only at hSw); go_simp; (try with_reducible rfl)
      try simp only [Act.put, qa, qb, qc, qd, qe, qf]
      refine wpAnyH_done (by kernel_rfl) ?_ _
      have HL4 := Lib.hid (HB1.out.trans (HR4.out.mono HB1.out.size))
      go_wp2_with fail
      have HR5 := Lib.hid (below_dr w4)
      have R5x := Lib.hid (R4x.out.belowW HR5.out)
      have R5y := Lib.hid (R4y.out.belowW HR5.out)
      have R5a := Lib.hid (R4a.out.belowW HR5.out)
      have R5b := Lib.hid (R4b.out.belowW HR5.out)
      refine wp_region_held_drew (S := fun w' => w'.cell? ⟨w.heap.size, 0, none⟩ = some (.bool a.neg) ∧ w'.cell? ⟨w.heap.size, 1, none⟩ = some (.slice A n c) ∧ w'.cell? ⟨w.heap.size, 2, none⟩ = some (.int .i64 a.e) ∧ w'.cell? ⟨w.heap.size + 1, 0, none⟩ = some (.bool b.neg) ∧ w'.cell? ⟨w.heap.size + 1, 1, none⟩ = some (.slice B m d) ∧ w'.cell? ⟨w.heap.size + 1, 2, none⟩ = some (.int .i64 b.e)) (by kernel_rfl) ?_ (fun hHeld => ?_)
      case refine_1 => exact ⟨R5a.out.cell 0, R5a.out.cell 1, R5a.out.cell 2, R5b.out.cell 0, R5b.out.cell 1, R5b.out.cell 2⟩
      refine tkZ 0 rfl (v := ?_) (.inl ⟨by rfl, ?_⟩) ?_
      case refine_2 => intro w9 hSw; (try dsimp only at hSw); go_simp; (try with_reducible rfl)
      try simp only [Act.put, qa, qb, qc, qd, qe]
      refine tkZ 2 rfl (v := ?_) (.inl ⟨by rfl, ?_⟩) ?_
      case refine_2 => intro w9 hSw; (try dsimp only at hSw); go_simp; (try with_reducible rfl)
      try simp only [Act.put, qa, qb, qc, qd, qe, qf]
      refine wpAnyH_ready (rs := [1]) (by kernel_rfl) (by simp) ?_
      refine AllReadyH.cons rfl (fun K hK => ?_) AllReadyH.nil
      go_simp
      (with_reducible refine (uTop a A n c _ R5x.out VA.out).mono ?_)
      rw [HTA.out]
      rintro e w6 ⟨rfl, HC6⟩
      have R6x := Lib.hid (R5x.out.belowW HC6.out)
      have R6y := Lib.hid (R5y.out.belowW HC6.out)
      have R6a := Lib.hid (R5a.out.belowW HC6.out)
      have R6b := Lib.hid (R5b.out.belowW HC6.out)
      have HR6 := Lib.hid (HR5.out.trans (HC6.out.mono HR5.out.size))
      go_wp2_with fail
      clear hHeld
      refine hK.out _ _ ?_ (fun hHeld => ?_)
      case refine_1 => exact ⟨R6a.out.cell 0, R6a.out.cell 1, R6a.out.cell 2, R6b.out.cell 0, R6b.out.cell 1, R6b.out.cell 2⟩
      clear hK K
      try simp only [qa, qb, qc]
      refine wpAnyH_ready (rs := [3]) (by kernel_rfl) (by simp) ?_
      refine AllReadyH.cons rfl (fun K hK => ?_) AllReadyH.nil
      go_simp
      (with_reducible refine (uTop b B m d _ R6y.out VB.out).mono ?_)
      rw [HTB.out]
      rintro e w7 ⟨rfl, HC7⟩
      have R7x := Lib.hid (R6x.out.belowW HC7.out)
      have R7y := Lib.hid (R6y.out.belowW HC7.out)
      have R7a := Lib.hid (R6a.out.belowW HC7.out)
      have R7b := Lib.hid (R6b.out.belowW HC7.out)
      have HR7 := Lib.hid (HR6.out.trans (HC7.out.mono HR6.out.size))
      go_wp2_with fail
      clear hHeld
      refine hK.out _ _ ?_ (fun hHeld => ?_)
      case refine_1 => exact ⟨R7a.out.cell 0, R7a.out.cell 1, R7a.out.cell 2, R7b.out.cell 0, R7b.out.cell 1, R7b.out.cell 2⟩
      clear hK K
      try simp only [qa, qb, qc]
      refine tkZ 4 rfl (v := ?_) (.inl ⟨by rfl, ?_⟩) ?_
      case refine_2 => intro w9 hSw; (try dsimp only at hSw); go_simp; (try with_reducible rfl)
      try simp only [Act.put, qa, qb, qc, qd, qe, qf]
      refine wpAnyH_done (by kernel_rfl) ?_ _
      have HL7 := Lib.hid (HL4.out.trans (HR7.out.mono HL4.out.size))
      go_wp2_with fail
      have HR8 := Lib.hid (below_dr w7)
      have R8x := Lib.hid (R7x.out.belowW HR8.out)
      have R8y := Lib.hid (R7y.out.belowW HR8.out)
      have R8a := Lib.hid (R7a.out.belowW HR8.out)
      have R8b := Lib.hid (R7b.out.belowW HR8.out)
      refine wp_region_held_drew (S := fun w' => w'.cell? ⟨w.heap.size, 0, none⟩ = some (.bool a.neg) ∧ w'.cell? ⟨w.heap.size, 1, none⟩ = some (.slice A n c) ∧ w'.cell? ⟨w.heap.size, 2, none⟩ = some (.int .i64 a.e) ∧ w'.cell? ⟨w.heap.size + 1, 0, none⟩ = some (.bool b.neg) ∧ w'.cell? ⟨w.heap.size + 1, 1, none⟩ = some (.slice B m d) ∧ w'.cell? ⟨w.heap.size + 1, 2, none⟩ = some (.int .i64 b.e)) (by kernel_rfl) ?_ (fun hHeld => ?_)
      case refine_1 => exact ⟨R8a.out.cell 0, R8a.out.cell 1, R8a.out.cell 2, R8b.out.cell 0, R8b.out.cell 1, R8b.out.cell 2⟩
      refine tkZ 0 rfl (v := ?_) (.inl ⟨by rfl, ?_⟩) ?_
      case refine_2 => intro w9 hSw; (try dsimp only at hSw); go_simp; (try with_reducible rfl)
      try simp only [Act.put, qa, qb, qc, qd, qe]
      refine tkZ 2 rfl (v := ?_) (.inl ⟨by rfl, ?_⟩) ?_
      case refine_2 => intro w9 hSw; (try dsimp only at hSw); go_simp; (try with_reducible rfl)
      try simp only [Act.put, qa, qb, qc, qd, qe, qf]
      refine tkZ 5 rfl (v := ?_) (.inl ⟨by rfl, ?_⟩) ?_
      case refine_2 => intro w9 hSw; (try dsimp only at hSw); go_simp; (try with_reducible rfl)
      try simp only [Act.put, qa, qb, qc, qd, qe, qf]
      refine tkZ 6 rfl (v := ?_) (.inl ⟨by rfl, ?_⟩) ?_
      case refine_2 => intro w9 hSw; (try dsimp only at hSw); go_simp; (try with_reducible rfl)
      try simp only [Act.put, qa, qb, qc, qd, qe, qf]
      refine wpAnyH_ready (rs := [1]) (by kernel_rfl) (by simp) ?_
      refine AllReadyH.cons rfl (fun K hK => ?_) AllReadyH.nil
      go_simp
      (with_reducible refine (uTop a A n c _ R8x.out VA.out).mono ?_)
      rw [HTA.out]
      rintro e w9 ⟨rfl, HC9⟩
      have R9x := Lib.hid (R8x.out.belowW HC9.out)
      have R9y := Lib.hid (R8y.out.belowW HC9.out)
      have R9a := Lib.hid (R8a.out.belowW HC9.out)
      have R9b := Lib.hid (R8b.out.belowW HC9.out)
      have HR9 := Lib.hid (HR8.out.trans (HC9.out.mono HR8.out.size))
      go_wp2_with fail
      clear hHeld
      refine hK.out _ _ ?_ (fun hHeld => ?_)
      case refine_1 => exact ⟨R9a.out.cell 0, R9a.out.cell 1, R9a.out.cell 2, R9b.out.cell 0, R9b.out.cell 1, R9b.out.cell 2⟩
      clear hK K
      try simp only [qa, qb, qc]
      refine wpAnyH_ready (rs := [3]) (by kernel_rfl) (by simp) ?_
      refine AllReadyH.cons rfl (fun K hK => ?_) AllReadyH.nil
      go_simp
      (with_reducible refine (uTop b B m d _ R9y.out VB.out).mono ?_)
      rw [HTB.out]
      rintro e w10 ⟨rfl, HC10⟩
      have R10x := Lib.hid (R9x.out.belowW HC10.out)
      have R10y := Lib.hid (R9y.out.belowW HC10.out)
      have R10a := Lib.hid (R9a.out.belowW HC10.out)
      have R10b := Lib.hid (R9b.out.belowW HC10.out)
      have HR10 := Lib.hid (HR9.out.trans (HC10.out.mono HR9.out.size))
      go_wp2_with fail
      clear hHeld
      refine hK.out _ _ ?_ (fun hHeld => ?_)
      case refine_1 => exact ⟨R10a.out.cell 0, R10a.out.cell 1, R10a.out.cell 2, R10b.out.cell 0, R10b.out.cell 1, R10b.out.cell 2⟩
      clear hK K
      try simp only [qa, qb, qc]
      refine tkZ 4 rfl (v := ?_) (.inl ⟨by rfl, ?_⟩) ?_
      case refine_2 => intro w9 hSw; (try dsimp only at hSw); go_simp; (try with_reducible rfl)
      try simp only [Act.put, qa, qb, qc, qd, qe, qf]
      refine tkZ 7 rfl (v := ?_) (.inl ⟨by rfl, ?_⟩) ?_
      case refine_2 => intro w9 hSw; (try dsimp only at hSw); go_simp; (try with_reducible rfl)
      try simp only [Act.put, qa, qb, qc, qd, qe, qf]
      refine wpAnyH_done (by kernel_rfl) ?_ _
      have HL10 := Lib.hid (HL7.out.trans (HR10.out.mono HL7.out.size))
      go_wp2_with fail
      go_ret
      exact ⟨by rw [HF.out]; rfl, HL10⟩
  · by_cases hlt : ta < tb
    case pos =>
      have d2 : decide (ta < tb) = true := decide_eq_true hlt
      have HF := Lib.hid (show cmpD a b = 1 by rw [HE.out, if_pos hlt]; rfl)
      clear hlt hd
      go_enter Tryz.func71, Tryz.ntmps71
      go_wp2_with fail
      obtain ⟨w1, hw⟩ : ∃ z9 : World, z9 = ((w.alloc (.cells #[.bool a.neg, .slice A n c, .int .i64 a.e] 40)).alloc (.cells #[.bool b.neg, .slice B m d, .int .i64 b.e] 40)) := ⟨_, rfl⟩
      have HB1 := Lib.hid (show Below w.heap.size w w1 by rw [hw]; exact below_a2 _ _ _)
      have F1x := Lib.hid (H1.out.belowW HB1.out)
      have F1y := Lib.hid (H2.out.belowW HB1.out)
      have F1a := Lib.hid (show Blk w1 (w.heap.size) 40 #[.bool a.neg, .slice A n c, .int .i64 a.e] by rw [hw]; exact (Blk.new _ _ _).alloc _)
      have F1b := Lib.hid (show Blk w1 (w.heap.size + 1) 40 #[.bool b.neg, .slice B m d, .int .i64 b.e] by rw [hw]; exact Blk.new1 _ _ _ _)
      rw [← hw]
      clear hw
      go_wp2_with fail
      have HR2 := Lib.hid (below_dr w1)
      have R2x := Lib.hid (F1x.out.belowW HR2.out)
      have R2y := Lib.hid (F1y.out.belowW HR2.out)
      have R2a := Lib.hid (F1a.out.belowW HR2.out)
      have R2b := Lib.hid (F1b.out.belowW HR2.out)
      refine wp_region_held_drew (S := fun w' => w'.cell? ⟨w.heap.size, 0, none⟩ = some (.bool a.neg) ∧ w'.cell? ⟨w.heap.size, 1, none⟩ = some (.slice A n c) ∧ w'.cell? ⟨w.heap.size, 2, none⟩ = some (.int .i64 a.e) ∧ w'.cell? ⟨w.heap.size + 1, 0, none⟩ = some (.bool b.neg) ∧ w'.cell? ⟨w.heap.size + 1, 1, none⟩ = some (.slice B m d) ∧ w'.cell? ⟨w.heap.size + 1, 2, none⟩ = some (.int .i64 b.e)) (by kernel_rfl) ?_ (fun hHeld => ?_)
      case refine_1 => exact ⟨R2a.out.cell 0, R2a.out.cell 1, R2a.out.cell 2, R2b.out.cell 0, R2b.out.cell 1, R2b.out.cell 2⟩
      refine tkZ 0 rfl (v := ?_) (.inl ⟨by rfl, ?_⟩) ?_
      case refine_2 => intro w9 hSw; (try dsimp only at hSw); go_simp; (try with_reducible rfl)
      try simp only [Act.put, qa, qb, qc, qd, qe]
      refine tkZ 2 rfl (v := ?_) (.inl ⟨by rfl, ?_⟩) ?_
      case refine_2 => intro w9 hSw; (try dsimp only at hSw); go_simp; (try with_reducible rfl)
      try simp only [Act.put, qa, qb, qc, qd, qe, qf]
      refine wpAnyH_ready (rs := [1]) (by kernel_rfl) (by simp) ?_
      refine AllReadyH.cons rfl (fun K hK => ?_) AllReadyH.nil
      go_simp
      (with_reducible refine (uSign a A n c _ R2x.out).mono ?_)
      rw [HS.out]
      rintro e w3 ⟨rfl, HC3⟩
      have R3x := Lib.hid (R2x.out.belowW HC3.out)
      have R3y := Lib.hid (R2y.out.belowW HC3.out)
      have R3a := Lib.hid (R2a.out.belowW HC3.out)
      have R3b := Lib.hid (R2b.out.belowW HC3.out)
      have HR3 := Lib.hid (HR2.out.trans (HC3.out.mono HR2.out.size))
      go_wp2_with fail
      clear hHeld
      refine hK.out _ _ ?_ (fun hHeld => ?_)
      case refine_1 => exact ⟨R3a.out.cell 0, R3a.out.cell 1, R3a.out.cell 2, R3b.out.cell 0, R3b.out.cell 1, R3b.out.cell 2⟩
      clear hK K
      try simp only [qa, qb, qc]
      refine wpAnyH_ready (rs := [3]) (by kernel_rfl) (by simp) ?_
      refine AllReadyH.cons rfl (fun K hK => ?_) AllReadyH.nil
      go_simp
      (with_reducible refine (uSign b B m d _ R3y.out).mono ?_)
      rw [HT.out]
      rintro e w4 ⟨rfl, HC4⟩
      have R4x := Lib.hid (R3x.out.belowW HC4.out)
      have R4y := Lib.hid (R3y.out.belowW HC4.out)
      have R4a := Lib.hid (R3a.out.belowW HC4.out)
      have R4b := Lib.hid (R3b.out.belowW HC4.out)
      have HR4 := Lib.hid (HR3.out.trans (HC4.out.mono HR3.out.size))
      go_wp2_with fail
      clear hHeld
      refine hK.out _ _ ?_ (fun hHeld => ?_)
      case refine_1 => exact ⟨R4a.out.cell 0, R4a.out.cell 1, R4a.out.cell 2, R4b.out.cell 0, R4b.out.cell 1, R4b.out.cell 2⟩
      clear hK K
      try simp only [qa, qb, qc]
      refine tkZ 4 rfl (v := ?_) (.inl ⟨by rfl, ?_⟩) ?_
      case refine_2 => intro w9 hSw; (try dsimp only at hSw); go_simp; (try with_reducible rfl)
      try simp only [Act.put, qa, qb, qc, qd, qe, qf]
      refine tkZ 5 rfl (v := ?_) (.inl ⟨by rfl, ?_⟩) ?_
      case refine_2 => intro w9 hSw; (try dsimp only at hSw); go_simp; (try with_reducible rfl)
      try simp only [Act.put, qa, qb, qc, qd, qe, qf]
      refine wpAnyH_done (by kernel_rfl) ?_ _
      have HL4 := Lib.hid (HB1.out.trans (HR4.out.mono HB1.out.size))
      go_wp2_with fail
      have HR5 := Lib.hid (below_dr w4)
      have R5x := Lib.hid (R4x.out.belowW HR5.out)
      have R5y := Lib.hid (R4y.out.belowW HR5.out)
      have R5a := Lib.hid (R4a.out.belowW HR5.out)
      have R5b := Lib.hid (R4b.out.belowW HR5.out)
      refine wp_region_held_drew (S := fun w' => w'.cell? ⟨w.heap.size, 0, none⟩ = some (.bool a.neg) ∧ w'.cell? ⟨w.heap.size, 1, none⟩ = some (.slice A n c) ∧ w'.cell? ⟨w.heap.size, 2, none⟩ = some (.int .i64 a.e) ∧ w'.cell? ⟨w.heap.size + 1, 0, none⟩ = some (.bool b.neg) ∧ w'.cell? ⟨w.heap.size + 1, 1, none⟩ = some (.slice B m d) ∧ w'.cell? ⟨w.heap.size + 1, 2, none⟩ = some (.int .i64 b.e)) (by kernel_rfl) ?_ (fun hHeld => ?_)
      case refine_1 => exact ⟨R5a.out.cell 0, R5a.out.cell 1, R5a.out.cell 2, R5b.out.cell 0, R5b.out.cell 1, R5b.out.cell 2⟩
      refine tkZ 0 rfl (v := ?_) (.inl ⟨by rfl, ?_⟩) ?_
      case refine_2 => intro w9 hSw; (try dsimp only at hSw); go_simp; (try with_reducible rfl)
      try simp only [Act.put, qa, qb, qc, qd, qe]
      refine tkZ 2 rfl (v := ?_) (.inl ⟨by rfl, ?_⟩) ?_
      case refine_2 => intro w9 hSw; (try dsimp only at hSw); go_simp; (try with_reducible rfl)
      try simp only [Act.put, qa, qb, qc, qd, qe, qf]
      refine wpAnyH_ready (rs := [1]) (by kernel_rfl) (by simp) ?_
      refine AllReadyH.cons rfl (fun K hK => ?_) AllReadyH.nil
      go_simp
      (with_reducible refine (uTop a A n c _ R5x.out VA.out).mono ?_)
      rw [HTA.out]
      rintro e w6 ⟨rfl, HC6⟩
      have R6x := Lib.hid (R5x.out.belowW HC6.out)
      have R6y := Lib.hid (R5y.out.belowW HC6.out)
      have R6a := Lib.hid (R5a.out.belowW HC6.out)
      have R6b := Lib.hid (R5b.out.belowW HC6.out)
      have HR6 := Lib.hid (HR5.out.trans (HC6.out.mono HR5.out.size))
      go_wp2_with fail
      clear hHeld
      refine hK.out _ _ ?_ (fun hHeld => ?_)
      case refine_1 => exact ⟨R6a.out.cell 0, R6a.out.cell 1, R6a.out.cell 2, R6b.out.cell 0, R6b.out.cell 1, R6b.out.cell 2⟩
      clear hK K
      try simp only [qa, qb, qc]
      refine wpAnyH_ready (rs := [3]) (by kernel_rfl) (by simp) ?_
      refine AllReadyH.cons rfl (fun K hK => ?_) AllReadyH.nil
      go_simp
      (with_reducible refine (uTop b B m d _ R6y.out VB.out).mono ?_)
      rw [HTB.out]
      rintro e w7 ⟨rfl, HC7⟩
      have R7x := Lib.hid (R6x.out.belowW HC7.out)
      have R7y := Lib.hid (R6y.out.belowW HC7.out)
      have R7a := Lib.hid (R6a.out.belowW HC7.out)
      have R7b := Lib.hid (R6b.out.belowW HC7.out)
      have HR7 := Lib.hid (HR6.out.trans (HC7.out.mono HR6.out.size))
      go_wp2_with fail
      clear hHeld
      refine hK.out _ _ ?_ (fun hHeld => ?_)
      case refine_1 => exact ⟨R7a.out.cell 0, R7a.out.cell 1, R7a.out.cell 2, R7b.out.cell 0, R7b.out.cell 1, R7b.out.cell 2⟩
      clear hK K
      try simp only [qa, qb, qc]
      refine tkZ 4 rfl (v := ?_) (.inl ⟨by rfl, ?_⟩) ?_
      case refine_2 => intro w9 hSw; (try dsimp only at hSw); go_simp; (try with_reducible rfl)
      try simp only [Act.put, qa, qb, qc, qd, qe, qf]
      refine wpAnyH_done (by kernel_rfl) ?_ _
      have HL7 := Lib.hid (HL4.out.trans (HR7.out.mono HL4.out.size))
      go_wp2_with fail
      have HR8 := Lib.hid (below_dr w7)
      have R8x := Lib.hid (R7x.out.belowW HR8.out)
      have R8y := Lib.hid (R7y.out.belowW HR8.out)
      have R8a := Lib.hid (R7a.out.belowW HR8.out)
      have R8b := Lib.hid (R7b.out.belowW HR8.out)
      refine wp_region_held_drew (S := fun w' => w'.cell? ⟨w.heap.size, 0, none⟩ = some (.bool a.neg) ∧ w'.cell? ⟨w.heap.size, 1, none⟩ = some (.slice A n c) ∧ w'.cell? ⟨w.heap.size, 2, none⟩ = some (.int .i64 a.e) ∧ w'.cell? ⟨w.heap.size + 1, 0, none⟩ = some (.bool b.neg) ∧ w'.cell? ⟨w.heap.size + 1, 1, none⟩ = some (.slice B m d) ∧ w'.cell? ⟨w.heap.size + 1, 2, none⟩ = some (.int .i64 b.e)) (by kernel_rfl) ?_ (fun hHeld => ?_)
      case refine_1 => exact ⟨R8a.out.cell 0, R8a.out.cell 1, R8a.out.cell 2, R8b.out.cell 0, R8b.out.cell 1, R8b.out.cell 2⟩
      refine tkZ 0 rfl (v := ?_) (.inl ⟨by rfl, ?_⟩) ?_
      case refine_2 => intro w9 hSw; (try dsimp only at hSw); go_simp; (try with_reducible rfl)
      try simp only [Act.put, qa, qb, qc, qd, qe]
      refine tkZ 2 rfl (v := ?_) (.inl ⟨by rfl, ?_⟩) ?_
      case refine_2 => intro w9 hSw; (try dsimp only at hSw); go_simp; (try with_reducible rfl)
      try simp only [Act.put, qa, qb, qc, qd, qe, qf]
      refine tkZ 5 rfl (v := ?_) (.inl ⟨by rfl, ?_⟩) ?_
      case refine_2 => intro w9 hSw; (try dsimp only at hSw); go_simp; (try with_reducible rfl)
      try simp only [Act.put, qa, qb, qc, qd, qe, qf]
      refine tkZ 6 rfl (v := ?_) (.inl ⟨by rfl, ?_⟩) ?_
      case refine_2 => intro w9 hSw; (try dsimp only at hSw); go_simp; (try with_reducible rfl)
      try simp only [Act.put, qa, qb, qc, qd, qe, qf]
      refine wpAnyH_ready (rs := [1]) (by kernel_rfl) (by simp) ?_
      refine AllReadyH.cons rfl (fun K hK => ?_) AllReadyH.nil
      go_simp
      (with_reducible refine (uTop a A n c _ R8x.out VA.out).mono ?_)
      rw [HTA.out]
      rintro e w9 ⟨rfl, HC9⟩
      have R9x := Lib.hid (R8x.out.belowW HC9.out)
      have R9y := Lib.hid (R8y.out.belowW HC9.out)
      have R9a := Lib.hid (R8a.out.belowW HC9.out)
      have R9b := Lib.hid (R8b.out.belowW HC9.out)
      have HR9 := Lib.hid (HR8.out.trans (HC9.out.mono HR8.out.size))
      go_wp2_with fail
      clear hHeld
      refine hK.out _ _ ?_ (fun hHeld => ?_)
      case refine_1 => exact ⟨R9a.out.cell 0, R9a.out.cell 1, R9a.out.cell 2, R9b.out.cell 0, R9b.out.cell 1, R9b.out.cell 2⟩
      clear hK K
      try simp only [qa, qb, qc]
      refine wpAnyH_ready (rs := [3]) (by kernel_rfl) (by simp) ?_
      refine AllReadyH.cons rfl (fun K hK => ?_) AllReadyH.nil
      go_simp
      (with_reducible refine (uTop b B m d _ R9y.out VB.out).mono ?_)
      rw [HTB.out]
      rintro e w10 ⟨rfl, HC10⟩
      have R10x := Lib.hid (R9x.out.belowW HC10.out)
      have R10y := Lib.hid (R9y.out.belowW HC10.out)
      have R10a := Lib.hid (R9a.out.belowW HC10.out)
      have R10b := Lib.hid (R9b.out.belowW HC10.out)
      have HR10 := Lib.hid (HR9.out.trans (HC10.out.mono HR9.out.size))
      go_wp2_with fail
      clear hHeld
      refine hK.out _ _ ?_ (fun hHeld => ?_)
      case refine_1 => exact ⟨R10a.out.cell 0, R10a.out.cell 1, R10a.out.cell 2, R10b.out.cell 0, R10b.out.cell 1, R10b.out.cell 2⟩
      clear hK K
      try simp only [qa, qb, qc]
      refine tkZ 4 rfl (v := ?_) (.inl ⟨by rfl, ?_⟩) ?_
      case refine_2 => intro w9 hSw; (try dsimp only at hSw); go_simp; (try with_reducible rfl)
      try simp only [Act.put, qa, qb, qc, qd, qe, qf]
      refine tkZ 7 rfl (v := ?_) (.inl ⟨by rfl, ?_⟩) ?_
      case refine_2 => intro w9 hSw; (try dsimp only at hSw); go_simp; (try with_reducible rfl)
      try simp only [Act.put, qa, qb, qc, qd, qe, qf]
      refine wpAnyH_done (by kernel_rfl) ?_ _
      have HL10 := Lib.hid (HL7.out.trans (HR10.out.mono HL7.out.size))
      go_wp2_with fail
      go_ret
      exact ⟨by rw [HF.out]; rfl, HL10⟩
    case neg =>
      have d2 : decide (ta < tb) = false := decide_eq_false hlt
      have HF := Lib.hid (show cmpD a b = -1 by rw [HE.out, if_neg hlt]; rfl)
      clear hlt hd
      go_enter Tryz.func71, Tryz.ntmps71
      go_wp2_with fail
      obtain ⟨w1, hw⟩ : ∃ z9 : World, z9 = ((w.alloc (.cells #[.bool a.neg, .slice A n c, .int .i64 a.e] 40)).alloc (.cells #[.bool b.neg, .slice B m d, .int .i64 b.e] 40)) := ⟨_, rfl⟩
      have HB1 := Lib.hid (show Below w.heap.size w w1 by rw [hw]; exact below_a2 _ _ _)
      have F1x := Lib.hid (H1.out.belowW HB1.out)
      have F1y := Lib.hid (H2.out.belowW HB1.out)
      have F1a := Lib.hid (show Blk w1 (w.heap.size) 40 #[.bool a.neg, .slice A n c, .int .i64 a.e] by rw [hw]; exact (Blk.new _ _ _).alloc _)
      have F1b := Lib.hid (show Blk w1 (w.heap.size + 1) 40 #[.bool b.neg, .slice B m d, .int .i64 b.e] by rw [hw]; exact Blk.new1 _ _ _ _)
      rw [← hw]
      clear hw
      go_wp2_with fail
      have HR2 := Lib.hid (below_dr w1)
      have R2x := Lib.hid (F1x.out.belowW HR2.out)
      have R2y := Lib.hid (F1y.out.belowW HR2.out)
      have R2a := Lib.hid (F1a.out.belowW HR2.out)
      have R2b := Lib.hid (F1b.out.belowW HR2.out)
      refine wp_region_held_drew (S := fun w' => w'.cell? ⟨w.heap.size, 0, none⟩ = some (.bool a.neg) ∧ w'.cell? ⟨w.heap.size, 1, none⟩ = some (.slice A n c) ∧ w'.cell? ⟨w.heap.size, 2, none⟩ = some (.int .i64 a.e) ∧ w'.cell? ⟨w.heap.size + 1, 0, none⟩ = some (.bool b.neg) ∧ w'.cell? ⟨w.heap.size + 1, 1, none⟩ = some (.slice B m d) ∧ w'.cell? ⟨w.heap.size + 1, 2, none⟩ = some (.int .i64 b.e)) (by kernel_rfl) ?_ (fun hHeld => ?_)
      case refine_1 => exact ⟨R2a.out.cell 0, R2a.out.cell 1, R2a.out.cell 2, R2b.out.cell 0, R2b.out.cell 1, R2b.out.cell 2⟩
      refine tkZ 0 rfl (v := ?_) (.inl ⟨by rfl, ?_⟩) ?_
      case refine_2 => intro w9 hSw; (try dsimp only at hSw); go_simp; (try with_reducible rfl)
      try simp only [Act.put, qa, qb, qc, qd, qe]
      refine tkZ 2 rfl (v := ?_) (.inl ⟨by rfl, ?_⟩) ?_
      case refine_2 => intro w9 hSw; (try dsimp only at hSw); go_simp; (try with_reducible rfl)
      try simp only [Act.put, qa, qb, qc, qd, qe, qf]
      refine wpAnyH_ready (rs := [1]) (by kernel_rfl) (by simp) ?_
      refine AllReadyH.cons rfl (fun K hK => ?_) AllReadyH.nil
      go_simp
      (with_reducible refine (uSign a A n c _ R2x.out).mono ?_)
      rw [HS.out]
      rintro e w3 ⟨rfl, HC3⟩
      have R3x := Lib.hid (R2x.out.belowW HC3.out)
      have R3y := Lib.hid (R2y.out.belowW HC3.out)
      have R3a := Lib.hid (R2a.out.belowW HC3.out)
      have R3b := Lib.hid (R2b.out.belowW HC3.out)
      have HR3 := Lib.hid (HR2.out.trans (HC3.out.mono HR2.out.size))
      go_wp2_with fail
      clear hHeld
      refine hK.out _ _ ?_ (fun hHeld => ?_)
      case refine_1 => exact ⟨R3a.out.cell 0, R3a.out.cell 1, R3a.out.cell 2, R3b.out.cell 0, R3b.out.cell 1, R3b.out.cell 2⟩
      clear hK K
      try simp only [qa, qb, qc]
      refine wpAnyH_ready (rs := [3]) (by kernel_rfl) (by simp) ?_
      refine AllReadyH.cons rfl (fun K hK => ?_) AllReadyH.nil
      go_simp
      (with_reducible refine (uSign b B m d _ R3y.out).mono ?_)
      rw [HT.out]
      rintro e w4 ⟨rfl, HC4⟩
      have R4x := Lib.hid (R3x.out.belowW HC4.out)
      have R4y := Lib.hid (R3y.out.belowW HC4.out)
      have R4a := Lib.hid (R3a.out.belowW HC4.out)
      have R4b := Lib.hid (R3b.out.belowW HC4.out)
      have HR4 := Lib.hid (HR3.out.trans (HC4.out.mono HR3.out.size))
      go_wp2_with fail
      clear hHeld
      refine hK.out _ _ ?_ (fun hHeld => ?_)
      case refine_1 => exact ⟨R4a.out.cell 0, R4a.out.cell 1, R4a.out.cell 2, R4b.out.cell 0, R4b.out.cell 1, R4b.out.cell 2⟩
      clear hK K
      try simp only [qa, qb, qc]
      refine tkZ 4 rfl (v := ?_) (.inl ⟨by rfl, ?_⟩) ?_
      case refine_2 => intro w9 hSw; (try dsimp only at hSw); go_simp; (try with_reducible rfl)
      try simp only [Act.put, qa, qb, qc, qd, qe, qf]
      refine tkZ 5 rfl (v := ?_) (.inl ⟨by rfl, ?_⟩) ?_
      case refine_2 => intro w9 hSw; (try dsimp only at hSw); go_simp; (try with_reducible rfl)
      try simp only [Act.put, qa, qb, qc, qd, qe, qf]
      refine wpAnyH_done (by kernel_rfl) ?_ _
      have HL4 := Lib.hid (HB1.out.trans (HR4.out.mono HB1.out.size))
      go_wp2_with fail
      have HR5 := Lib.hid (below_dr w4)
      have R5x := Lib.hid (R4x.out.belowW HR5.out)
      have R5y := Lib.hid (R4y.out.belowW HR5.out)
      have R5a := Lib.hid (R4a.out.belowW HR5.out)
      have R5b := Lib.hid (R4b.out.belowW HR5.out)
      refine wp_region_held_drew (S := fun w' => w'.cell? ⟨w.heap.size, 0, none⟩ = some (.bool a.neg) ∧ w'.cell? ⟨w.heap.size, 1, none⟩ = some (.slice A n c) ∧ w'.cell? ⟨w.heap.size, 2, none⟩ = some (.int .i64 a.e) ∧ w'.cell? ⟨w.heap.size + 1, 0, none⟩ = some (.bool b.neg) ∧ w'.cell? ⟨w.heap.size + 1, 1, none⟩ = some (.slice B m d) ∧ w'.cell? ⟨w.heap.size + 1, 2, none⟩ = some (.int .i64 b.e)) (by kernel_rfl) ?_ (fun hHeld => ?_)
      case refine_1 => exact ⟨R5a.out.cell 0, R5a.out.cell 1, R5a.out.cell 2, R5b.out.cell 0, R5b.out.cell 1, R5b.out.cell 2⟩
      refine tkZ 0 rfl (v := ?_) (.inl ⟨by rfl, ?_⟩) ?_
      case refine_2 => intro w9 hSw; (try dsimp only at hSw); go_simp; (try with_reducible rfl)
      try simp only [Act.put, qa, qb, qc, qd, qe]
      refine tkZ 2 rfl (v := ?_) (.inl ⟨by rfl, ?_⟩) ?_
      case refine_2 => intro w9 hSw; (try dsimp only at hSw); go_simp; (try with_reducible rfl)
      try simp only [Act.put, qa, qb, qc, qd, qe, qf]
      refine wpAnyH_ready (rs := [1]) (by kernel_rfl) (by simp) ?_
      refine AllReadyH.cons rfl (fun K hK => ?_) AllReadyH.nil
      go_simp
      (with_reducible refine (uTop a A n c _ R5x.out VA.out).mono ?_)
      rw [HTA.out]
      rintro e w6 ⟨rfl, HC6⟩
      have R6x := Lib.hid (R5x.out.belowW HC6.out)
      have R6y := Lib.hid (R5y.out.belowW HC6.out)
      have R6a := Lib.hid (R5a.out.belowW HC6.out)
      have R6b := Lib.hid (R5b.out.belowW HC6.out)
      have HR6 := Lib.hid (HR5.out.trans (HC6.out.mono HR5.out.size))
      go_wp2_with fail
      clear hHeld
      refine hK.out _ _ ?_ (fun hHeld => ?_)
      case refine_1 => exact ⟨R6a.out.cell 0, R6a.out.cell 1, R6a.out.cell 2, R6b.out.cell 0, R6b.out.cell 1, R6b.out.cell 2⟩
      clear hK K
      try simp only [qa, qb, qc]
      refine wpAnyH_ready (rs := [3]) (by kernel_rfl) (by simp) ?_
      refine AllReadyH.cons rfl (fun K hK => ?_) AllReadyH.nil
      go_simp
      (with_reducible refine (uTop b B m d _ R6y.out VB.out).mono ?_)
      rw [HTB.out]
      rintro e w7 ⟨rfl, HC7⟩
      have R7x := Lib.hid (R6x.out.belowW HC7.out)
      have R7y := Lib.hid (R6y.out.belowW HC7.out)
      have R7a := Lib.hid (R6a.out.belowW HC7.out)
      have R7b := Lib.hid (R6b.out.belowW HC7.out)
      have HR7 := Lib.hid (HR6.out.trans (HC7.out.mono HR6.out.size))
      go_wp2_with fail
      clear hHeld
      refine hK.out _ _ ?_ (fun hHeld => ?_)
      case refine_1 => exact ⟨R7a.out.cell 0, R7a.out.cell 1, R7a.out.cell 2, R7b.out.cell 0, R7b.out.cell 1, R7b.out.cell 2⟩
      clear hK K
      try simp only [qa, qb, qc]
      refine tkZ 4 rfl (v := ?_) (.inl ⟨by rfl, ?_⟩) ?_
      case refine_2 => intro w9 hSw; (try dsimp only at hSw); go_simp; (try with_reducible rfl)
      try simp only [Act.put, qa, qb, qc, qd, qe, qf]
      refine wpAnyH_done (by kernel_rfl) ?_ _
      have HL7 := Lib.hid (HL4.out.trans (HR7.out.mono HL4.out.size))
      go_wp2_with fail
      have HR8 := Lib.hid (below_dr w7)
      have R8x := Lib.hid (R7x.out.belowW HR8.out)
      have R8y := Lib.hid (R7y.out.belowW HR8.out)
      have R8a := Lib.hid (R7a.out.belowW HR8.out)
      have R8b := Lib.hid (R7b.out.belowW HR8.out)
      refine wp_region_held_drew (S := fun w' => w'.cell? ⟨w.heap.size, 0, none⟩ = some (.bool a.neg) ∧ w'.cell? ⟨w.heap.size, 1, none⟩ = some (.slice A n c) ∧ w'.cell? ⟨w.heap.size, 2, none⟩ = some (.int .i64 a.e) ∧ w'.cell? ⟨w.heap.size + 1, 0, none⟩ = some (.bool b.neg) ∧ w'.cell? ⟨w.heap.size + 1, 1, none⟩ = some (.slice B m d) ∧ w'.cell? ⟨w.heap.size + 1, 2, none⟩ = some (.int .i64 b.e)) (by kernel_rfl) ?_ (fun hHeld => ?_)
      case refine_1 => exact ⟨R8a.out.cell 0, R8a.out.cell 1, R8a.out.cell 2, R8b.out.cell 0, R8b.out.cell 1, R8b.out.cell 2⟩
      refine tkZ 0 rfl (v := ?_) (.inl ⟨by rfl, ?_⟩) ?_
      case refine_2 => intro w9 hSw; (try dsimp only at hSw); go_simp; (try with_reducible rfl)
      try simp only [Act.put, qa, qb, qc, qd, qe]
      refine tkZ 2 rfl (v := ?_) (.inl ⟨by rfl, ?_⟩) ?_
      case refine_2 => intro w9 hSw; (try dsimp only at hSw); go_simp; (try with_reducible rfl)
      try simp only [Act.put, qa, qb, qc, qd, qe, qf]
      refine tkZ 5 rfl (v := ?_) (.inl ⟨by rfl, ?_⟩) ?_
      case refine_2 => intro w9 hSw; (try dsimp only at hSw); go_simp; (try with_reducible rfl)
      try simp only [Act.put, qa, qb, qc, qd, qe, qf]
      refine tkZ 6 rfl (v := ?_) (.inl ⟨by rfl, ?_⟩) ?_
      case refine_2 => intro w9 hSw; (try dsimp only at hSw); go_simp; (try with_reducible rfl)
      try simp only [Act.put, qa, qb, qc, qd, qe, qf]
      refine wpAnyH_ready (rs := [1]) (by kernel_rfl) (by simp) ?_
      refine AllReadyH.cons rfl (fun K hK => ?_) AllReadyH.nil
      go_simp
      (with_reducible refine (uTop a A n c _ R8x.out VA.out).mono ?_)
      rw [HTA.out]
      rintro e w9 ⟨rfl, HC9⟩
      have R9x := Lib.hid (R8x.out.belowW HC9.out)
      have R9y := Lib.hid (R8y.out.belowW HC9.out)
      have R9a := Lib.hid (R8a.out.belowW HC9.out)
      have R9b := Lib.hid (R8b.out.belowW HC9.out)
      have HR9 := Lib.hid (HR8.out.trans (HC9.out.mono HR8.out.size))
      go_wp2_with fail
      clear hHeld
      refine hK.out _ _ ?_ (fun hHeld => ?_)
      case refine_1 => exact ⟨R9a.out.cell 0, R9a.out.cell 1, R9a.out.cell 2, R9b.out.cell 0, R9b.out.cell 1, R9b.out.cell 2⟩
      clear hK K
      try simp only [qa, qb, qc]
      refine wpAnyH_ready (rs := [3]) (by kernel_rfl) (by simp) ?_
      refine AllReadyH.cons rfl (fun K hK => ?_) AllReadyH.nil
      go_simp
      (with_reducible refine (uTop b B m d _ R9y.out VB.out).mono ?_)
      rw [HTB.out]
      rintro e w10 ⟨rfl, HC10⟩
      have R10x := Lib.hid (R9x.out.belowW HC10.out)
      have R10y := Lib.hid (R9y.out.belowW HC10.out)
      have R10a := Lib.hid (R9a.out.belowW HC10.out)
      have R10b := Lib.hid (R9b.out.belowW HC10.out)
      have HR10 := Lib.hid (HR9.out.trans (HC10.out.mono HR9.out.size))
      go_wp2_with fail
      clear hHeld
      refine hK.out _ _ ?_ (fun hHeld => ?_)
      case refine_1 => exact ⟨R10a.out.cell 0, R10a.out.cell 1, R10a.out.cell 2, R10b.out.cell 0, R10b.out.cell 1, R10b.out.cell 2⟩
      clear hK K
      try simp only [qa, qb, qc]
      refine tkZ 4 rfl (v := ?_) (.inl ⟨by rfl, ?_⟩) ?_
      case refine_2 => intro w9 hSw; (try dsimp only at hSw); go_simp; (try with_reducible rfl)
      try simp only [Act.put, qa, qb, qc, qd, qe, qf]
      refine tkZ 7 rfl (v := ?_) (.inl ⟨by rfl, ?_⟩) ?_
      case refine_2 => intro w9 hSw; (try dsimp only at hSw); go_simp; (try with_reducible rfl)
      try simp only [Act.put, qa, qb, qc, qd, qe, qf]
      refine wpAnyH_done (by kernel_rfl) ?_ _
      have HL10 := Lib.hid (HL7.out.trans (HR10.out.mono HL7.out.size))
      go_wp2_with fail
      go_ret
      exact ⟨by rw [HF.out]; rfl, HL10⟩

set_option maxHeartbeats 4000000 in
set_option maxRecDepth 100000 in
theorem uCmp_same (a b : D) (A B : Option Addr) (n c m d : Nat) (w : World) (h1 : Sl w A n c (limbs a.k)) (h2 : Sl w B m d (limbs b.k)) (va : vld a) (vb : vld b) (hn : sg a = sg b) (h0 : sg a ≠ 0) (hd : topB a = topB b) : Calls Tryz.prog 71 #[.agg #[.bool a.neg, .slice A n c, .int .i64 a.e], .agg #[.bool b.neg, .slice B m d, .int .i64 b.e]] w (Ret (.int .i64 (cmpD a b)) w) := by
  have H1 := Lib.hid h1
  have H2 := Lib.hid h2
  have VA := Lib.hid va
  have VB := Lib.hid vb
  obtain ⟨s, hs⟩ : ∃ s, sg a = s := ⟨_, rfl⟩
  obtain ⟨t, ht⟩ : ∃ s, sg b = s := ⟨_, rfl⟩
  have HS := Lib.hid hs
  have HT := Lib.hid ht
  obtain rfl : s = t := by rw [← hs, ← ht]; exact hn
  have ka := sg_k h0
  have kb := sg_k (a := b) (by rw [← hn]; exact h0)
  obtain ⟨bb, hbb⟩ : ∃ x : D, x = ⟨!b.neg, b.k, b.e⟩ := ⟨_, rfl⟩
  have hbn : bb.neg = !a.neg := by rw [hbb, ← sg_neg hn h0]
  have HBN := Lib.hid hbn
  have HBB := Lib.hid hbb
  have HKA := Lib.hid ka
  have HKB := Lib.hid kb
  have HKC := Lib.hid (show bb.k ≠ 0 by rw [hbb]; exact kb)
  have H3 := Lib.hid (show Sl w B m d (limbs bb.k) by rw [hbb]; exact h2)
  have VA2 := Lib.hid (show blen a.k ≤ 4096 ∧ -16384 ≤ a.e ∧ a.e ≤ 16384 from ⟨vld_bits va, (vld_ebd va).1, (vld_ebd va).2⟩)
  have VB2 := Lib.hid (show blen bb.k ≤ 4096 ∧ -16384 ≤ bb.e ∧ bb.e ≤ 16384 by rw [hbb]; show blen b.k ≤ 4096 ∧ -16384 ≤ b.e ∧ b.e ≤ 16384; exact ⟨vld_bits vb, (vld_ebd vb).1, (vld_ebd vb).2⟩)
  obtain ⟨ss, hss⟩ : ∃ x, sumO a bb = x := ⟨_, rfl⟩
  have HSS := Lib.hid hss
  obtain ⟨cz, hcz⟩ : ∃ z, cmpD a b = z := ⟨_, rfl⟩
  rw [hcz]
  have HFIN := Lib.hid (show sg ss = cz by
    rw [← hss, ← hcz, sg_sum ka hbn, cmpD_same hn h0]
    congr 1
    unfold suX suY cmpM
    rw [hbb])
  obtain ⟨ta, hta⟩ : ∃ t, topB a = t := ⟨_, rfl⟩
  have HTA := Lib.hid hta
  have HTB := Lib.hid (show topB b = ta by rw [← hd, hta])
  have d0 : (s == 0) = false := by rw [beq_eq_false_iff_ne, ← hs]; exact h0
  clear h1 h2 va vb hn hs ht h0 hta hd hbn hbb ka kb hss hcz
  go_enter Tryz.func71, Tryz.ntmps71
  go_wp2_with fail
  obtain ⟨w1, hw⟩ : ∃ z9 : World, z9 = ((w.alloc (.cells #[.bool a.neg, .slice A n c, .int .i64 a.e] 40)).alloc (.cells #[.bool b.neg, .slice B m d, .int .i64 b.e] 40)) := ⟨_, rfl⟩
  have HB1 := Lib.hid (show Below w.heap.size w w1 by rw [hw]; exact below_a2 _ _ _)
  have F1x := Lib.hid (H1.out.belowW HB1.out)
  have F1y := Lib.hid (H2.out.belowW HB1.out)
  have F1z := Lib.hid (H3.out.belowW HB1.out)
  have F1a := Lib.hid (show Blk w1 (w.heap.size) 40 #[.bool a.neg, .slice A n c, .int .i64 a.e] by rw [hw]; exact (Blk.new _ _ _).alloc _)
  have F1b := Lib.hid (show Blk w1 (w.heap.size + 1) 40 #[.bool b.neg, .slice B m d, .int .i64 b.e] by rw [hw]; exact Blk.new1 _ _ _ _)
  rw [← hw]
  clear hw
  go_wp2_with fail
  have HR2 := Lib.hid (below_dr w1)
  have R2x := Lib.hid (F1x.out.belowW HR2.out)
  have R2y := Lib.hid (F1y.out.belowW HR2.out)
  have R2z := Lib.hid (F1z.out.belowW HR2.out)
  have R2a := Lib.hid (F1a.out.belowW HR2.out)
  have R2b := Lib.hid (F1b.out.belowW HR2.out)
  refine wp_region_held_drew (S := fun w' => w'.cell? ⟨w.heap.size, 0, none⟩ = some (.bool a.neg) ∧ w'.cell? ⟨w.heap.size, 1, none⟩ = some (.slice A n c) ∧ w'.cell? ⟨w.heap.size, 2, none⟩ = some (.int .i64 a.e) ∧ w'.cell? ⟨w.heap.size + 1, 0, none⟩ = some (.bool b.neg) ∧ w'.cell? ⟨w.heap.size + 1, 1, none⟩ = some (.slice B m d) ∧ w'.cell? ⟨w.heap.size + 1, 2, none⟩ = some (.int .i64 b.e)) (by kernel_rfl) ?_ (fun hHeld => ?_)
  case refine_1 => exact ⟨R2a.out.cell 0, R2a.out.cell 1, R2a.out.cell 2, R2b.out.cell 0, R2b.out.cell 1, R2b.out.cell 2⟩
  refine tkZ 0 rfl (v := ?_) (.inl ⟨by rfl, ?_⟩) ?_
  case refine_2 => intro w9 hSw; (try dsimp only at hSw); go_simp; (try with_reducible rfl)
  try simp only [Act.put, qa, qb, qc, qd, qe]
  refine tkZ 2 rfl (v := ?_) (.inl ⟨by rfl, ?_⟩) ?_
  case refine_2 => intro w9 hSw; (try dsimp only at hSw); go_simp; (try with_reducible rfl)
  try simp only [Act.put, qa, qb, qc, qd, qe, qf]
  refine wpAnyH_ready (rs := [1]) (by kernel_rfl) (by simp) ?_
  refine AllReadyH.cons rfl (fun K hK => ?_) AllReadyH.nil
  go_simp
  (with_reducible refine (uSign a A n c _ R2x.out).mono ?_)
  rw [HS.out]
  rintro e w3 ⟨rfl, HC3⟩
  have R3x := Lib.hid (R2x.out.belowW HC3.out)
  have R3y := Lib.hid (R2y.out.belowW HC3.out)
  have R3z := Lib.hid (R2z.out.belowW HC3.out)
  have R3a := Lib.hid (R2a.out.belowW HC3.out)
  have R3b := Lib.hid (R2b.out.belowW HC3.out)
  have HR3 := Lib.hid (HR2.out.trans (HC3.out.mono HR2.out.size))
  go_wp2_with fail
  clear hHeld
  refine hK.out _ _ ?_ (fun hHeld => ?_)
  case refine_1 => exact ⟨R3a.out.cell 0, R3a.out.cell 1, R3a.out.cell 2, R3b.out.cell 0, R3b.out.cell 1, R3b.out.cell 2⟩
  clear hK K
  try simp only [qa, qb, qc]
  refine wpAnyH_ready (rs := [3]) (by kernel_rfl) (by simp) ?_
  refine AllReadyH.cons rfl (fun K hK => ?_) AllReadyH.nil
  go_simp
  (with_reducible refine (uSign b B m d _ R3y.out).mono ?_)
  rw [HT.out]
  rintro e w4 ⟨rfl, HC4⟩
  have R4x := Lib.hid (R3x.out.belowW HC4.out)
  have R4y := Lib.hid (R3y.out.belowW HC4.out)
  have R4z := Lib.hid (R3z.out.belowW HC4.out)
  have R4a := Lib.hid (R3a.out.belowW HC4.out)
  have R4b := Lib.hid (R3b.out.belowW HC4.out)
  have HR4 := Lib.hid (HR3.out.trans (HC4.out.mono HR3.out.size))
  go_wp2_with fail
  clear hHeld
  refine hK.out _ _ ?_ (fun hHeld => ?_)
  case refine_1 => exact ⟨R4a.out.cell 0, R4a.out.cell 1, R4a.out.cell 2, R4b.out.cell 0, R4b.out.cell 1, R4b.out.cell 2⟩
  clear hK K
  try simp only [qa, qb, qc]
  refine tkZ 4 rfl (v := ?_) (.inl ⟨by rfl, ?_⟩) ?_
  case refine_2 => intro w9 hSw; (try dsimp only at hSw); go_simp; (try with_reducible rfl)
  try simp only [Act.put, qa, qb, qc, qd, qe, qf]
  refine tkZ 5 rfl (v := ?_) (.inl ⟨by rfl, ?_⟩) ?_
  case refine_2 => intro w9 hSw; (try dsimp only at hSw); go_simp; (try with_reducible rfl)
  try simp only [Act.put, qa, qb, qc, qd, qe, qf]
  refine wpAnyH_done (by kernel_rfl) ?_ _
  have HL4 := Lib.hid (HB1.out.trans (HR4.out.mono HB1.out.size))
  go_wp2_with fail
  have HR5 := Lib.hid (below_dr w4)
  have R5x := Lib.hid (R4x.out.belowW HR5.out)
  have R5y := Lib.hid (R4y.out.belowW HR5.out)
  have R5z := Lib.hid (R4z.out.belowW HR5.out)
  have R5a := Lib.hid (R4a.out.belowW HR5.out)
  have R5b := Lib.hid (R4b.out.belowW HR5.out)
  refine wp_region_held_drew (S := fun w' => w'.cell? ⟨w.heap.size, 0, none⟩ = some (.bool a.neg) ∧ w'.cell? ⟨w.heap.size, 1, none⟩ = some (.slice A n c) ∧ w'.cell? ⟨w.heap.size, 2, none⟩ = some (.int .i64 a.e) ∧ w'.cell? ⟨w.heap.size + 1, 0, none⟩ = some (.bool b.neg) ∧ w'.cell? ⟨w.heap.size + 1, 1, none⟩ = some (.slice B m d) ∧ w'.cell? ⟨w.heap.size + 1, 2, none⟩ = some (.int .i64 b.e)) (by kernel_rfl) ?_ (fun hHeld => ?_)
  case refine_1 => exact ⟨R5a.out.cell 0, R5a.out.cell 1, R5a.out.cell 2, R5b.out.cell 0, R5b.out.cell 1, R5b.out.cell 2⟩
  refine tkZ 0 rfl (v := ?_) (.inl ⟨by rfl, ?_⟩) ?_
  case refine_2 => intro w9 hSw; (try dsimp only at hSw); go_simp; (try with_reducible rfl)
  try simp only [Act.put, qa, qb, qc, qd, qe]
  refine tkZ 2 rfl (v := ?_) (.inl ⟨by rfl, ?_⟩) ?_
  case refine_2 => intro w9 hSw; (try dsimp only at hSw); go_simp; (try with_reducible rfl)
  try simp only [Act.put, qa, qb, qc, qd, qe, qf]
  refine wpAnyH_ready (rs := [1]) (by kernel_rfl) (by simp) ?_
  refine AllReadyH.cons rfl (fun K hK => ?_) AllReadyH.nil
  go_simp
  (with_reducible refine (uTop a A n c _ R5x.out VA.out).mono ?_)
  rw [HTA.out]
  rintro e w6 ⟨rfl, HC6⟩
  have R6x := Lib.hid (R5x.out.belowW HC6.out)
  have R6y := Lib.hid (R5y.out.belowW HC6.out)
  have R6z := Lib.hid (R5z.out.belowW HC6.out)
  have R6a := Lib.hid (R5a.out.belowW HC6.out)
  have R6b := Lib.hid (R5b.out.belowW HC6.out)
  have HR6 := Lib.hid (HR5.out.trans (HC6.out.mono HR5.out.size))
  go_wp2_with fail
  clear hHeld
  refine hK.out _ _ ?_ (fun hHeld => ?_)
  case refine_1 => exact ⟨R6a.out.cell 0, R6a.out.cell 1, R6a.out.cell 2, R6b.out.cell 0, R6b.out.cell 1, R6b.out.cell 2⟩
  clear hK K
  try simp only [qa, qb, qc]
  refine wpAnyH_ready (rs := [3]) (by kernel_rfl) (by simp) ?_
  refine AllReadyH.cons rfl (fun K hK => ?_) AllReadyH.nil
  go_simp
  (with_reducible refine (uTop b B m d _ R6y.out VB.out).mono ?_)
  rw [HTB.out]
  rintro e w7 ⟨rfl, HC7⟩
  have R7x := Lib.hid (R6x.out.belowW HC7.out)
  have R7y := Lib.hid (R6y.out.belowW HC7.out)
  have R7z := Lib.hid (R6z.out.belowW HC7.out)
  have R7a := Lib.hid (R6a.out.belowW HC7.out)
  have R7b := Lib.hid (R6b.out.belowW HC7.out)
  have HR7 := Lib.hid (HR6.out.trans (HC7.out.mono HR6.out.size))
  go_wp2_with fail
  clear hHeld
  refine hK.out _ _ ?_ (fun hHeld => ?_)
  case refine_1 => exact ⟨R7a.out.cell 0, R7a.out.cell 1, R7a.out.cell 2, R7b.out.cell 0, R7b.out.cell 1, R7b.out.cell 2⟩
  clear hK K
  try simp only [qa, qb, qc]
  refine tkZ 4 rfl (v := ?_) (.inl ⟨by rfl, ?_⟩) ?_
  case refine_2 => intro w9 hSw; (try dsimp only at hSw); go_simp; (try with_reducible rfl)
  try simp only [Act.put, qa, qb, qc, qd, qe, qf]
  refine wpAnyH_done (by kernel_rfl) ?_ _
  have HL7 := Lib.hid (HL4.out.trans (HR7.out.mono HL4.out.size))
  go_wp2_with fail
  have HR8 := Lib.hid (below_dr w7)
  have R8x := Lib.hid (R7x.out.belowW HR8.out)
  have R8y := Lib.hid (R7y.out.belowW HR8.out)
  have R8z := Lib.hid (R7z.out.belowW HR8.out)
  have R8a := Lib.hid (R7a.out.belowW HR8.out)
  have R8b := Lib.hid (R7b.out.belowW HR8.out)
  refine wp_region_held_drew (S := fun w' => w'.cell? ⟨w.heap.size, 0, none⟩ = some (.bool a.neg) ∧ w'.cell? ⟨w.heap.size, 1, none⟩ = some (.slice A n c) ∧ w'.cell? ⟨w.heap.size, 2, none⟩ = some (.int .i64 a.e) ∧ w'.cell? ⟨w.heap.size + 1, 0, none⟩ = some (.bool b.neg) ∧ w'.cell? ⟨w.heap.size + 1, 1, none⟩ = some (.slice B m d) ∧ w'.cell? ⟨w.heap.size + 1, 2, none⟩ = some (.int .i64 b.e)) (by kernel_rfl) ?_ (fun hHeld => ?_)
  case refine_1 => exact ⟨R8a.out.cell 0, R8a.out.cell 1, R8a.out.cell 2, R8b.out.cell 0, R8b.out.cell 1, R8b.out.cell 2⟩
  refine tkZ 0 rfl (v := ?_) (.inl ⟨by rfl, ?_⟩) ?_
  case refine_2 => intro w9 hSw; (try dsimp only at hSw); go_simp; (try with_reducible rfl)
  try simp only [Act.put, qa, qb, qc, qd, qe]
  refine tkZ 1 rfl (v := ?_) (.inl ⟨by rfl, ?_⟩) ?_
  case refine_2 => intro w9 hSw; (try dsimp only at hSw); go_simp; (try with_reducible rfl)
  try simp only [Act.put, qa, qb, qc, qd, qe, qf]
  refine wpAnyH_ready (rs := [2]) (by kernel_rfl) (by simp) ?_
  refine AllReadyH.cons rfl (fun K hK => ?_) AllReadyH.nil
  go_simp
  (with_reducible refine (uNegD b bb B m d _ R8y.out HKB.out HBB.out).mono ?_)
  rintro e w9 ⟨rfl, HC9⟩
  have R9x := Lib.hid (R8x.out.belowW HC9.out)
  have R9y := Lib.hid (R8y.out.belowW HC9.out)
  have R9z := Lib.hid (R8z.out.belowW HC9.out)
  have R9a := Lib.hid (R8a.out.belowW HC9.out)
  have R9b := Lib.hid (R8b.out.belowW HC9.out)
  have HR9 := Lib.hid (HR8.out.trans (HC9.out.mono HR8.out.size))
  go_wp2_with fail
  clear hHeld
  refine hK.out _ _ ?_ (fun hHeld => ?_)
  case refine_1 => exact ⟨R9a.out.cell 0, R9a.out.cell 1, R9a.out.cell 2, R9b.out.cell 0, R9b.out.cell 1, R9b.out.cell 2⟩
  clear hK K
  try simp only [qa, qb, qc]
  refine wpAnyH_ready (rs := [3]) (by kernel_rfl) (by simp) ?_
  refine AllReadyH.cons rfl (fun K hK => ?_) AllReadyH.nil
  go_simp
  (with_reducible refine (uSum a bb A B n c m d _ R9x.out R9z.out VA2.out VB2.out HKA.out HKC.out HBN.out).mono ?_)
  rw [HSS.out]
  rintro e w10 ⟨U, u, uc, rfl, HU, HC10⟩
  have R10x := Lib.hid (R9x.out.belowW HC10.out)
  have R10y := Lib.hid (R9y.out.belowW HC10.out)
  have R10z := Lib.hid (R9z.out.belowW HC10.out)
  have R10a := Lib.hid (R9a.out.belowW HC10.out)
  have R10b := Lib.hid (R9b.out.belowW HC10.out)
  have HR10 := Lib.hid (HR9.out.trans (HC10.out.mono HR9.out.size))
  have R10u := Lib.hid (HU.out)
  go_wp2_with fail
  clear hHeld
  refine hK.out _ _ ?_ (fun hHeld => ?_)
  case refine_1 => exact ⟨R10a.out.cell 0, R10a.out.cell 1, R10a.out.cell 2, R10b.out.cell 0, R10b.out.cell 1, R10b.out.cell 2⟩
  clear hK K
  try simp only [qa, qb, qc]
  refine wpAnyH_ready (rs := [4]) (by kernel_rfl) (by simp) ?_
  refine AllReadyH.cons rfl (fun K hK => ?_) AllReadyH.nil
  go_simp
  (with_reducible refine (uSign ss U u uc _ R10u.out).mono ?_)
  rw [HFIN.out]
  rintro e w11 ⟨rfl, HC11⟩
  have R11x := Lib.hid (R10x.out.belowW HC11.out)
  have R11y := Lib.hid (R10y.out.belowW HC11.out)
  have R11z := Lib.hid (R10z.out.belowW HC11.out)
  have R11a := Lib.hid (R10a.out.belowW HC11.out)
  have R11b := Lib.hid (R10b.out.belowW HC11.out)
  have R11u := Lib.hid (R10u.out.belowW HC11.out)
  have HR11 := Lib.hid (HR10.out.trans (HC11.out.mono HR10.out.size))
  go_wp2_with fail
  clear hHeld
  refine hK.out _ _ ?_ (fun hHeld => ?_)
  case refine_1 => exact ⟨R11a.out.cell 0, R11a.out.cell 1, R11a.out.cell 2, R11b.out.cell 0, R11b.out.cell 1, R11b.out.cell 2⟩
  clear hK K
  try simp only [qa, qb, qc]
  refine tkZ 5 rfl (v := ?_) (.inl ⟨by rfl, ?_⟩) ?_
  case refine_2 => intro w9 hSw; (try dsimp only at hSw); go_simp; (try with_reducible rfl)
  try simp only [Act.put, qa, qb, qc, qd, qe, qf]
  refine wpAnyH_done (by kernel_rfl) ?_ _
  have HL11 := Lib.hid (HL7.out.trans (HR11.out.mono HL7.out.size))
  go_wp2_with fail
  go_ret
  exact ⟨rfl, HL11⟩
theorem uCmp (a b : D) (A B : Option Addr) (n c m d : Nat) (w : World) (h1 : Sl w A n c (limbs a.k)) (h2 : Sl w B m d (limbs b.k)) (va : vld a) (vb : vld b) : Calls Tryz.prog 71 #[.agg #[.bool a.neg, .slice A n c, .int .i64 a.e], .agg #[.bool b.neg, .slice B m d, .int .i64 b.e]] w (Ret (.int .i64 (cmpD a b)) w) := by
  by_cases hn : sg a = sg b
  · by_cases h0 : sg a = 0
    · exact uCmp_zero a b A B n c m d w h1 h2 va vb hn h0
    · by_cases hd : topB a = topB b
      · exact uCmp_same a b A B n c m d w h1 h2 va vb hn h0 hd
      · exact uCmp_top a b A B n c m d w h1 h2 va vb hn h0 hd
  · exact uCmp_sign a b A B n c m d w h1 h2 va vb hn
end Go.Proofs.YtoogeihbhhcpaaaGreatDoor
