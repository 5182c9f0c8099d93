/-
  The walk of the law DecimalDigits.
-/
import Derived.Test.YtffdkakogeofmaaGreatDoorDecK
import Derived.Test.YtffdkakogeofmaaGreatDoorDecV
import Derived.Test.YtffdkakogeofmaaGreatDoorDeB
set_option linter.unusedVariables false
namespace Go.Proofs.YtffdkakogeofmaaGreatDoor
open Go.RowKit Go.Fl Go.Fl.Nm Go.Fl.Dy

set_option maxHeartbeats 1000000 in
theorem digits_every (na : Bool) (A : Option Addr) (n c : Nat) (ea : Int) (na' : Bool) (A' : Option Addr) (n' c' : Nat) (ea' : Int) (w : World) :
    Calls Tryz.prog 14 #[.agg #[.bool na, .slice A n c, .int .i64 ea, .bool na', .slice A' n' c', .int .i64 ea', .bool true]] w (Ret (.int .i64 (-1)) w) := by
  go_enter Tryz.func14, Tryz.ntmps14
  go_wp2_with fail
  obtain ⟨w1, hw⟩ : ∃ z9 : World, z9 = (w.alloc (.cells #[.bool na, .slice A n c, .int .i64 ea, .bool na', .slice A' n' c', .int .i64 ea', .bool true] 27)) := ⟨_, rfl⟩
  have HB1 := Lib.hid (show Below w.heap.size w w1 by rw [hw]; exact below_a1 _ _)
  have F1x := Lib.hid (show Blk w1 (w.heap.size) 27 #[.bool na, .slice A n c, .int .i64 ea, .bool na', .slice A' n' c', .int .i64 ea', .bool true] by rw [hw]; exact Blk.new _ _ _)
  rw [← hw]
  clear hw
  obtain ⟨px0, fx0, px1, fx1, px2, fx2, px3, fx3, px4, fx4, px5, fx5, px6, fx6⟩ := F1x.out.all7
  go_wp2_with fail
  go_ret
  exact ⟨rfl, HB1⟩

set_option maxHeartbeats 1000000 in
theorem digits_none (na : Bool) (A : Option Addr) (n c : Nat) (ea : Int) (l : List Nat) (na' : Bool) (A' : Option Addr) (n' c' : Nat) (ea' : Int) (l' : List Nat) (w : World) (h : Sl w A n c l) (h' : Sl w A' n' c' l') (hv : vldIB na l ea na' l' ea' false = false) :
    Calls Tryz.prog 14 #[.agg #[.bool na, .slice A n c, .int .i64 ea, .bool na', .slice A' n' c', .int .i64 ea', .bool false]] w (Ret (.int .i64 (-1)) w) := by
  have H1 := Lib.hid h
  have H2 := Lib.hid h'
  have HV := Lib.hid hv
  clear h h' hv
  go_enter Tryz.func14, Tryz.ntmps14
  go_wp2_with fail
  obtain ⟨w1, hw⟩ : ∃ z9 : World, z9 = (w.alloc (.cells #[.bool na, .slice A n c, .int .i64 ea, .bool na', .slice A' n' c', .int .i64 ea', .bool false] 27)) := ⟨_, rfl⟩
  have HB1 := Lib.hid (show Below w.heap.size w w1 by rw [hw]; exact below_a1 _ _)
  have F1a := Lib.hid (H1.out.belowW HB1.out)
  have F1b := Lib.hid (H2.out.belowW HB1.out)
  have F1x := Lib.hid (show Blk w1 (w.heap.size) 27 #[.bool na, .slice A n c, .int .i64 ea, .bool na', .slice A' n' c', .int .i64 ea', .bool false] by rw [hw]; exact Blk.new _ _ _)
  rw [← hw]
  clear hw
  obtain ⟨px0, fx0, px1, fx1, px2, fx2, px3, fx3, px4, fx4, px5, fx5, px6, fx6⟩ := F1x.out.all7
  go_wp2_with fail
  refine (ivalid_any na A n c ea l na' A' n' c' ea' l' false w1 F1a.out F1b.out).mono ?_
  rw [HV.out]
  rintro e w2 ⟨rfl, HB2⟩
  have F2a := Lib.hid (F1a.out.belowW HB2.out)
  have F2b := Lib.hid (F1b.out.belowW HB2.out)
  have F2x := Lib.hid (F1x.out.belowW HB2.out)
  have HL2 := Lib.hid (HB1.out.trans (HB2.out.mono HB1.out.size))
  go_wp2_with fail
  go_ret
  exact ⟨rfl, HL2⟩

set_option maxHeartbeats 2000000 in
set_option maxRecDepth 100000 in
theorem digl_great (na : Bool) (A : Option Addr) (n c : Nat) (ea : Int) (l : List Nat) (na' : Bool) (A' : Option Addr) (n' c' : Nat) (ea' : Int) (l' : List Nat) (sa : Bool) (w : World) (hT : RB w) (hM : MXL w) (h : Sl w A n c l) (h' : Sl w A' n' c' l') (hg : (decide (40 < n) || decide (40 < n')) = true) : Calls Tryz.prog 4 #[.agg #[.bool na, .slice A n c, .int .i64 ea, .bool na', .slice A' n' c', .int .i64 ea', .bool sa]] w (Awk w) := by
  have H1 := Lib.hid h
  have H2 := Lib.hid h'
  have HT := Lib.hid hT
  have HM := Lib.hid hM
  have hn := h.max
  have hn' := h'.max
  have HG := Lib.hid hg
  clear h h' hT hM hg
  go_enter Tryz.func4, Tryz.ntmps4
  go_wp2_with fail
  obtain ⟨w1, hw⟩ : ∃ z9 : World, z9 = (w.alloc (.cells #[.bool na, .slice A n c, .int .i64 ea, .bool na', .slice A' n' c', .int .i64 ea', .bool sa] 27)) := ⟨_, rfl⟩
  have HB1 := Lib.hid (show Below w.heap.size w w1 by rw [hw]; exact below_a1 _ _)
  have F1a := Lib.hid (H1.out.belowW HB1.out)
  have F1b := Lib.hid (H2.out.belowW HB1.out)
  have F1t := Lib.hid (HT.out.belowW HB1.out)
  have F1m := Lib.hid (HM.out.belowW HB1.out)
  have F1x := Lib.hid (show Blk w1 (w.heap.size) 27 #[.bool na, .slice A n c, .int .i64 ea, .bool na', .slice A' n' c', .int .i64 ea', .bool sa] by rw [hw]; exact Blk.new _ _ _)
  rw [← hw]
  clear hw
  refine (dAwake_any w1 F1t.out F1m.out).mono ?_
  rintro e w2 ⟨rfl, HB2⟩
  have F2a := Lib.hid (F1a.out.belowW HB2.out)
  have F2b := Lib.hid (F1b.out.belowW HB2.out)
  have F2t := Lib.hid (F1t.out.belowW HB2.out)
  have F2m := Lib.hid (F1m.out.belowW HB2.out)
  have F2x := Lib.hid (F1x.out.belowW HB2.out)
  have HL2 := Lib.hid (HB1.out.trans (HB2.out.mono HB1.out.size))
  go_wp2_with fail
  have HR3 := Lib.hid (below_dr w2)
  have R3a := Lib.hid (F2a.out.belowW HR3.out)
  have R3b := Lib.hid (F2b.out.belowW HR3.out)
  have R3t := Lib.hid (F2t.out.belowW HR3.out)
  have R3m := Lib.hid (F2m.out.belowW HR3.out)
  have R3x := Lib.hid (F2x.out.belowW HR3.out)
  refine wp_region_held_drew (S := fun w' => w'.cell? ⟨w.heap.size, 0, none⟩ = some (.bool na) ∧ w'.cell? ⟨w.heap.size, 1, none⟩ = some (.slice A n c) ∧ w'.cell? ⟨w.heap.size, 2, none⟩ = some (.int .i64 ea) ∧ w'.cell? ⟨w.heap.size, 3, none⟩ = some (.bool na') ∧ w'.cell? ⟨w.heap.size, 4, none⟩ = some (.slice A' n' c') ∧ w'.cell? ⟨w.heap.size, 5, none⟩ = some (.int .i64 ea') ∧ w'.cell? ⟨w.heap.size, 6, none⟩ = some (.bool sa)) (by kernel_rfl) ?_ (fun hHeld => ?_)
  case refine_1 => exact ⟨R3x.out.cell 0, R3x.out.cell 1, R3x.out.cell 2, R3x.out.cell 3, R3x.out.cell 4, R3x.out.cell 5, R3x.out.cell 6⟩
  refine wpAnyH_take (i := 0) (oi := _) (v := ?_) rfl (by kernel_rfl) (by kernel_rfl) (by kernel_rfl) (fun _ _ _ h => h) (Or.inl ⟨by rfl, ?_⟩) (by assumption) ?_
  case refine_2 =>
    intro w9 hSw
    (try dsimp only at hSw)
    go_simp
    (try with_reducible rfl)
  try simp only [Act.put, List.setIfInBounds_toArray, List.set_cons_zero, List.set_cons_succ, List.getElem_toArray, List.getElem_cons_zero]
  refine wpAnyH_ready (rs := [1]) (by kernel_rfl) (by simp) ?_
  refine AllReadyH.cons rfl (fun K hK => ?_) AllReadyH.nil
  go_simp
  (with_reducible refine (great_any na na' sa A A' n c n' c' ea ea' _ hn hn').mono ?_)
  rw [HG.out]
  rintro e w4 ⟨rfl, HC4⟩
  have R4a := Lib.hid (R3a.out.belowW HC4.out)
  have R4b := Lib.hid (R3b.out.belowW HC4.out)
  have R4t := Lib.hid (R3t.out.belowW HC4.out)
  have R4m := Lib.hid (R3m.out.belowW HC4.out)
  have R4x := Lib.hid (R3x.out.belowW HC4.out)
  have HR4 := Lib.hid (HR3.out.trans (HC4.out.mono HR3.out.size))
  go_wp2_with fail
  clear hHeld
  refine hK.out _ _ ?_ (fun hHeld => ?_)
  case refine_1 => exact ⟨R4x.out.cell 0, R4x.out.cell 1, R4x.out.cell 2, R4x.out.cell 3, R4x.out.cell 4, R4x.out.cell 5, R4x.out.cell 6⟩
  clear hK K
  try simp only [List.setIfInBounds_toArray, List.set_cons_zero, List.set_cons_succ]
  refine wpAnyH_take (i := 2) (oi := _) (v := ?_) rfl (by kernel_rfl) (by kernel_rfl) (by kernel_rfl) (fun _ _ _ h => h) (Or.inl ⟨by rfl, ?_⟩) (by assumption) ?_
  case refine_2 =>
    intro w9 hSw
    (try dsimp only at hSw)
    go_simp
    (try with_reducible rfl)
  try simp only [Act.put, List.setIfInBounds_toArray, List.set_cons_zero, List.set_cons_succ, List.getElem_toArray, List.getElem_cons_zero, List.getElem_cons_succ]
  refine wpAnyH_take (i := 3) (oi := _) (v := _) rfl (by kernel_rfl) (by kernel_rfl) (by kernel_rfl) (fun _ _ _ h => h) (Or.inr ⟨by rfl, rfl⟩) (by assumption) ?_
  try simp only [Act.put, List.setIfInBounds_toArray, List.set_cons_zero, List.set_cons_succ, List.getElem_toArray, List.getElem_cons_zero, List.getElem_cons_succ]
  refine wpAnyH_take (i := 4) (oi := _) (v := _) rfl (by kernel_rfl) (by kernel_rfl) (by kernel_rfl) (fun _ _ _ h => h) (Or.inr ⟨by rfl, rfl⟩) (by assumption) ?_
  try simp only [Act.put, List.setIfInBounds_toArray, List.set_cons_zero, List.set_cons_succ, List.getElem_toArray, List.getElem_cons_zero, List.getElem_cons_succ]
  refine wpAnyH_take (i := 5) (oi := _) (v := _) rfl (by kernel_rfl) (by kernel_rfl) (by kernel_rfl) (fun _ _ _ h => h) (Or.inr ⟨by rfl, rfl⟩) (by assumption) ?_
  try simp only [Act.put, List.setIfInBounds_toArray, List.set_cons_zero, List.set_cons_succ, List.getElem_toArray, List.getElem_cons_zero, List.getElem_cons_succ]
  refine wpAnyH_take (i := 6) (oi := _) (v := _) rfl (by kernel_rfl) (by kernel_rfl) (by kernel_rfl) (fun _ _ _ h => h) (Or.inr ⟨by rfl, rfl⟩) (by assumption) ?_
  try simp only [Act.put, List.setIfInBounds_toArray, List.set_cons_zero, List.set_cons_succ, List.getElem_toArray, List.getElem_cons_zero, List.getElem_cons_succ]
  refine wpAnyH_take (i := 7) (oi := _) (v := _) rfl (by kernel_rfl) (by kernel_rfl) (by kernel_rfl) (fun _ _ _ h => h) (Or.inr ⟨by rfl, rfl⟩) (by assumption) ?_
  try simp only [Act.put, List.setIfInBounds_toArray, List.set_cons_zero, List.set_cons_succ, List.getElem_toArray, List.getElem_cons_zero, List.getElem_cons_succ]
  refine wpAnyH_take (i := 8) (oi := _) (v := ?_) rfl (by kernel_rfl) (by kernel_rfl) (by kernel_rfl) (fun _ _ _ h => h) (Or.inl ⟨by rfl, ?_⟩) (by assumption) ?_
  case refine_2 =>
    intro w9 hSw
    (try dsimp only at hSw)
    go_simp
    (try with_reducible rfl)
  try simp only [Act.put, List.setIfInBounds_toArray, List.set_cons_zero, List.set_cons_succ, List.getElem_toArray, List.getElem_cons_zero, List.getElem_cons_succ]
  refine wpAnyH_take (i := 9) (oi := _) (v := ?_) rfl (by kernel_rfl) (by kernel_rfl) (by kernel_rfl) (fun _ _ _ h => h) (Or.inl ⟨by rfl, ?_⟩) (by assumption) ?_
  case refine_2 =>
    intro w9 hSw
    (try dsimp only at hSw)
    go_simp
    (try with_reducible rfl)
  try simp only [Act.put, List.setIfInBounds_toArray, List.set_cons_zero, List.set_cons_succ, List.getElem_toArray, List.getElem_cons_zero, List.getElem_cons_succ]
  refine wpAnyH_done (by kernel_rfl) ?_ _
  have HL4 := Lib.hid (HL2.out.trans (HR4.out.mono HL2.out.size))
  go_wp2_with fail
  go_ret
  exact ⟨rfl, HL4⟩

set_option maxHeartbeats 2000000 in
set_option maxRecDepth 100000 in
theorem digl_all (na : Bool) (A : Option Addr) (n c : Nat) (ea : Int) (l : List Nat) (na' : Bool) (A' : Option Addr) (n' c' : Nat) (ea' : Int) (l' : List Nat) (w : World) (hT : RB w) (hM : MXL w) (h : Sl w A n c l) (h' : Sl w A' n' c' l') (hg : (decide (40 < n) || decide (40 < n')) = false) : Calls Tryz.prog 4 #[.agg #[.bool na, .slice A n c, .int .i64 ea, .bool na', .slice A' n' c', .int .i64 ea', .bool true]] w (Awk w) := by
  have H1 := Lib.hid h
  have H2 := Lib.hid h'
  have HT := Lib.hid hT
  have HM := Lib.hid hM
  have hn := h.max
  have hn' := h'.max
  have HG := Lib.hid hg
  have HVV := Lib.hid (show (vldIB na l ea na' l' ea' true && !true) = false from Bool.and_false _)
  clear h h' hT hM hg
  go_enter Tryz.func4, Tryz.ntmps4
  go_wp2_with fail
  obtain ⟨w1, hw⟩ : ∃ z9 : World, z9 = (w.alloc (.cells #[.bool na, .slice A n c, .int .i64 ea, .bool na', .slice A' n' c', .int .i64 ea', .bool true] 27)) := ⟨_, rfl⟩
  have HB1 := Lib.hid (show Below w.heap.size w w1 by rw [hw]; exact below_a1 _ _)
  have F1a := Lib.hid (H1.out.belowW HB1.out)
  have F1b := Lib.hid (H2.out.belowW HB1.out)
  have F1t := Lib.hid (HT.out.belowW HB1.out)
  have F1m := Lib.hid (HM.out.belowW HB1.out)
  have F1x := Lib.hid (show Blk w1 (w.heap.size) 27 #[.bool na, .slice A n c, .int .i64 ea, .bool na', .slice A' n' c', .int .i64 ea', .bool true] by rw [hw]; exact Blk.new _ _ _)
  rw [← hw]
  clear hw
  refine (dAwake_any w1 F1t.out F1m.out).mono ?_
  rintro e w2 ⟨rfl, HB2⟩
  have F2a := Lib.hid (F1a.out.belowW HB2.out)
  have F2b := Lib.hid (F1b.out.belowW HB2.out)
  have F2t := Lib.hid (F1t.out.belowW HB2.out)
  have F2m := Lib.hid (F1m.out.belowW HB2.out)
  have F2x := Lib.hid (F1x.out.belowW HB2.out)
  have HL2 := Lib.hid (HB1.out.trans (HB2.out.mono HB1.out.size))
  go_wp2_with fail
  have HR3 := Lib.hid (below_dr w2)
  have R3a := Lib.hid (F2a.out.belowW HR3.out)
  have R3b := Lib.hid (F2b.out.belowW HR3.out)
  have R3t := Lib.hid (F2t.out.belowW HR3.out)
  have R3m := Lib.hid (F2m.out.belowW HR3.out)
  have R3x := Lib.hid (F2x.out.belowW HR3.out)
  refine wp_region_held_drew (S := fun w' => w'.cell? ⟨w.heap.size, 0, none⟩ = some (.bool na) ∧ w'.cell? ⟨w.heap.size, 1, none⟩ = some (.slice A n c) ∧ w'.cell? ⟨w.heap.size, 2, none⟩ = some (.int .i64 ea) ∧ w'.cell? ⟨w.heap.size, 3, none⟩ = some (.bool na') ∧ w'.cell? ⟨w.heap.size, 4, none⟩ = some (.slice A' n' c') ∧ w'.cell? ⟨w.heap.size, 5, none⟩ = some (.int .i64 ea') ∧ w'.cell? ⟨w.heap.size, 6, none⟩ = some (.bool true)) (by kernel_rfl) ?_ (fun hHeld => ?_)
  case refine_1 => exact ⟨R3x.out.cell 0, R3x.out.cell 1, R3x.out.cell 2, R3x.out.cell 3, R3x.out.cell 4, R3x.out.cell 5, R3x.out.cell 6⟩
  refine wpAnyH_take (i := 0) (oi := _) (v := ?_) rfl (by kernel_rfl) (by kernel_rfl) (by kernel_rfl) (fun _ _ _ h => h) (Or.inl ⟨by rfl, ?_⟩) (by assumption) ?_
  case refine_2 =>
    intro w9 hSw
    (try dsimp only at hSw)
    go_simp
    (try with_reducible rfl)
  try simp only [Act.put, List.setIfInBounds_toArray, List.set_cons_zero, List.set_cons_succ, List.getElem_toArray, List.getElem_cons_zero]
  refine wpAnyH_ready (rs := [1]) (by kernel_rfl) (by simp) ?_
  refine AllReadyH.cons rfl (fun K hK => ?_) AllReadyH.nil
  go_simp
  (with_reducible refine (great_any na na' true A A' n c n' c' ea ea' _ hn hn').mono ?_)
  rw [HG.out]
  rintro e w4 ⟨rfl, HC4⟩
  have R4a := Lib.hid (R3a.out.belowW HC4.out)
  have R4b := Lib.hid (R3b.out.belowW HC4.out)
  have R4t := Lib.hid (R3t.out.belowW HC4.out)
  have R4m := Lib.hid (R3m.out.belowW HC4.out)
  have R4x := Lib.hid (R3x.out.belowW HC4.out)
  have HR4 := Lib.hid (HR3.out.trans (HC4.out.mono HR3.out.size))
  go_wp2_with fail
  clear hHeld
  refine hK.out _ _ ?_ (fun hHeld => ?_)
  case refine_1 => exact ⟨R4x.out.cell 0, R4x.out.cell 1, R4x.out.cell 2, R4x.out.cell 3, R4x.out.cell 4, R4x.out.cell 5, R4x.out.cell 6⟩
  clear hK K
  try simp only [List.setIfInBounds_toArray, List.set_cons_zero, List.set_cons_succ]
  refine wpAnyH_take (i := 2) (oi := _) (v := ?_) rfl (by kernel_rfl) (by kernel_rfl) (by kernel_rfl) (fun _ _ _ h => h) (Or.inl ⟨by rfl, ?_⟩) (by assumption) ?_
  case refine_2 =>
    intro w9 hSw
    (try dsimp only at hSw)
    go_simp
    (try with_reducible rfl)
  try simp only [Act.put, List.setIfInBounds_toArray, List.set_cons_zero, List.set_cons_succ, List.getElem_toArray, List.getElem_cons_zero, List.getElem_cons_succ]
  refine wpAnyH_take (i := 3) (oi := _) (v := ?_) rfl (by kernel_rfl) (by kernel_rfl) (by kernel_rfl) (fun _ _ _ h => h) (Or.inl ⟨by rfl, ?_⟩) (by assumption) ?_
  case refine_2 =>
    intro w9 hSw
    (try dsimp only at hSw)
    go_simp
    (try with_reducible rfl)
  try simp only [Act.put, List.setIfInBounds_toArray, List.set_cons_zero, List.set_cons_succ, List.getElem_toArray, List.getElem_cons_zero, List.getElem_cons_succ]
  refine wpAnyH_take (i := 5) (oi := _) (v := ?_) rfl (by kernel_rfl) (by kernel_rfl) (by kernel_rfl) (fun _ _ _ h => h) (Or.inl ⟨by rfl, ?_⟩) (by assumption) ?_
  case refine_2 =>
    intro w9 hSw
    (try dsimp only at hSw)
    go_simp
    (try with_reducible rfl)
  try simp only [Act.put, List.setIfInBounds_toArray, List.set_cons_zero, List.set_cons_succ, List.getElem_toArray, List.getElem_cons_zero, List.getElem_cons_succ]
  refine wpAnyH_ready (rs := [4]) (by kernel_rfl) (by simp) ?_
  refine AllReadyH.cons rfl (fun K hK => ?_) AllReadyH.nil
  go_simp
  (with_reducible refine (digits_every na A n c ea na' A' n' c' ea' _).mono ?_)
  rintro e w5 ⟨rfl, HC5⟩
  have R5a := Lib.hid (R4a.out.belowW HC5.out)
  have R5b := Lib.hid (R4b.out.belowW HC5.out)
  have R5t := Lib.hid (R4t.out.belowW HC5.out)
  have R5m := Lib.hid (R4m.out.belowW HC5.out)
  have R5x := Lib.hid (R4x.out.belowW HC5.out)
  have HR5 := Lib.hid (HR4.out.trans (HC5.out.mono HR4.out.size))
  go_wp2_with fail
  clear hHeld
  refine hK.out _ _ ?_ (fun hHeld => ?_)
  case refine_1 => exact ⟨R5x.out.cell 0, R5x.out.cell 1, R5x.out.cell 2, R5x.out.cell 3, R5x.out.cell 4, R5x.out.cell 5, R5x.out.cell 6⟩
  clear hK K
  try simp only [List.setIfInBounds_toArray, List.set_cons_zero, List.set_cons_succ]
  refine wpAnyH_ready (rs := [6]) (by kernel_rfl) (by simp) ?_
  refine AllReadyH.cons rfl (fun K hK => ?_) AllReadyH.nil
  go_simp
  (with_reducible refine (digits11_no na A n c ea l na' A' n' c' ea' l' true _ R5a.out R5b.out HVV.out).mono ?_)
  rintro e w6 ⟨rfl, HC6⟩
  have R6a := Lib.hid (R5a.out.belowW HC6.out)
  have R6b := Lib.hid (R5b.out.belowW HC6.out)
  have R6t := Lib.hid (R5t.out.belowW HC6.out)
  have R6m := Lib.hid (R5m.out.belowW HC6.out)
  have R6x := Lib.hid (R5x.out.belowW HC6.out)
  have HR6 := Lib.hid (HR5.out.trans (HC6.out.mono HR5.out.size))
  go_wp2_with fail
  clear hHeld
  refine hK.out _ _ ?_ (fun hHeld => ?_)
  case refine_1 => exact ⟨R6x.out.cell 0, R6x.out.cell 1, R6x.out.cell 2, R6x.out.cell 3, R6x.out.cell 4, R6x.out.cell 5, R6x.out.cell 6⟩
  clear hK K
  try simp only [List.setIfInBounds_toArray, List.set_cons_zero, List.set_cons_succ]
  refine wpAnyH_take (i := 7) (oi := _) (v := ?_) rfl (by kernel_rfl) (by kernel_rfl) (by kernel_rfl) (fun _ _ _ h => h) (Or.inl ⟨by rfl, ?_⟩) (by assumption) ?_
  case refine_2 =>
    intro w9 hSw
    (try dsimp only at hSw)
    go_simp
    (try with_reducible rfl)
  try simp only [Act.put, List.setIfInBounds_toArray, List.set_cons_zero, List.set_cons_succ, List.getElem_toArray, List.getElem_cons_zero, List.getElem_cons_succ]
  refine wpAnyH_take (i := 8) (oi := _) (v := ?_) rfl (by kernel_rfl) (by kernel_rfl) (by kernel_rfl) (fun _ _ _ h => h) (Or.inl ⟨by rfl, ?_⟩) (by assumption) ?_
  case refine_2 =>
    intro w9 hSw
    (try dsimp only at hSw)
    go_simp
    (try with_reducible rfl)
  try simp only [Act.put, List.setIfInBounds_toArray, List.set_cons_zero, List.set_cons_succ, List.getElem_toArray, List.getElem_cons_zero, List.getElem_cons_succ]
  refine wpAnyH_take (i := 9) (oi := _) (v := ?_) rfl (by kernel_rfl) (by kernel_rfl) (by kernel_rfl) (fun _ _ _ h => h) (Or.inl ⟨by rfl, ?_⟩) (by assumption) ?_
  case refine_2 =>
    intro w9 hSw
    (try dsimp only at hSw)
    go_simp
    (try with_reducible rfl)
  try simp only [Act.put, List.setIfInBounds_toArray, List.set_cons_zero, List.set_cons_succ, List.getElem_toArray, List.getElem_cons_zero, List.getElem_cons_succ]
  refine wpAnyH_done (by kernel_rfl) ?_ _
  have HL6 := Lib.hid (HL2.out.trans (HR6.out.mono HL2.out.size))
  go_wp2_with fail
  go_ret
  exact ⟨rfl, HL6⟩

set_option maxHeartbeats 2000000 in
set_option maxRecDepth 100000 in
theorem digl_inv (na : Bool) (A : Option Addr) (n c : Nat) (ea : Int) (l : List Nat) (na' : Bool) (A' : Option Addr) (n' c' : Nat) (ea' : Int) (l' : List Nat) (w : World) (hT : RB w) (hM : MXL w) (h : Sl w A n c l) (h' : Sl w A' n' c' l') (hg : (decide (40 < n) || decide (40 < n')) = false) (hv : vldIB na l ea na' l' ea' false = false) : Calls Tryz.prog 4 #[.agg #[.bool na, .slice A n c, .int .i64 ea, .bool na', .slice A' n' c', .int .i64 ea', .bool false]] w (Awk w) := by
  have H1 := Lib.hid h
  have H2 := Lib.hid h'
  have HT := Lib.hid hT
  have HM := Lib.hid hM
  have hn := h.max
  have hn' := h'.max
  have HG := Lib.hid hg
  have HV := Lib.hid hv
  have HVV := Lib.hid (show (vldIB na l ea na' l' ea' false && !false) = false by rw [hv]; rfl)
  clear h h' hT hM hg hv
  go_enter Tryz.func4, Tryz.ntmps4
  go_wp2_with fail
  obtain ⟨w1, hw⟩ : ∃ z9 : World, z9 = (w.alloc (.cells #[.bool na, .slice A n c, .int .i64 ea, .bool na', .slice A' n' c', .int .i64 ea', .bool false] 27)) := ⟨_, rfl⟩
  have HB1 := Lib.hid (show Below w.heap.size w w1 by rw [hw]; exact below_a1 _ _)
  have F1a := Lib.hid (H1.out.belowW HB1.out)
  have F1b := Lib.hid (H2.out.belowW HB1.out)
  have F1t := Lib.hid (HT.out.belowW HB1.out)
  have F1m := Lib.hid (HM.out.belowW HB1.out)
  have F1x := Lib.hid (show Blk w1 (w.heap.size) 27 #[.bool na, .slice A n c, .int .i64 ea, .bool na', .slice A' n' c', .int .i64 ea', .bool false] by rw [hw]; exact Blk.new _ _ _)
  rw [← hw]
  clear hw
  refine (dAwake_any w1 F1t.out F1m.out).mono ?_
  rintro e w2 ⟨rfl, HB2⟩
  have F2a := Lib.hid (F1a.out.belowW HB2.out)
  have F2b := Lib.hid (F1b.out.belowW HB2.out)
  have F2t := Lib.hid (F1t.out.belowW HB2.out)
  have F2m := Lib.hid (F1m.out.belowW HB2.out)
  have F2x := Lib.hid (F1x.out.belowW HB2.out)
  have HL2 := Lib.hid (HB1.out.trans (HB2.out.mono HB1.out.size))
  go_wp2_with fail
  have HR3 := Lib.hid (below_dr w2)
  have R3a := Lib.hid (F2a.out.belowW HR3.out)
  have R3b := Lib.hid (F2b.out.belowW HR3.out)
  have R3t := Lib.hid (F2t.out.belowW HR3.out)
  have R3m := Lib.hid (F2m.out.belowW HR3.out)
  have R3x := Lib.hid (F2x.out.belowW HR3.out)
  refine wp_region_held_drew (S := fun w' => w'.cell? ⟨w.heap.size, 0, none⟩ = some (.bool na) ∧ w'.cell? ⟨w.heap.size, 1, none⟩ = some (.slice A n c) ∧ w'.cell? ⟨w.heap.size, 2, none⟩ = some (.int .i64 ea) ∧ w'.cell? ⟨w.heap.size, 3, none⟩ = some (.bool na') ∧ w'.cell? ⟨w.heap.size, 4, none⟩ = some (.slice A' n' c') ∧ w'.cell? ⟨w.heap.size, 5, none⟩ = some (.int .i64 ea') ∧ w'.cell? ⟨w.heap.size, 6, none⟩ = some (.bool false)) (by kernel_rfl) ?_ (fun hHeld => ?_)
  case refine_1 => exact ⟨R3x.out.cell 0, R3x.out.cell 1, R3x.out.cell 2, R3x.out.cell 3, R3x.out.cell 4, R3x.out.cell 5, R3x.out.cell 6⟩
  refine wpAnyH_take (i := 0) (oi := _) (v := ?_) rfl (by kernel_rfl) (by kernel_rfl) (by kernel_rfl) (fun _ _ _ h => h) (Or.inl ⟨by rfl, ?_⟩) (by assumption) ?_
  case refine_2 =>
    intro w9 hSw
    (try dsimp only at hSw)
    go_simp
    (try with_reducible rfl)
  try simp only [Act.put, List.setIfInBounds_toArray, List.set_cons_zero, List.set_cons_succ, List.getElem_toArray, List.getElem_cons_zero]
  refine wpAnyH_ready (rs := [1]) (by kernel_rfl) (by simp) ?_
  refine AllReadyH.cons rfl (fun K hK => ?_) AllReadyH.nil
  go_simp
  (with_reducible refine (great_any na na' false A A' n c n' c' ea ea' _ hn hn').mono ?_)
  rw [HG.out]
  rintro e w4 ⟨rfl, HC4⟩
  have R4a := Lib.hid (R3a.out.belowW HC4.out)
  have R4b := Lib.hid (R3b.out.belowW HC4.out)
  have R4t := Lib.hid (R3t.out.belowW HC4.out)
  have R4m := Lib.hid (R3m.out.belowW HC4.out)
  have R4x := Lib.hid (R3x.out.belowW HC4.out)
  have HR4 := Lib.hid (HR3.out.trans (HC4.out.mono HR3.out.size))
  go_wp2_with fail
  clear hHeld
  refine hK.out _ _ ?_ (fun hHeld => ?_)
  case refine_1 => exact ⟨R4x.out.cell 0, R4x.out.cell 1, R4x.out.cell 2, R4x.out.cell 3, R4x.out.cell 4, R4x.out.cell 5, R4x.out.cell 6⟩
  clear hK K
  try simp only [List.setIfInBounds_toArray, List.set_cons_zero, List.set_cons_succ]
  refine wpAnyH_take (i := 2) (oi := _) (v := ?_) rfl (by kernel_rfl) (by kernel_rfl) (by kernel_rfl) (fun _ _ _ h => h) (Or.inl ⟨by rfl, ?_⟩) (by assumption) ?_
  case refine_2 =>
    intro w9 hSw
    (try dsimp only at hSw)
    go_simp
    (try with_reducible rfl)
  try simp only [Act.put, List.setIfInBounds_toArray, List.set_cons_zero, List.set_cons_succ, List.getElem_toArray, List.getElem_cons_zero, List.getElem_cons_succ]
  refine wpAnyH_take (i := 3) (oi := _) (v := ?_) rfl (by kernel_rfl) (by kernel_rfl) (by kernel_rfl) (fun _ _ _ h => h) (Or.inl ⟨by rfl, ?_⟩) (by assumption) ?_
  case refine_2 =>
    intro w9 hSw
    (try dsimp only at hSw)
    go_simp
    (try with_reducible rfl)
  try simp only [Act.put, List.setIfInBounds_toArray, List.set_cons_zero, List.set_cons_succ, List.getElem_toArray, List.getElem_cons_zero, List.getElem_cons_succ]
  refine wpAnyH_take (i := 5) (oi := _) (v := ?_) rfl (by kernel_rfl) (by kernel_rfl) (by kernel_rfl) (fun _ _ _ h => h) (Or.inl ⟨by rfl, ?_⟩) (by assumption) ?_
  case refine_2 =>
    intro w9 hSw
    (try dsimp only at hSw)
    go_simp
    (try with_reducible rfl)
  try simp only [Act.put, List.setIfInBounds_toArray, List.set_cons_zero, List.set_cons_succ, List.getElem_toArray, List.getElem_cons_zero, List.getElem_cons_succ]
  refine wpAnyH_ready (rs := [4]) (by kernel_rfl) (by simp) ?_
  refine AllReadyH.cons rfl (fun K hK => ?_) AllReadyH.nil
  go_simp
  (with_reducible refine (digits_none na A n c ea l na' A' n' c' ea' l' _ R4a.out R4b.out HV.out).mono ?_)
  rintro e w5 ⟨rfl, HC5⟩
  have R5a := Lib.hid (R4a.out.belowW HC5.out)
  have R5b := Lib.hid (R4b.out.belowW HC5.out)
  have R5t := Lib.hid (R4t.out.belowW HC5.out)
  have R5m := Lib.hid (R4m.out.belowW HC5.out)
  have R5x := Lib.hid (R4x.out.belowW HC5.out)
  have HR5 := Lib.hid (HR4.out.trans (HC5.out.mono HR4.out.size))
  go_wp2_with fail
  clear hHeld
  refine hK.out _ _ ?_ (fun hHeld => ?_)
  case refine_1 => exact ⟨R5x.out.cell 0, R5x.out.cell 1, R5x.out.cell 2, R5x.out.cell 3, R5x.out.cell 4, R5x.out.cell 5, R5x.out.cell 6⟩
  clear hK K
  try simp only [List.setIfInBounds_toArray, List.set_cons_zero, List.set_cons_succ]
  refine wpAnyH_ready (rs := [6]) (by kernel_rfl) (by simp) ?_
  refine AllReadyH.cons rfl (fun K hK => ?_) AllReadyH.nil
  go_simp
  (with_reducible refine (digits11_no na A n c ea l na' A' n' c' ea' l' false _ R5a.out R5b.out HVV.out).mono ?_)
  rintro e w6 ⟨rfl, HC6⟩
  have R6a := Lib.hid (R5a.out.belowW HC6.out)
  have R6b := Lib.hid (R5b.out.belowW HC6.out)
  have R6t := Lib.hid (R5t.out.belowW HC6.out)
  have R6m := Lib.hid (R5m.out.belowW HC6.out)
  have R6x := Lib.hid (R5x.out.belowW HC6.out)
  have HR6 := Lib.hid (HR5.out.trans (HC6.out.mono HR5.out.size))
  go_wp2_with fail
  clear hHeld
  refine hK.out _ _ ?_ (fun hHeld => ?_)
  case refine_1 => exact ⟨R6x.out.cell 0, R6x.out.cell 1, R6x.out.cell 2, R6x.out.cell 3, R6x.out.cell 4, R6x.out.cell 5, R6x.out.cell 6⟩
  clear hK K
  try simp only [List.setIfInBounds_toArray, List.set_cons_zero, List.set_cons_succ]
  refine wpAnyH_take (i := 7) (oi := _) (v := ?_) rfl (by kernel_rfl) (by kernel_rfl) (by kernel_rfl) (fun _ _ _ h => h) (Or.inl ⟨by rfl, ?_⟩) (by assumption) ?_
  case refine_2 =>
    intro w9 hSw
    (try dsimp only at hSw)
    go_simp
    (try with_reducible rfl)
  try simp only [Act.put, List.setIfInBounds_toArray, List.set_cons_zero, List.set_cons_succ, List.getElem_toArray, List.getElem_cons_zero, List.getElem_cons_succ]
  refine wpAnyH_take (i := 8) (oi := _) (v := ?_) rfl (by kernel_rfl) (by kernel_rfl) (by kernel_rfl) (fun _ _ _ h => h) (Or.inl ⟨by rfl, ?_⟩) (by assumption) ?_
  case refine_2 =>
    intro w9 hSw
    (try dsimp only at hSw)
    go_simp
    (try with_reducible rfl)
  try simp only [Act.put, List.setIfInBounds_toArray, List.set_cons_zero, List.set_cons_succ, List.getElem_toArray, List.getElem_cons_zero, List.getElem_cons_succ]
  refine wpAnyH_take (i := 9) (oi := _) (v := ?_) rfl (by kernel_rfl) (by kernel_rfl) (by kernel_rfl) (fun _ _ _ h => h) (Or.inl ⟨by rfl, ?_⟩) (by assumption) ?_
  case refine_2 =>
    intro w9 hSw
    (try dsimp only at hSw)
    go_simp
    (try with_reducible rfl)
  try simp only [Act.put, List.setIfInBounds_toArray, List.set_cons_zero, List.set_cons_succ, List.getElem_toArray, List.getElem_cons_zero, List.getElem_cons_succ]
  refine wpAnyH_done (by kernel_rfl) ?_ _
  have HL6 := Lib.hid (HL2.out.trans (HR6.out.mono HL2.out.size))
  go_wp2_with fail
  go_ret
  exact ⟨rfl, HL6⟩

set_option maxHeartbeats 2000000 in
set_option maxRecDepth 100000 in
theorem digl_main (x y : D) (A : Option Addr) (n c : Nat) (A' : Option Addr) (n' c' : Nat) (w : World) (hT : RB w) (hM : MXL w) (h : Sl w A n c (limbs x.k)) (h' : Sl w A' n' c' (limbs y.k)) (hg : (decide (40 < n) || decide (40 < n')) = false) (vx : vld x) (vy : vld y) (hc : cmpD x y ≤ 0) : Calls Tryz.prog 4 #[.agg #[.bool x.neg, .slice A n c, .int .i64 x.e, .bool y.neg, .slice A' n' c', .int .i64 y.e, .bool false]] w (Awk w) := by
  have H1 := Lib.hid h
  have H2 := Lib.hid h'
  have HT := Lib.hid hT
  have HM := Lib.hid hM
  have hn := h.max
  have hn' := h'.max
  have HG := Lib.hid hg
  have VX := Lib.hid vx
  have VY := Lib.hid vy
  have HC := Lib.hid hc
  obtain ⟨r, hr⟩ : ∃ r, digR x y = r := ⟨_, rfl⟩
  have HR := Lib.hid hr
  clear h h' hT hM hg vx vy hc hr
  go_enter Tryz.func4, Tryz.ntmps4
  go_wp2_with fail
  obtain ⟨w1, hw⟩ : ∃ z9 : World, z9 = (w.alloc (.cells #[.bool x.neg, .slice A n c, .int .i64 x.e, .bool y.neg, .slice A' n' c', .int .i64 y.e, .bool false] 27)) := ⟨_, rfl⟩
  have HB1 := Lib.hid (show Below w.heap.size w w1 by rw [hw]; exact below_a1 _ _)
  have F1a := Lib.hid (H1.out.belowW HB1.out)
  have F1b := Lib.hid (H2.out.belowW HB1.out)
  have F1t := Lib.hid (HT.out.belowW HB1.out)
  have F1m := Lib.hid (HM.out.belowW HB1.out)
  have F1x := Lib.hid (show Blk w1 (w.heap.size) 27 #[.bool x.neg, .slice A n c, .int .i64 x.e, .bool y.neg, .slice A' n' c', .int .i64 y.e, .bool false] by rw [hw]; exact Blk.new _ _ _)
  rw [← hw]
  clear hw
  refine (dAwake_any w1 F1t.out F1m.out).mono ?_
  rintro e w2 ⟨rfl, HB2⟩
  have F2a := Lib.hid (F1a.out.belowW HB2.out)
  have F2b := Lib.hid (F1b.out.belowW HB2.out)
  have F2t := Lib.hid (F1t.out.belowW HB2.out)
  have F2m := Lib.hid (F1m.out.belowW HB2.out)
  have F2x := Lib.hid (F1x.out.belowW HB2.out)
  have HL2 := Lib.hid (HB1.out.trans (HB2.out.mono HB1.out.size))
  go_wp2_with fail
  have HR3 := Lib.hid (below_dr w2)
  have R3a := Lib.hid (F2a.out.belowW HR3.out)
  have R3b := Lib.hid (F2b.out.belowW HR3.out)
  have R3t := Lib.hid (F2t.out.belowW HR3.out)
  have R3m := Lib.hid (F2m.out.belowW HR3.out)
  have R3x := Lib.hid (F2x.out.belowW HR3.out)
  refine wp_region_held_drew (S := fun w' => w'.cell? ⟨w.heap.size, 0, none⟩ = some (.bool x.neg) ∧ w'.cell? ⟨w.heap.size, 1, none⟩ = some (.slice A n c) ∧ w'.cell? ⟨w.heap.size, 2, none⟩ = some (.int .i64 x.e) ∧ w'.cell? ⟨w.heap.size, 3, none⟩ = some (.bool y.neg) ∧ w'.cell? ⟨w.heap.size, 4, none⟩ = some (.slice A' n' c') ∧ w'.cell? ⟨w.heap.size, 5, none⟩ = some (.int .i64 y.e) ∧ w'.cell? ⟨w.heap.size, 6, none⟩ = some (.bool false)) (by kernel_rfl) ?_ (fun hHeld => ?_)
  case refine_1 => exact ⟨R3x.out.cell 0, R3x.out.cell 1, R3x.out.cell 2, R3x.out.cell 3, R3x.out.cell 4, R3x.out.cell 5, R3x.out.cell 6⟩
  refine wpAnyH_take (i := 0) (oi := _) (v := ?_) rfl (by kernel_rfl) (by kernel_rfl) (by kernel_rfl) (fun _ _ _ h => h) (Or.inl ⟨by rfl, ?_⟩) (by assumption) ?_
  case refine_2 =>
    intro w9 hSw
    (try dsimp only at hSw)
    go_simp
    (try with_reducible rfl)
  try simp only [Act.put, List.setIfInBounds_toArray, List.set_cons_zero, List.set_cons_succ, List.getElem_toArray, List.getElem_cons_zero]
  refine wpAnyH_ready (rs := [1]) (by kernel_rfl) (by simp) ?_
  refine AllReadyH.cons rfl (fun K hK => ?_) AllReadyH.nil
  go_simp
  (with_reducible refine (great_any x.neg y.neg false A A' n c n' c' x.e y.e _ hn hn').mono ?_)
  rw [HG.out]
  rintro e w4 ⟨rfl, HC4⟩
  have R4a := Lib.hid (R3a.out.belowW HC4.out)
  have R4b := Lib.hid (R3b.out.belowW HC4.out)
  have R4t := Lib.hid (R3t.out.belowW HC4.out)
  have R4m := Lib.hid (R3m.out.belowW HC4.out)
  have R4x := Lib.hid (R3x.out.belowW HC4.out)
  have HR4 := Lib.hid (HR3.out.trans (HC4.out.mono HR3.out.size))
  go_wp2_with fail
  clear hHeld
  refine hK.out _ _ ?_ (fun hHeld => ?_)
  case refine_1 => exact ⟨R4x.out.cell 0, R4x.out.cell 1, R4x.out.cell 2, R4x.out.cell 3, R4x.out.cell 4, R4x.out.cell 5, R4x.out.cell 6⟩
  clear hK K
  try simp only [List.setIfInBounds_toArray, List.set_cons_zero, List.set_cons_succ]
  refine wpAnyH_take (i := 2) (oi := _) (v := ?_) rfl (by kernel_rfl) (by kernel_rfl) (by kernel_rfl) (fun _ _ _ h => h) (Or.inl ⟨by rfl, ?_⟩) (by assumption) ?_
  case refine_2 =>
    intro w9 hSw
    (try dsimp only at hSw)
    go_simp
    (try with_reducible rfl)
  try simp only [Act.put, List.setIfInBounds_toArray, List.set_cons_zero, List.set_cons_succ, List.getElem_toArray, List.getElem_cons_zero, List.getElem_cons_succ]
  refine wpAnyH_take (i := 3) (oi := _) (v := ?_) rfl (by kernel_rfl) (by kernel_rfl) (by kernel_rfl) (fun _ _ _ h => h) (Or.inl ⟨by rfl, ?_⟩) (by assumption) ?_
  case refine_2 =>
    intro w9 hSw
    (try dsimp only at hSw)
    go_simp
    (try with_reducible rfl)
  try simp only [Act.put, List.setIfInBounds_toArray, List.set_cons_zero, List.set_cons_succ, List.getElem_toArray, List.getElem_cons_zero, List.getElem_cons_succ]
  refine wpAnyH_take (i := 5) (oi := _) (v := ?_) rfl (by kernel_rfl) (by kernel_rfl) (by kernel_rfl) (fun _ _ _ h => h) (Or.inl ⟨by rfl, ?_⟩) (by assumption) ?_
  case refine_2 =>
    intro w9 hSw
    (try dsimp only at hSw)
    go_simp
    (try with_reducible rfl)
  try simp only [Act.put, List.setIfInBounds_toArray, List.set_cons_zero, List.set_cons_succ, List.getElem_toArray, List.getElem_cons_zero, List.getElem_cons_succ]
  refine wpAnyH_ready (rs := [4]) (by kernel_rfl) (by simp) ?_
  refine AllReadyH.cons rfl (fun K hK => ?_) AllReadyH.nil
  go_simp
  (with_reducible refine (digits_yes x y A n c A' n' c' _ R4a.out R4b.out VX.out VY.out HC.out R4t.out).mono ?_)
  rw [HR.out]
  rintro e w5 ⟨rfl, HC5⟩
  have R5a := Lib.hid (R4a.out.belowW HC5.out)
  have R5b := Lib.hid (R4b.out.belowW HC5.out)
  have R5t := Lib.hid (R4t.out.belowW HC5.out)
  have R5m := Lib.hid (R4m.out.belowW HC5.out)
  have R5x := Lib.hid (R4x.out.belowW HC5.out)
  have HR5 := Lib.hid (HR4.out.trans (HC5.out.mono HR4.out.size))
  go_wp2_with fail
  clear hHeld
  refine hK.out _ _ ?_ (fun hHeld => ?_)
  case refine_1 => exact ⟨R5x.out.cell 0, R5x.out.cell 1, R5x.out.cell 2, R5x.out.cell 3, R5x.out.cell 4, R5x.out.cell 5, R5x.out.cell 6⟩
  clear hK K
  try simp only [List.setIfInBounds_toArray, List.set_cons_zero, List.set_cons_succ]
  refine wpAnyH_ready (rs := [6]) (by kernel_rfl) (by simp) ?_
  refine AllReadyH.cons rfl (fun K hK => ?_) AllReadyH.nil
  go_simp
  (with_reducible refine (digits11_yes x y A n c A' n' c' _ R5a.out R5b.out VX.out VY.out HC.out).mono ?_)
  rw [HR.out]
  rintro e w6 ⟨rfl, HC6⟩
  have R6a := Lib.hid (R5a.out.belowW HC6.out)
  have R6b := Lib.hid (R5b.out.belowW HC6.out)
  have R6t := Lib.hid (R5t.out.belowW HC6.out)
  have R6m := Lib.hid (R5m.out.belowW HC6.out)
  have R6x := Lib.hid (R5x.out.belowW HC6.out)
  have HR6 := Lib.hid (HR5.out.trans (HC6.out.mono HR5.out.size))
  go_wp2_with fail
  clear hHeld
  refine hK.out _ _ ?_ (fun hHeld => ?_)
  case refine_1 => exact ⟨R6x.out.cell 0, R6x.out.cell 1, R6x.out.cell 2, R6x.out.cell 3, R6x.out.cell 4, R6x.out.cell 5, R6x.out.cell 6⟩
  clear hK K
  try simp only [List.setIfInBounds_toArray, List.set_cons_zero, List.set_cons_succ]
  refine wpAnyH_take (i := 7) (oi := _) (v := ?_) rfl (by kernel_rfl) (by kernel_rfl) (by kernel_rfl) (fun _ _ _ h => h) (Or.inl ⟨by rfl, ?_⟩) (by assumption) ?_
  case refine_2 =>
    intro w9 hSw
    (try dsimp only at hSw)
    go_simp
    (try with_reducible rfl)
  try simp only [Act.put, List.setIfInBounds_toArray, List.set_cons_zero, List.set_cons_succ, List.getElem_toArray, List.getElem_cons_zero, List.getElem_cons_succ]
  refine wpAnyH_take (i := 8) (oi := _) (v := ?_) rfl (by kernel_rfl) (by kernel_rfl) (by kernel_rfl) (fun _ _ _ h => h) (Or.inl ⟨by rfl, ?_⟩) (by assumption) ?_
  case refine_2 =>
    intro w9 hSw
    (try dsimp only at hSw)
    go_simp
    (try with_reducible rfl)
  try simp only [Act.put, List.setIfInBounds_toArray, List.set_cons_zero, List.set_cons_succ, List.getElem_toArray, List.getElem_cons_zero, List.getElem_cons_succ]
  refine wpAnyH_take (i := 9) (oi := _) (v := ?_) rfl (by kernel_rfl) (by kernel_rfl) (by kernel_rfl) (fun _ _ _ h => h) (Or.inl ⟨by rfl, ?_⟩) (by assumption) ?_
  case refine_2 =>
    intro w9 hSw
    (try dsimp only at hSw)
    go_simp
    (try with_reducible rfl)
  try simp only [Act.put, List.setIfInBounds_toArray, List.set_cons_zero, List.set_cons_succ, List.getElem_toArray, List.getElem_cons_zero, List.getElem_cons_succ]
  refine wpAnyH_done (by kernel_rfl) ?_ _
  have HL6 := Lib.hid (HL2.out.trans (HR6.out.mono HL2.out.size))
  go_wp2_with fail
  go_ret
  exact ⟨rfl, HL6⟩
theorem decimalDigits_any (na : Bool) (A : Option Addr) (n c : Nat) (ea : Int) (l : List Nat) (na' : Bool) (A' : Option Addr) (n' c' : Nat) (ea' : Int) (l' : List Nat) (sa : Bool) (w : World) (hT : RB w) (hM : MXL w) (h : Sl w A n c l) (h' : Sl w A' n' c' l') (i1 : -9223372036854775808 ≤ ea) (i2 : ea ≤ 9223372036854775807) (i3 : -9223372036854775808 ≤ ea') (i4 : ea' ≤ 9223372036854775807) : Calls Tryz.prog 4 #[.agg #[.bool na, .slice A n c, .int .i64 ea, .bool na', .slice A' n' c', .int .i64 ea', .bool sa]] w (Awk w) := by
  cases hg : (decide (40 < n) || decide (40 < n')) with
  | true => exact digl_great na A n c ea l na' A' n' c' ea' l' sa w hT hM h h' hg
  | false =>
    cases sa with
    | true => exact digl_all na A n c ea l na' A' n' c' ea' l' w hT hM h h' hg
    | false =>
      cases hv : vldIB na l ea na' l' ea' false with
      | false => exact digl_inv na A n c ea l na' A' n' c' ea' l' w hT hM h h' hg hv
      | true =>
        obtain ⟨e1, e2, v1, v2, hc, _⟩ := vldIB_cases hv
        obtain ⟨x, hx⟩ : ∃ x : D, x = ⟨na, val l, ea⟩ := ⟨_, rfl⟩
        obtain ⟨y, hy⟩ : ∃ x : D, x = ⟨na', val l', ea'⟩ := ⟨_, rfl⟩
        rw [← hx] at v1 hc
        rw [← hy] at v2 hc
        obtain rfl : na = x.neg := by rw [hx]
        obtain rfl : ea = x.e := by rw [hx]
        obtain rfl : na' = y.neg := by rw [hy]
        obtain rfl : ea' = y.e := by rw [hy]
        rw [e1, show val l = x.k by rw [hx]] at h
        rw [e2, show val l' = y.k by rw [hy]] at h'
        exact digl_main x y A n c A' n' c' w hT hM h h' hg v1 v2 hc
end Go.Proofs.YtffdkakogeofmaaGreatDoor
