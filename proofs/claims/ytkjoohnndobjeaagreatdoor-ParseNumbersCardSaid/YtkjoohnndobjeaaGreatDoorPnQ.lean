/-
  The walk of flowpipelaw14.awake: the examples of the chapter hold.
-/
import Derived.Test.YtkjoohnndobjeaaGreatDoorPnB
import Derived.Test.YtkjoohnndobjeaaGreatDoorPnP
set_option linter.unusedVariables false
namespace Go.Proofs.YtkjoohnndobjeaaGreatDoor
open Go.RowKit Go.Fl Go.Fl.Lx Go.Fl.Nm Go.Fl.Fm Go.Fl.Rt Go.Fl.Pa
open List (setIfInBounds_toArray set_cons_zero set_cons_succ getElem_toArray getElem_cons_zero getElem_cons_succ)
theorem pExpr_bad (s : ByteArray) (w : World) (hs : s.size ≤ maxLen) (hR : RX w) (hX : FX w) {ln co er : Nat} (he : exprR s.data.toList = ((ln, co, er), none)) (her : er ≠ 0) :
    Calls Tryz.prog 21 #[.string s] w (fun e w' => e = .returned (.tuple #[.agg #[.int .i64 0, .int .i64 0, .int .i64 0, .string ⟨#[]⟩, .int .i64 0, .slice none 0 0], .agg #[.int .i64 ln, .int .i64 co], .int .i64 er]) ∧ Hid (Below w.heap.size w w')) := by
  refine (pExpr s w hs hR hX).mono ?_
  rintro e w' ⟨v, rfl, HB, HO⟩
  rw [he] at HO ⊢
  rw [HO.1 her]
  exact ⟨rfl, HB⟩

set_option maxHeartbeats 4000000 in
set_option maxRecDepth 100000 in
theorem awake14_any (w : World) (hR : RX w) (hX : FX w) : Calls Tryz.prog 12 #[] w (RetB (.bool true) w) := by
  have HR := Lib.hid hR
  have HX := Lib.hid hX
  clear hR hX
  go_enter Tryz.func12, Tryz.ntmps12
  go_upto_region 3 with (fail)
  obtain ⟨w3, hw3⟩ : ∃ z9 : World, z9 = ((w.alloc (Obj.cells #[.int .i64 2, .int .i64 0, .int .i64 0, .string ⟨#[120]⟩, .int .i64 0, .slice none 0 0] 29)).alloc (Obj.cells #[.int .i64 2, .int .i64 0, .int .i64 0, .string ⟨#[120]⟩, .int .i64 0, .slice none 0 0] 29)).alloc (Obj.cells #[.int .i64 8, .int .i64 0, .int .i64 0, .string ⟨#[]⟩, .int .i64 2, .slice (some ⟨w.heap.size + 1, 0, none⟩) 1 1] 29) := ⟨_, rfl⟩
  have O3 := Lib.hid (show Below w.heap.size w w3 by rw [hw3]; exact ((below_box _ _).trans ((below_box _ _).mono (by simp))).trans ((below_box _ _).mono (by simp; omega)))
  have Q3 := Lib.hid (show Blk w3 (w.heap.size + 1 + 1) 29 #[.int .i64 8, .int .i64 0, .int .i64 0, .string ⟨#[]⟩, .int .i64 2, .slice (some ⟨w.heap.size + 1, 0, none⟩) 1 1] by rw [hw3]; exact (by have := Blk.new ((w.alloc (Obj.cells #[.int .i64 2, .int .i64 0, .int .i64 0, .string ⟨#[120]⟩, .int .i64 0, .slice none 0 0] 29)).alloc (Obj.cells #[.int .i64 2, .int .i64 0, .int .i64 0, .string ⟨#[120]⟩, .int .i64 0, .slice none 0 0] 29)) 29 #[.int .i64 8, .int .i64 0, .int .i64 0, .string ⟨#[]⟩, .int .i64 2, .slice (some ⟨w.heap.size + 1, 0, none⟩) 1 1]; simpa using this))
  have N3 := Lib.hid (show InE w3 (powE 2 (varE [120])) ⟨⟨8, 0, 0, ⟨#[]⟩, 2⟩, some ⟨w.heap.size + 1, 0, none⟩, 1, 1⟩ by
    rw [hw3]
    have h := in_new1 (w.alloc (Obj.cells #[.int .i64 2, .int .i64 0, .int .i64 0, .string ⟨#[120]⟩, .int .i64 0, .slice none 0 0] 29)) 8 2 (varE [120]) (ndV ⟨#[120]⟩) 29 (by decide) (by decide) (in_V _ ⟨#[120]⟩ (by decide))
    rw [World.size_alloc] at h
    exact InE.go h (below_box _ _))
  rw [← hw3]
  clear hw3
  go_wp2_with fail
  refine (pExpr_bad ⟨#[120, 32, 41, 32, 121]⟩ w3 (by decide) (HR.out.belowW O3.out) (HX.out.belowW O3.out) aw_paren (by decide)).mono ?_
  rintro e w4 ⟨rfl, HB4⟩
  have O4 := Lib.hid (O3.out.trans (HB4.out.mono O3.out.size))
  have Q4 := Lib.hid (Q3.out.belowW HB4.out)
  have N4 := Lib.hid (N3.out.belowW HB4.out)
  go_upto_region 4 with (fail)
  obtain ⟨w5, hw5⟩ : ∃ z9 : World, z9 = (w4.alloc (Obj.cells #[.int .i64 0, .int .i64 0, .int .i64 0, .string ⟨#[]⟩, .int .i64 0, .slice none 0 0] 29)).alloc (Obj.cells #[.int .i64 1, .int .i64 3] 40) := ⟨_, rfl⟩
  have HB5 := Lib.hid (show Below w4.heap.size w4 w5 by rw [hw5]; exact (below_box _ _).trans ((below_box _ _).mono (by simp)))
  have P5 := Lib.hid (show Blk w5 (w4.heap.size + 1) 40 #[.int .i64 1, .int .i64 3] by rw [hw5]; exact (by have := Blk.new (w4.alloc (Obj.cells #[.int .i64 0, .int .i64 0, .int .i64 0, .string ⟨#[]⟩, .int .i64 0, .slice none 0 0] 29)) 40 #[.int .i64 1, .int .i64 3]; simpa using this))
  rw [← hw5]
  clear hw5
  have O5 := Lib.hid (O4.out.trans (HB5.out.mono O4.out.size))
  have Q5 := Lib.hid (Q4.out.belowW HB5.out)
  have N5 := Lib.hid (N4.out.belowW HB5.out)
  go_wp2_with fail
  refine (pExpr_bad ⟨#[120, 32, 43]⟩ w5 (by decide) (HR.out.belowW O5.out) (HX.out.belowW O5.out) aw_plus (by decide)).mono ?_
  rintro e w6 ⟨rfl, HB6⟩
  have O6 := Lib.hid (O5.out.trans (HB6.out.mono O5.out.size))
  have Q6 := Lib.hid (Q5.out.belowW HB6.out)
  have N6 := Lib.hid (N5.out.belowW HB6.out)
  have P6 := Lib.hid (P5.out.belowW HB6.out)
  go_upto_region 5 with (fail)
  obtain ⟨w7, hw5⟩ : ∃ z9 : World, z9 = (w6.alloc (Obj.cells #[.int .i64 0, .int .i64 0, .int .i64 0, .string ⟨#[]⟩, .int .i64 0, .slice none 0 0] 29)).alloc (Obj.cells #[.int .i64 0, .int .i64 0] 40) := ⟨_, rfl⟩
  have HB7 := Lib.hid (show Below w6.heap.size w6 w7 by rw [hw5]; exact (below_box _ _).trans ((below_box _ _).mono (by simp)))
  have P7x := Lib.hid (show Blk w7 (w6.heap.size + 1) 40 #[.int .i64 0, .int .i64 0] by rw [hw5]; exact (by have := Blk.new (w6.alloc (Obj.cells #[.int .i64 0, .int .i64 0, .int .i64 0, .string ⟨#[]⟩, .int .i64 0, .slice none 0 0] 29)) 40 #[.int .i64 0, .int .i64 0]; simpa using this))
  rw [← hw5]
  clear hw5
  have O7 := Lib.hid (O6.out.trans (HB7.out.mono O6.out.size))
  have Q7 := Lib.hid (Q6.out.belowW HB7.out)
  have N7 := Lib.hid (N6.out.belowW HB7.out)
  have P7 := Lib.hid (P6.out.belowW HB7.out)
  have HR31 := Lib.hid (below_dr w7)
  have R31p := Lib.hid (P7.out.belowW HR31.out)
  have R31q := Lib.hid (Q7.out.belowW HR31.out)
  have R31n := Lib.hid (N7.out.belowW HR31.out)
  have R31o := Lib.hid (O7.out.trans (HR31.out.mono O7.out.size))
  refine wp_region_held_drew (S := fun w' => w'.cell? ⟨w4.heap.size + 1, 0, none⟩ = some (.int .i64 1) ∧ w'.cell? ⟨w4.heap.size + 1, 1, none⟩ = some (.int .i64 3) ∧ w'.cell? ⟨w.heap.size + 1 + 1, 0, none⟩ = some (.int .i64 8) ∧ w'.cell? ⟨w.heap.size + 1 + 1, 1, none⟩ = some (.int .i64 0) ∧ w'.cell? ⟨w.heap.size + 1 + 1, 2, none⟩ = some (.int .i64 0) ∧ w'.cell? ⟨w.heap.size + 1 + 1, 3, none⟩ = some (.string ⟨#[]⟩) ∧ w'.cell? ⟨w.heap.size + 1 + 1, 4, none⟩ = some (.int .i64 2) ∧ w'.cell? ⟨w.heap.size + 1 + 1, 5, none⟩ = some (.slice (some ⟨w.heap.size + 1, 0, none⟩) 1 1)) (by kernel_rfl) ?_ (fun hHeld => ?_)
  case refine_1 => exact ⟨R31p.out.cell 0, R31p.out.cell 1, R31q.out.cell 0, R31q.out.cell 1, R31q.out.cell 2, R31q.out.cell 3, R31q.out.cell 4, R31q.out.cell 5⟩
  obtain ⟨wd31, hwd⟩ : ∃ z9 : World, z9 = w7.drew := ⟨_, rfl⟩
  rw [← hwd] at HR31 R31p R31q R31n R31o hHeld ⊢
  clear hwd
  refine tkY 1 rfl (v := ?_) (.inl ⟨by rfl, ?_⟩) ?_
  case refine_2 => intro w9 hSw; (try dsimp only at hSw); go_simp; (try with_reducible rfl)
  try simp only [Act.put, setIfInBounds_toArray, set_cons_zero, set_cons_succ, getElem_toArray, getElem_cons_zero, getElem_cons_succ]
  refine wpAnyH_ready (rs := [0, 2]) (by kernel_rfl) (by simp) ?_
  refine (AllReadyH.cons rfl (fun K hK => ?_) (AllReadyH.cons rfl (fun K hK => ?_) AllReadyH.nil))
  · go_simp
    (with_reducible refine (read_any ⟨#[45, 120, 32, 94, 32, 50]⟩ sqE wd31 (by decide) (HR.out.belowW R31o.out) (HX.out.belowW R31o.out) aw_square).mono ?_)
    rintro e w32 ⟨v1, rfl, HVv1, HC32⟩
    have R32p := Lib.hid (R31p.out.belowW HC32.out)
    have R32q := Lib.hid (R31q.out.belowW HC32.out)
    have R32n := Lib.hid (R31n.out.belowW HC32.out)
    have R32o := Lib.hid (R31o.out.trans (HC32.out.mono R31o.out.size))
    have R32v := Lib.hid (HVv1.out)
    go_wp2_with fail
    clear hHeld
    refine hK.out _ _ ?_ (fun hHeld => ?_)
    case refine_1 => exact ⟨R32p.out.cell 0, R32p.out.cell 1, R32q.out.cell 0, R32q.out.cell 1, R32q.out.cell 2, R32q.out.cell 3, R32q.out.cell 4, R32q.out.cell 5⟩
    clear hK K
    try simp only [setIfInBounds_toArray, set_cons_zero, set_cons_succ]
    refine wpAnyH_ready (rs := [2]) (by kernel_rfl) (by simp) ?_
    refine (AllReadyH.cons rfl (fun K hK => ?_) AllReadyH.nil)
    go_simp
    obtain ⟨w33, hw⟩ : ∃ z9 : World, z9 = w32.alloc (Obj.cells #[.int .i64 8, .int .i64 0, .int .i64 0, .string ⟨#[]⟩, .int .i64 2, .slice (some ⟨w.heap.size + 1, 0, none⟩) 1 1] 29) := ⟨_, rfl⟩
    have HC33 := Lib.hid (show Below w32.heap.size w32 w33 by rw [hw]; exact below_box _ _)
    have R33p := Lib.hid (R32p.out.belowW HC33.out)
    have R33q := Lib.hid (R32q.out.belowW HC33.out)
    have R33n := Lib.hid (R32n.out.belowW HC33.out)
    have R33o := Lib.hid (R32o.out.trans (HC33.out.mono R32o.out.size))
    have R33v := Lib.hid (R32v.out.belowW HC33.out)
    have R33s := Lib.hid (show InE w33 sqE ⟨⟨7, 0, 0, ⟨#[]⟩, 0⟩, some ⟨w32.heap.size, 0, none⟩, 1, 1⟩ by rw [hw]; exact in_new1 w32 7 0 _ ⟨⟨8, 0, 0, ⟨#[]⟩, 2⟩, some ⟨w.heap.size + 1, 0, none⟩, 1, 1⟩ _ (by decide) d0 R32n.out)
    rw [← hw]
    clear hw
    clear hHeld
    refine hK.out _ _ ?_ (fun hHeld => ?_)
    case refine_1 => exact ⟨R33p.out.cell 0, R33p.out.cell 1, R33q.out.cell 0, R33q.out.cell 1, R33q.out.cell 2, R33q.out.cell 3, R33q.out.cell 4, R33q.out.cell 5⟩
    clear hK K
    try simp only [setIfInBounds_toArray, set_cons_zero, set_cons_succ]
    refine tkY 3 rfl (v := ?_) (.inl ⟨by rfl, ?_⟩) ?_
    case refine_2 => intro w9 hSw; (try dsimp only at hSw); go_simp; (try with_reducible rfl)
    try simp only [Act.put, setIfInBounds_toArray, set_cons_zero, set_cons_succ, getElem_toArray, getElem_cons_zero, getElem_cons_succ]
    refine wpAnyH_ready (rs := [4]) (by kernel_rfl) (by simp) ?_
    refine (AllReadyH.cons rfl (fun K hK => ?_) AllReadyH.nil)
    go_simp
    (with_reducible refine (show Calls Tryz.prog 17 #[v1.val, .agg #[.int .i64 7, .int .i64 0, .int .i64 0, .string ⟨#[]⟩, .int .i64 0, .slice (some ⟨w32.heap.size, 0, none⟩) 1 1]] w33 _ from same_any _ sqE (Nat.le_refl _) sqE v1 ⟨⟨7, 0, 0, ⟨#[]⟩, 0⟩, some ⟨w32.heap.size, 0, none⟩, 1, 1⟩ w33 R33v.out R33s.out).mono ?_)
    rintro e w34 ⟨r1, rfl, HE1, HC34⟩
    have R34p := Lib.hid (R33p.out.belowW HC34.out)
    have R34q := Lib.hid (R33q.out.belowW HC34.out)
    have R34n := Lib.hid (R33n.out.belowW HC34.out)
    have R34o := Lib.hid (R33o.out.trans (HC34.out.mono R33o.out.size))
    have R34v := Lib.hid (R33v.out.belowW HC34.out)
    have R34s := Lib.hid (R33s.out.belowW HC34.out)
    obtain rfl : r1 = true := HE1.out.2 rfl
    go_wp2_with fail
    clear hHeld
    refine hK.out _ _ ?_ (fun hHeld => ?_)
    case refine_1 => exact ⟨R34p.out.cell 0, R34p.out.cell 1, R34q.out.cell 0, R34q.out.cell 1, R34q.out.cell 2, R34q.out.cell 3, R34q.out.cell 4, R34q.out.cell 5⟩
    clear hK K
    try simp only [setIfInBounds_toArray, set_cons_zero, set_cons_succ]
    refine tkY 5 rfl (v := ?_) (.inl ⟨by rfl, ?_⟩) ?_
    case refine_2 => intro w9 hSw; (try dsimp only at hSw); go_simp; (try with_reducible rfl)
    try simp only [Act.put, setIfInBounds_toArray, set_cons_zero, set_cons_succ, getElem_toArray, getElem_cons_zero, getElem_cons_succ]
    refine tkY 7 rfl (v := ?_) (.inl ⟨by rfl, ?_⟩) ?_
    case refine_2 => intro w9 hSw; (try dsimp only at hSw); go_simp; (try with_reducible rfl)
    try simp only [Act.put, setIfInBounds_toArray, set_cons_zero, set_cons_succ, getElem_toArray, getElem_cons_zero, getElem_cons_succ]
    refine tkY 8 rfl (v := ?_) (.inl ⟨by rfl, ?_⟩) ?_
    case refine_2 => intro w9 hSw; (try dsimp only at hSw); go_simp; (try with_reducible rfl)
    try simp only [Act.put, setIfInBounds_toArray, set_cons_zero, set_cons_succ, getElem_toArray, getElem_cons_zero, getElem_cons_succ]
    refine wpAnyH_ready (rs := [6]) (by kernel_rfl) (by simp) ?_
    refine (AllReadyH.cons rfl (fun K hK => ?_) AllReadyH.nil)
    go_simp
    (with_reducible refine (read_any ⟨#[49, 47, 51]⟩ (numE (1, 3)) w34 (by decide) (HR.out.belowW R34o.out) (HX.out.belowW R34o.out) aw_third).mono ?_)
    rintro e w35 ⟨v2, rfl, HVv2, HC35⟩
    have R35p := Lib.hid (R34p.out.belowW HC35.out)
    have R35q := Lib.hid (R34q.out.belowW HC35.out)
    have R35n := Lib.hid (R34n.out.belowW HC35.out)
    have R35o := Lib.hid (R34o.out.trans (HC35.out.mono R34o.out.size))
    have R35v := Lib.hid (R34v.out.belowW HC35.out)
    have R35s := Lib.hid (R34s.out.belowW HC35.out)
    have R35u := Lib.hid (HVv2.out)
    go_wp2_with fail
    clear hHeld
    refine hK.out _ _ ?_ (fun hHeld => ?_)
    case refine_1 => exact ⟨R35p.out.cell 0, R35p.out.cell 1, R35q.out.cell 0, R35q.out.cell 1, R35q.out.cell 2, R35q.out.cell 3, R35q.out.cell 4, R35q.out.cell 5⟩
    clear hK K
    try simp only [setIfInBounds_toArray, set_cons_zero, set_cons_succ]
    refine wpAnyH_ready (rs := [9]) (by kernel_rfl) (by simp) ?_
    refine (AllReadyH.cons rfl (fun K hK => ?_) AllReadyH.nil)
    go_simp
    (with_reducible refine (show Calls Tryz.prog 17 #[v2.val, .agg #[.int .i64 1, .int .i64 1, .int .i64 3, .string ⟨#[]⟩, .int .i64 0, .slice none 0 0]] w35 _ from same_any _ (numE (1, 3)) (Nat.le_refl _) (numE (1, 3)) v2 ⟨⟨1, 1, 3, ⟨#[]⟩, 0⟩, none, 0, 0⟩ w35 R35u.out (in_N _ 1 3 (by decide) (by decide))).mono ?_)
    rintro e w36 ⟨r2, rfl, HE2, HC36⟩
    have R36p := Lib.hid (R35p.out.belowW HC36.out)
    have R36q := Lib.hid (R35q.out.belowW HC36.out)
    have R36n := Lib.hid (R35n.out.belowW HC36.out)
    have R36o := Lib.hid (R35o.out.trans (HC36.out.mono R35o.out.size))
    have R36v := Lib.hid (R35v.out.belowW HC36.out)
    have R36s := Lib.hid (R35s.out.belowW HC36.out)
    have R36u := Lib.hid (R35u.out.belowW HC36.out)
    obtain rfl : r2 = true := HE2.out.2 rfl
    go_wp2_with fail
    clear hHeld
    refine hK.out _ _ ?_ (fun hHeld => ?_)
    case refine_1 => exact ⟨R36p.out.cell 0, R36p.out.cell 1, R36q.out.cell 0, R36q.out.cell 1, R36q.out.cell 2, R36q.out.cell 3, R36q.out.cell 4, R36q.out.cell 5⟩
    clear hK K
    try simp only [setIfInBounds_toArray, set_cons_zero, set_cons_succ]
    refine tkY 10 rfl (v := ?_) (.inl ⟨by rfl, ?_⟩) ?_
    case refine_2 => intro w9 hSw; (try dsimp only at hSw); go_simp; (try with_reducible rfl)
    try simp only [Act.put, setIfInBounds_toArray, set_cons_zero, set_cons_succ, getElem_toArray, getElem_cons_zero, getElem_cons_succ]
    refine tkY 11 rfl (v := ?_) (.inl ⟨by rfl, ?_⟩) ?_
    case refine_2 => intro w9 hSw; (try dsimp only at hSw); go_simp; (try with_reducible rfl)
    try simp only [Act.put, setIfInBounds_toArray, set_cons_zero, set_cons_succ, getElem_toArray, getElem_cons_zero, getElem_cons_succ]
    refine tkY 12 rfl (v := ?_) (.inl ⟨by rfl, ?_⟩) ?_
    case refine_2 => intro w9 hSw; (try dsimp only at hSw); go_simp; (try with_reducible rfl)
    try simp only [Act.put, setIfInBounds_toArray, set_cons_zero, set_cons_succ, getElem_toArray, getElem_cons_zero, getElem_cons_succ]
    refine tkY 13 rfl (v := ?_) (.inl ⟨by rfl, ?_⟩) ?_
    case refine_2 => intro w9 hSw; (try dsimp only at hSw); go_simp; (try with_reducible rfl)
    try simp only [Act.put, setIfInBounds_toArray, set_cons_zero, set_cons_succ, getElem_toArray, getElem_cons_zero, getElem_cons_succ]
    refine tkY 14 rfl (v := ?_) (.inl ⟨by rfl, ?_⟩) ?_
    case refine_2 => intro w9 hSw; (try dsimp only at hSw); go_simp; (try with_reducible rfl)
    try simp only [Act.put, setIfInBounds_toArray, set_cons_zero, set_cons_succ, getElem_toArray, getElem_cons_zero, getElem_cons_succ]
    refine tkY 15 rfl (v := ?_) (.inl ⟨by rfl, ?_⟩) ?_
    case refine_2 => intro w9 hSw; (try dsimp only at hSw); go_simp; (try with_reducible rfl)
    try simp only [Act.put, setIfInBounds_toArray, set_cons_zero, set_cons_succ, getElem_toArray, getElem_cons_zero, getElem_cons_succ]
    refine tkY 16 rfl (v := ?_) (.inl ⟨by rfl, ?_⟩) ?_
    case refine_2 => intro w9 hSw; (try dsimp only at hSw); go_simp; (try with_reducible rfl)
    try simp only [Act.put, setIfInBounds_toArray, set_cons_zero, set_cons_succ, getElem_toArray, getElem_cons_zero, getElem_cons_succ]
    refine tkY 17 rfl (v := ?_) (.inl ⟨by rfl, ?_⟩) ?_
    case refine_2 => intro w9 hSw; (try dsimp only at hSw); go_simp; (try with_reducible rfl)
    try simp only [Act.put, setIfInBounds_toArray, set_cons_zero, set_cons_succ, getElem_toArray, getElem_cons_zero, getElem_cons_succ]
    refine tkY 18 rfl (v := ?_) (.inl ⟨by rfl, ?_⟩) ?_
    case refine_2 => intro w9 hSw; (try dsimp only at hSw); go_simp; (try with_reducible rfl)
    try simp only [Act.put, setIfInBounds_toArray, set_cons_zero, set_cons_succ, getElem_toArray, getElem_cons_zero, getElem_cons_succ]
    refine tkY 19 rfl (v := ?_) (.inl ⟨by rfl, ?_⟩) ?_
    case refine_2 => intro w9 hSw; (try dsimp only at hSw); go_simp; (try with_reducible rfl)
    try simp only [Act.put, setIfInBounds_toArray, set_cons_zero, set_cons_succ, getElem_toArray, getElem_cons_zero, getElem_cons_succ]
    refine tkY 20 rfl (v := ?_) (.inl ⟨by rfl, ?_⟩) ?_
    case refine_2 => intro w9 hSw; (try dsimp only at hSw); go_simp; (try with_reducible rfl)
    try simp only [Act.put, setIfInBounds_toArray, set_cons_zero, set_cons_succ, getElem_toArray, getElem_cons_zero, getElem_cons_succ]
    refine tkY 21 rfl (v := ?_) (.inl ⟨by rfl, ?_⟩) ?_
    case refine_2 => intro w9 hSw; (try dsimp only at hSw); go_simp; (try with_reducible rfl)
    try simp only [Act.put, setIfInBounds_toArray, set_cons_zero, set_cons_succ, getElem_toArray, getElem_cons_zero, getElem_cons_succ]
    refine tkY 22 rfl (v := ?_) (.inl ⟨by rfl, ?_⟩) ?_
    case refine_2 => intro w9 hSw; (try dsimp only at hSw); go_simp; (try with_reducible rfl)
    try simp only [Act.put, setIfInBounds_toArray, set_cons_zero, set_cons_succ, getElem_toArray, getElem_cons_zero, getElem_cons_succ]
    refine tkY 23 rfl (v := ?_) (.inl ⟨by rfl, ?_⟩) ?_
    case refine_2 => intro w9 hSw; (try dsimp only at hSw); go_simp; (try with_reducible rfl)
    try simp only [Act.put, setIfInBounds_toArray, set_cons_zero, set_cons_succ, getElem_toArray, getElem_cons_zero, getElem_cons_succ]
    refine tkY 24 rfl (v := ?_) (.inl ⟨by rfl, ?_⟩) ?_
    case refine_2 => intro w9 hSw; (try dsimp only at hSw); go_simp; (try with_reducible rfl)
    try simp only [Act.put, setIfInBounds_toArray, set_cons_zero, getElem_toArray, getElem_cons_zero, getElem_cons_succ]
    refine wpAnyH_done (by kernel_rfl) ?_ _
    go_wp2_with fail
    go_ret
    exact ⟨ret_bool (by simp), R36o⟩
  · go_simp
    obtain ⟨w32, hw⟩ : ∃ z9 : World, z9 = wd31.alloc (Obj.cells #[.int .i64 8, .int .i64 0, .int .i64 0, .string ⟨#[]⟩, .int .i64 2, .slice (some ⟨w.heap.size + 1, 0, none⟩) 1 1] 29) := ⟨_, rfl⟩
    have HC32 := Lib.hid (show Below wd31.heap.size wd31 w32 by rw [hw]; exact below_box _ _)
    have R32p := Lib.hid (R31p.out.belowW HC32.out)
    have R32q := Lib.hid (R31q.out.belowW HC32.out)
    have R32n := Lib.hid (R31n.out.belowW HC32.out)
    have R32o := Lib.hid (R31o.out.trans (HC32.out.mono R31o.out.size))
    have R32s := Lib.hid (show InE w32 sqE ⟨⟨7, 0, 0, ⟨#[]⟩, 0⟩, some ⟨wd31.heap.size, 0, none⟩, 1, 1⟩ by rw [hw]; exact in_new1 wd31 7 0 _ ⟨⟨8, 0, 0, ⟨#[]⟩, 2⟩, some ⟨w.heap.size + 1, 0, none⟩, 1, 1⟩ _ (by decide) d0 R31n.out)
    rw [← hw]
    clear hw
    clear hHeld
    refine hK.out _ _ ?_ (fun hHeld => ?_)
    case refine_1 => exact ⟨R32p.out.cell 0, R32p.out.cell 1, R32q.out.cell 0, R32q.out.cell 1, R32q.out.cell 2, R32q.out.cell 3, R32q.out.cell 4, R32q.out.cell 5⟩
    clear hK K
    try simp only [setIfInBounds_toArray, set_cons_zero, set_cons_succ]
    refine tkY 3 rfl (v := ?_) (.inl ⟨by rfl, ?_⟩) ?_
    case refine_2 => intro w9 hSw; (try dsimp only at hSw); go_simp; (try with_reducible rfl)
    try simp only [Act.put, setIfInBounds_toArray, set_cons_zero, set_cons_succ, getElem_toArray, getElem_cons_zero, getElem_cons_succ]
    refine wpAnyH_ready (rs := [0]) (by kernel_rfl) (by simp) ?_
    refine (AllReadyH.cons rfl (fun K hK => ?_) AllReadyH.nil)
    go_simp
    (with_reducible refine (read_any ⟨#[45, 120, 32, 94, 32, 50]⟩ sqE w32 (by decide) (HR.out.belowW R32o.out) (HX.out.belowW R32o.out) aw_square).mono ?_)
    rintro e w33 ⟨v1, rfl, HVv1, HC33⟩
    have R33p := Lib.hid (R32p.out.belowW HC33.out)
    have R33q := Lib.hid (R32q.out.belowW HC33.out)
    have R33n := Lib.hid (R32n.out.belowW HC33.out)
    have R33o := Lib.hid (R32o.out.trans (HC33.out.mono R32o.out.size))
    have R33s := Lib.hid (R32s.out.belowW HC33.out)
    have R33v := Lib.hid (HVv1.out)
    go_wp2_with fail
    clear hHeld
    refine hK.out _ _ ?_ (fun hHeld => ?_)
    case refine_1 => exact ⟨R33p.out.cell 0, R33p.out.cell 1, R33q.out.cell 0, R33q.out.cell 1, R33q.out.cell 2, R33q.out.cell 3, R33q.out.cell 4, R33q.out.cell 5⟩
    clear hK K
    try simp only [setIfInBounds_toArray, set_cons_zero, set_cons_succ]
    refine wpAnyH_ready (rs := [4]) (by kernel_rfl) (by simp) ?_
    refine (AllReadyH.cons rfl (fun K hK => ?_) AllReadyH.nil)
    go_simp
    (with_reducible refine (show Calls Tryz.prog 17 #[v1.val, .agg #[.int .i64 7, .int .i64 0, .int .i64 0, .string ⟨#[]⟩, .int .i64 0, .slice (some ⟨wd31.heap.size, 0, none⟩) 1 1]] w33 _ from same_any _ sqE (Nat.le_refl _) sqE v1 ⟨⟨7, 0, 0, ⟨#[]⟩, 0⟩, some ⟨wd31.heap.size, 0, none⟩, 1, 1⟩ w33 R33v.out R33s.out).mono ?_)
    rintro e w34 ⟨r1, rfl, HE1, HC34⟩
    have R34p := Lib.hid (R33p.out.belowW HC34.out)
    have R34q := Lib.hid (R33q.out.belowW HC34.out)
    have R34n := Lib.hid (R33n.out.belowW HC34.out)
    have R34o := Lib.hid (R33o.out.trans (HC34.out.mono R33o.out.size))
    have R34s := Lib.hid (R33s.out.belowW HC34.out)
    have R34v := Lib.hid (R33v.out.belowW HC34.out)
    obtain rfl : r1 = true := HE1.out.2 rfl
    go_wp2_with fail
    clear hHeld
    refine hK.out _ _ ?_ (fun hHeld => ?_)
    case refine_1 => exact ⟨R34p.out.cell 0, R34p.out.cell 1, R34q.out.cell 0, R34q.out.cell 1, R34q.out.cell 2, R34q.out.cell 3, R34q.out.cell 4, R34q.out.cell 5⟩
    clear hK K
    try simp only [setIfInBounds_toArray, set_cons_zero, set_cons_succ]
    refine tkY 5 rfl (v := ?_) (.inl ⟨by rfl, ?_⟩) ?_
    case refine_2 => intro w9 hSw; (try dsimp only at hSw); go_simp; (try with_reducible rfl)
    try simp only [Act.put, setIfInBounds_toArray, set_cons_zero, set_cons_succ, getElem_toArray, getElem_cons_zero, getElem_cons_succ]
    refine tkY 7 rfl (v := ?_) (.inl ⟨by rfl, ?_⟩) ?_
    case refine_2 => intro w9 hSw; (try dsimp only at hSw); go_simp; (try with_reducible rfl)
    try simp only [Act.put, setIfInBounds_toArray, set_cons_zero, set_cons_succ, getElem_toArray, getElem_cons_zero, getElem_cons_succ]
    refine tkY 8 rfl (v := ?_) (.inl ⟨by rfl, ?_⟩) ?_
    case refine_2 => intro w9 hSw; (try dsimp only at hSw); go_simp; (try with_reducible rfl)
    try simp only [Act.put, setIfInBounds_toArray, set_cons_zero, set_cons_succ, getElem_toArray, getElem_cons_zero, getElem_cons_succ]
    refine wpAnyH_ready (rs := [6]) (by kernel_rfl) (by simp) ?_
    refine (AllReadyH.cons rfl (fun K hK => ?_) AllReadyH.nil)
    go_simp
    (with_reducible refine (read_any ⟨#[49, 47, 51]⟩ (numE (1, 3)) w34 (by decide) (HR.out.belowW R34o.out) (HX.out.belowW R34o.out) aw_third).mono ?_)
    rintro e w35 ⟨v2, rfl, HVv2, HC35⟩
    have R35p := Lib.hid (R34p.out.belowW HC35.out)
    have R35q := Lib.hid (R34q.out.belowW HC35.out)
    have R35n := Lib.hid (R34n.out.belowW HC35.out)
    have R35o := Lib.hid (R34o.out.trans (HC35.out.mono R34o.out.size))
    have R35s := Lib.hid (R34s.out.belowW HC35.out)
    have R35v := Lib.hid (R34v.out.belowW HC35.out)
    have R35u := Lib.hid (HVv2.out)
    go_wp2_with fail
    clear hHeld
    refine hK.out _ _ ?_ (fun hHeld => ?_)
    case refine_1 => exact ⟨R35p.out.cell 0, R35p.out.cell 1, R35q.out.cell 0, R35q.out.cell 1, R35q.out.cell 2, R35q.out.cell 3, R35q.out.cell 4, R35q.out.cell 5⟩
    clear hK K
    try simp only [setIfInBounds_toArray, set_cons_zero, set_cons_succ]
    refine wpAnyH_ready (rs := [9]) (by kernel_rfl) (by simp) ?_
    refine (AllReadyH.cons rfl (fun K hK => ?_) AllReadyH.nil)
    go_simp
    (with_reducible refine (show Calls Tryz.prog 17 #[v2.val, .agg #[.int .i64 1, .int .i64 1, .int .i64 3, .string ⟨#[]⟩, .int .i64 0, .slice none 0 0]] w35 _ from same_any _ (numE (1, 3)) (Nat.le_refl _) (numE (1, 3)) v2 ⟨⟨1, 1, 3, ⟨#[]⟩, 0⟩, none, 0, 0⟩ w35 R35u.out (in_N _ 1 3 (by decide) (by decide))).mono ?_)
    rintro e w36 ⟨r2, rfl, HE2, HC36⟩
    have R36p := Lib.hid (R35p.out.belowW HC36.out)
    have R36q := Lib.hid (R35q.out.belowW HC36.out)
    have R36n := Lib.hid (R35n.out.belowW HC36.out)
    have R36o := Lib.hid (R35o.out.trans (HC36.out.mono R35o.out.size))
    have R36s := Lib.hid (R35s.out.belowW HC36.out)
    have R36v := Lib.hid (R35v.out.belowW HC36.out)
    have R36u := Lib.hid (R35u.out.belowW HC36.out)
    obtain rfl : r2 = true := HE2.out.2 rfl
    go_wp2_with fail
    clear hHeld
    refine hK.out _ _ ?_ (fun hHeld => ?_)
    case refine_1 => exact ⟨R36p.out.cell 0, R36p.out.cell 1, R36q.out.cell 0, R36q.out.cell 1, R36q.out.cell 2, R36q.out.cell 3, R36q.out.cell 4, R36q.out.cell 5⟩
    clear hK K
    try simp only [setIfInBounds_toArray, set_cons_zero, set_cons_succ]
    refine tkY 10 rfl (v := ?_) (.inl ⟨by rfl, ?_⟩) ?_
    case refine_2 => intro w9 hSw; (try dsimp only at hSw); go_simp; (try with_reducible rfl)
    try simp only [Act.put, setIfInBounds_toArray, set_cons_zero, set_cons_succ, getElem_toArray, getElem_cons_zero, getElem_cons_succ]
    refine tkY 11 rfl (v := ?_) (.inl ⟨by rfl, ?_⟩) ?_
    case refine_2 => intro w9 hSw; (try dsimp only at hSw); go_simp; (try with_reducible rfl)
    try simp only [Act.put, setIfInBounds_toArray, set_cons_zero, set_cons_succ, getElem_toArray, getElem_cons_zero, getElem_cons_succ]
    refine tkY 12 rfl (v := ?_) (.inl ⟨by rfl, ?_⟩) ?_
    case refine_2 => intro w9 hSw; (try dsimp only at hSw); go_simp; (try with_reducible rfl)
    try simp only [Act.put, setIfInBounds_toArray, set_cons_zero, set_cons_succ, getElem_toArray, getElem_cons_zero, getElem_cons_succ]
    refine tkY 13 rfl (v := ?_) (.inl ⟨by rfl, ?_⟩) ?_
    case refine_2 => intro w9 hSw; (try dsimp only at hSw); go_simp; (try with_reducible rfl)
    try simp only [Act.put, setIfInBounds_toArray, set_cons_zero, set_cons_succ, getElem_toArray, getElem_cons_zero, getElem_cons_succ]
    refine tkY 14 rfl (v := ?_) (.inl ⟨by rfl, ?_⟩) ?_
    case refine_2 => intro w9 hSw; (try dsimp only at hSw); go_simp; (try with_reducible rfl)
    try simp only [Act.put, setIfInBounds_toArray, set_cons_zero, set_cons_succ, getElem_toArray, getElem_cons_zero, getElem_cons_succ]
    refine tkY 15 rfl (v := ?_) (.inl ⟨by rfl, ?_⟩) ?_
    case refine_2 => intro w9 hSw; (try dsimp only at hSw); go_simp; (try with_reducible rfl)
    try simp only [Act.put, setIfInBounds_toArray, set_cons_zero, set_cons_succ, getElem_toArray, getElem_cons_zero, getElem_cons_succ]
    refine tkY 16 rfl (v := ?_) (.inl ⟨by rfl, ?_⟩) ?_
    case refine_2 => intro w9 hSw; (try dsimp only at hSw); go_simp; (try with_reducible rfl)
    try simp only [Act.put, setIfInBounds_toArray, set_cons_zero, set_cons_succ, getElem_toArray, getElem_cons_zero, getElem_cons_succ]
    refine tkY 17 rfl (v := ?_) (.inl ⟨by rfl, ?_⟩) ?_
    case refine_2 => intro w9 hSw; (try dsimp only at hSw); go_simp; (try with_reducible rfl)
    try simp only [Act.put, setIfInBounds_toArray, set_cons_zero, set_cons_succ, getElem_toArray, getElem_cons_zero, getElem_cons_succ]
    refine tkY 18 rfl (v := ?_) (.inl ⟨by rfl, ?_⟩) ?_
    case refine_2 => intro w9 hSw; (try dsimp only at hSw); go_simp; (try with_reducible rfl)
    try simp only [Act.put, setIfInBounds_toArray, set_cons_zero, set_cons_succ, getElem_toArray, getElem_cons_zero, getElem_cons_succ]
    refine tkY 19 rfl (v := ?_) (.inl ⟨by rfl, ?_⟩) ?_
    case refine_2 => intro w9 hSw; (try dsimp only at hSw); go_simp; (try with_reducible rfl)
    try simp only [Act.put, setIfInBounds_toArray, set_cons_zero, set_cons_succ, getElem_toArray, getElem_cons_zero, getElem_cons_succ]
    refine tkY 20 rfl (v := ?_) (.inl ⟨by rfl, ?_⟩) ?_
    case refine_2 => intro w9 hSw; (try dsimp only at hSw); go_simp; (try with_reducible rfl)
    try simp only [Act.put, setIfInBounds_toArray, set_cons_zero, set_cons_succ, getElem_toArray, getElem_cons_zero, getElem_cons_succ]
    refine tkY 21 rfl (v := ?_) (.inl ⟨by rfl, ?_⟩) ?_
    case refine_2 => intro w9 hSw; (try dsimp only at hSw); go_simp; (try with_reducible rfl)
    try simp only [Act.put, setIfInBounds_toArray, set_cons_zero, set_cons_succ, getElem_toArray, getElem_cons_zero, getElem_cons_succ]
    refine tkY 22 rfl (v := ?_) (.inl ⟨by rfl, ?_⟩) ?_
    case refine_2 => intro w9 hSw; (try dsimp only at hSw); go_simp; (try with_reducible rfl)
    try simp only [Act.put, setIfInBounds_toArray, set_cons_zero, set_cons_succ, getElem_toArray, getElem_cons_zero, getElem_cons_succ]
    refine tkY 23 rfl (v := ?_) (.inl ⟨by rfl, ?_⟩) ?_
    case refine_2 => intro w9 hSw; (try dsimp only at hSw); go_simp; (try with_reducible rfl)
    try simp only [Act.put, setIfInBounds_toArray, set_cons_zero, set_cons_succ, getElem_toArray, getElem_cons_zero, getElem_cons_succ]
    refine tkY 24 rfl (v := ?_) (.inl ⟨by rfl, ?_⟩) ?_
    case refine_2 => intro w9 hSw; (try dsimp only at hSw); go_simp; (try with_reducible rfl)
    try simp only [Act.put, setIfInBounds_toArray, set_cons_zero, getElem_toArray, getElem_cons_zero, getElem_cons_succ]
    refine wpAnyH_done (by kernel_rfl) ?_ _
    go_wp2_with fail
    go_ret
    exact ⟨ret_bool (by simp), R36o⟩
end Go.Proofs.YtkjoohnndobjeaaGreatDoor
