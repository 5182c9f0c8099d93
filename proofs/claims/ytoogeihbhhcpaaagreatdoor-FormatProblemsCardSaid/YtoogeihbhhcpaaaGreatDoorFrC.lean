/-
  The walks of the texts of ranges, the program's and the reference's.
-/
import Derived.Test.YtoogeihbhhcpaaaGreatDoorFmQ
import Derived.Test.YtoogeihbhhcpaaaGreatDoorFrP
set_option linter.unusedVariables false
namespace Go.Fl.Fm
open Go.Fl.Rt
/-- The text of a range. -/
def rangeT (a b c d : Int) : List UInt8 := if a = c ∧ b = d then textR a b else [91] ++ textR a b ++ [44, 32] ++ textR c d ++ [93]
/-- Four numbers of a range are machine numbers. -/
structure R4 (a b c d : Int) : Prop where
  a1 : -9223372036854775808 ≤ a
  a2 : a ≤ 9223372036854775807
  b1 : -9223372036854775808 ≤ b
  b2 : b ≤ 9223372036854775807
  c1 : -9223372036854775808 ≤ c
  c2 : c ≤ 9223372036854775807
  d1 : -9223372036854775808 ≤ d
  d2 : d ≤ 9223372036854775807
end Go.Fl.Fm
namespace Go.Proofs.YtoogeihbhhcpaaaGreatDoor
open Go.RowKit Go.Fl Go.Fl.Nm Go.Fl.Dy Go.Fl.Rt Go.Fl.Fm
open List renaming setIfInBounds_toArray → qa, set_cons_zero → qb, set_cons_succ → qc, getElem_toArray → qd, getElem_cons_zero → qe, getElem_cons_succ → qf
theorem textR_len {n d : Int} (h : valid n d) : (textR n d).length ≤ 43 := by
  have hb : -4611686018427387904 ≤ n ∧ n ≤ 4611686018427387904 ∧ -4611686018427387904 ≤ d ∧ d ≤ 4611686018427387904 := by
    have := h
    unfold valid at this
    have e : (MX : Int) = 1073741824 := rfl
    omega
  have zn := itoa21 hb.1 hb.2.1
  have zd := itoa21 hb.2.2.1 hb.2.2.2
  unfold textR
  rw [List.length_append]
  split
  · simp only [List.length_nil]; omega
  · simp only [List.length_cons]; omega
theorem textE_ok {n d : Int} (h : vB n d = true) : textE n d = textR n d := by unfold textE; rw [if_pos h]
/-- A text and an error number. -/
def StrE (l : List UInt8) (f : Int) (w : World) (e : Ending) (w' : World) : Prop :=
  ∃ S : ByteArray, e = .returned (.tuple #[.string S, .int .i64 f]) ∧ Hid (S.data.toList = l) ∧ Hid (Below w.heap.size w w')
theorem textq_at (n d : Int) (l : List UInt8) (w : World) (hT : RB w) (h : vB n d = true) (hl : textR n d = l) (h1 : -9223372036854775808 ≤ n) (h2 : n ≤ 9223372036854775807) (h3 : -9223372036854775808 ≤ d) (h4 : d ≤ 9223372036854775807) :
    Calls Tryz.prog 23 #[.agg #[.int .i64 n, .int .i64 d]] w (StrP l w) := by
  rw [← hl, ← textE_ok h]
  exact text_q n d w hT h1 h2 h3 h4
theorem number15_at (n d : Int) (l : List UInt8) (w : World) (h : vB n d = true) (hl : textR n d = l) : Calls Tryz.prog 28 #[.agg #[.int .i64 n, .int .i64 d]] w (StrP l w) := by
  rw [← hl]
  exact number_r15 n d w (vB_iff.1 h)

set_option maxHeartbeats 4000000 in
set_option maxRecDepth 100000 in
theorem range_no (a b c d : Int) (w : World) (k : R4 a b c d) (hv : (vB a b && vB c d) = false) : Calls Tryz.prog 9 #[.agg #[.int .i64 a, .int .i64 b, .int .i64 c, .int .i64 d]] w (StrE [] 1 w) := by
  have KR := Lib.hid k
  clear k
  obtain ⟨u, hu⟩ : ∃ u, vB a b = u := ⟨_, rfl⟩
  obtain ⟨v, hvv⟩ : ∃ u, vB c d = u := ⟨_, rfl⟩
  have HU := Lib.hid hu
  have HV := Lib.hid hvv
  rw [hu, hvv] at hv
  clear hu hvv
  go_enter Tryz.func9, Tryz.ntmps9
  go_wp2_with fail
  obtain ⟨w1, hw⟩ : ∃ z9 : World, z9 = (w.alloc (.cells #[.int .i64 a, .int .i64 b, .int .i64 c, .int .i64 d] 36)) := ⟨_, rfl⟩
  have HB1 := Lib.hid (show Below w.heap.size w w1 by rw [hw]; exact below_a1 _ _)
  have F1r := Lib.hid (show Blk w1 (w.heap.size) 36 #[.int .i64 a, .int .i64 b, .int .i64 c, .int .i64 d] by rw [hw]; exact Blk.new _ _ _)
  rw [← hw]
  clear hw
  obtain ⟨pr0, fr0, pr1, fr1, pr2, fr2, pr3, fr3⟩ := F1r.out.all4
  go_wp2_with fail
  refine (valid_q a b w1 KR.out.a1 KR.out.a2 KR.out.b1 KR.out.b2).mono ?_
  rw [HU.out]
  rintro e w2 ⟨rfl, HB2⟩
  have F2r := Lib.hid (F1r.out.belowW HB2.out)
  have HL2 := Lib.hid (HB1.out.trans (HB2.out.mono HB1.out.size))
  clear pr0 fr0 pr1 fr1 pr2 fr2 pr3 fr3
  obtain ⟨pr0, fr0, pr1, fr1, pr2, fr2, pr3, fr3⟩ := F2r.out.all4
  cases u with
  | false =>
   go_wp2_with fail
   refine bodyPost_ret (v := .tuple #[.string ⟨#[]⟩, .int .i64 1]) (by simp [results, Tryz.results9, go_sem]) rfl ?_
   exact ⟨_, rfl, Lib.hid rfl, HL2⟩
  | true =>
   obtain rfl : v = false := hv
   go_wp2_with fail
   refine (valid_q c d w2 KR.out.c1 KR.out.c2 KR.out.d1 KR.out.d2).mono ?_
   rw [HV.out]
   rintro e w3 ⟨rfl, HB3⟩
   have F3r := Lib.hid (F2r.out.belowW HB3.out)
   have HL3 := Lib.hid (HL2.out.trans (HB3.out.mono HL2.out.size))
   clear pr0 fr0 pr1 fr1 pr2 fr2 pr3 fr3
   obtain ⟨pr0, fr0, pr1, fr1, pr2, fr2, pr3, fr3⟩ := F3r.out.all4
   go_wp2_with fail
   refine bodyPost_ret (v := .tuple #[.string ⟨#[]⟩, .int .i64 1]) (by simp [results, Tryz.results9, go_sem]) rfl ?_
   exact ⟨_, rfl, Lib.hid rfl, HL3⟩

set_option maxHeartbeats 4000000 in
set_option maxRecDepth 100000 in
theorem range_yes (a b c d : Int) (w : World) (k : R4 a b c d) (hT : RB w) (hv : (vB a b && vB c d) = true) : Calls Tryz.prog 9 #[.agg #[.int .i64 a, .int .i64 b, .int .i64 c, .int .i64 d]] w (StrE (rangeT a b c d) 0 w) := by
  have KR := Lib.hid k
  have HT := Lib.hid hT
  clear k hT
  rw [Bool.and_eq_true] at hv
  have HU := Lib.hid hv.1
  have HV := Lib.hid hv.2
  have z1 := textR_len (vB_iff.1 hv.1)
  have z2 := textR_len (vB_iff.1 hv.2)
  obtain ⟨T1, hT1⟩ : ∃ t, textR a b = t := ⟨_, rfl⟩
  obtain ⟨T2, hT2⟩ : ∃ t, textR c d = t := ⟨_, rfl⟩
  have HT1 := Lib.hid hT1
  have HT2 := Lib.hid hT2
  have heq := run_eq_rat
  have HQ := Lib.hid (show rangeT a b c d = if a = c ∧ b = d then T1 else [91] ++ T1 ++ [44, 32] ++ T2 ++ [93] by unfold rangeT; rw [hT1, hT2])
  rw [hT1] at z1
  rw [hT2] at z2
  obtain ⟨s, hs⟩ : ∃ s, ((a == c) && (b == d)) = s := ⟨_, rfl⟩
  have HS := Lib.hid hs
  clear hv hT1 hT2
  go_enter Tryz.func9, Tryz.ntmps9
  go_wp2_with fail
  obtain ⟨w1, hw⟩ : ∃ z9 : World, z9 = (w.alloc (.cells #[.int .i64 a, .int .i64 b, .int .i64 c, .int .i64 d] 36)) := ⟨_, rfl⟩
  have HB1 := Lib.hid (show Below w.heap.size w w1 by rw [hw]; exact below_a1 _ _)
  have F1t := Lib.hid (HT.out.belowW HB1.out)
  have F1r := Lib.hid (show Blk w1 (w.heap.size) 36 #[.int .i64 a, .int .i64 b, .int .i64 c, .int .i64 d] by rw [hw]; exact Blk.new _ _ _)
  rw [← hw]
  clear hw
  obtain ⟨pr0, fr0, pr1, fr1, pr2, fr2, pr3, fr3⟩ := F1r.out.all4
  go_wp2_with fail
  refine (valid_q a b w1 KR.out.a1 KR.out.a2 KR.out.b1 KR.out.b2).mono ?_
  rw [HU.out]
  rintro e w2 ⟨rfl, HB2⟩
  have F2t := Lib.hid (F1t.out.belowW HB2.out)
  have F2r := Lib.hid (F1r.out.belowW HB2.out)
  have HL2 := Lib.hid (HB1.out.trans (HB2.out.mono HB1.out.size))
  clear pr0 fr0 pr1 fr1 pr2 fr2 pr3 fr3
  obtain ⟨pr0, fr0, pr1, fr1, pr2, fr2, pr3, fr3⟩ := F2r.out.all4
  go_wp2_with fail
  refine (valid_q c d w2 KR.out.c1 KR.out.c2 KR.out.d1 KR.out.d2).mono ?_
  rw [HV.out]
  rintro e w3 ⟨rfl, HB3⟩
  have F3t := Lib.hid (F2t.out.belowW HB3.out)
  have F3r := Lib.hid (F2r.out.belowW HB3.out)
  have HL3 := Lib.hid (HL2.out.trans (HB3.out.mono HL2.out.size))
  clear pr0 fr0 pr1 fr1 pr2 fr2 pr3 fr3
  obtain ⟨pr0, fr0, pr1, fr1, pr2, fr2, pr3, fr3⟩ := F3r.out.all4
  cases s with
  | true =>
   have HE := Lib.hid (show rangeT a b c d = T1 by rw [HQ.out, if_pos (by have := HS.out; rw [Bool.and_eq_true, beq_iff_eq, beq_iff_eq] at this; exact this)])
   go_wp2_with fail
   refine (textq_at a b T1 w3 F3t.out HU.out HT1.out KR.out.a1 KR.out.a2 KR.out.b1 KR.out.b2).mono ?_
   rintro e w4 ⟨S, rfl, HS1, HB4⟩
   have F4t := Lib.hid (F3t.out.belowW HB4.out)
   have F4r := Lib.hid (F3r.out.belowW HB4.out)
   have HL4 := Lib.hid (HL3.out.trans (HB4.out.mono HL3.out.size))
   go_wp2_with fail
   refine bodyPost_ret (v := .tuple #[.string S, .int .i64 0]) (by simp [results, Tryz.results9, go_sem]) rfl ?_
   exact ⟨S, rfl, Lib.hid (by rw [HE.out, HS1.out]), HL4⟩
  | false =>
   have HE := Lib.hid (show rangeT a b c d = [91] ++ T1 ++ [44, 32] ++ T2 ++ [93] by rw [HQ.out, if_neg (by have := HS.out; rw [Bool.and_eq_false_iff, beq_eq_false_iff_ne, beq_eq_false_iff_ne] at this; omega)])
   go_wp2_with fail
   have HR4 := Lib.hid (below_dr w3)
   have R4t := Lib.hid (F3t.out.belowW HR4.out)
   have R4r := Lib.hid (F3r.out.belowW HR4.out)
   refine wp_region_held_drew (S := fun w' => w'.cell? ⟨w.heap.size, 0, none⟩ = some (.int .i64 a) ∧ w'.cell? ⟨w.heap.size, 1, none⟩ = some (.int .i64 b) ∧ w'.cell? ⟨w.heap.size, 2, none⟩ = some (.int .i64 c) ∧ w'.cell? ⟨w.heap.size, 3, none⟩ = some (.int .i64 d)) (by kernel_rfl) ?_ (fun hHeld => ?_)
   case refine_1 => exact ⟨R4r.out.cell 0, R4r.out.cell 1, R4r.out.cell 2, R4r.out.cell 3⟩
   refine tkW 0 ?_
   refine tkW 1 ?_
   refine tkW 5 ?_
   refine tkW 6 ?_
   refine wpAnyH_ready (rs := [2]) (by kernel_rfl) (by simp) ?_
   refine AllReadyH.cons rfl (fun K hK => ?_) AllReadyH.nil
   go_simp
   (with_reducible refine (textq_at a b T1 _ R4t.out HU.out HT1.out KR.out.a1 KR.out.a2 KR.out.b1 KR.out.b2).mono ?_)
   rintro e w5 ⟨X, rfl, HX, HC5⟩
   have R5t := Lib.hid (R4t.out.belowW HC5.out)
   have R5r := Lib.hid (R4r.out.belowW HC5.out)
   have HR5 := Lib.hid (HR4.out.trans (HC5.out.mono HR4.out.size))
   have zx : X.size ≤ 43 := by rw [strp_size HX.out]; exact z1
   have x1 : ¬ (9223372036854775807 < 1 + X.size) := by omega
   have x2 : ¬ (9223372036854775807 < 1 + X.size + 2) := by omega
   go_wp2_with fail
   clear hHeld
   refine hK.out _ _ ?_ (fun hHeld => ?_)
   case refine_1 => exact ⟨R5r.out.cell 0, R5r.out.cell 1, R5r.out.cell 2, R5r.out.cell 3⟩
   clear hK K
   try simp only [qa, qb, qc]
   refine tkW 3 ?_
   refine tkW 4 ?_
   refine wpAnyH_ready (rs := [7]) (by kernel_rfl) (by simp) ?_
   refine AllReadyH.cons rfl (fun K hK => ?_) AllReadyH.nil
   go_simp
   (with_reducible refine (textq_at c d T2 _ R5t.out HV.out HT2.out KR.out.c1 KR.out.c2 KR.out.d1 KR.out.d2).mono ?_)
   rintro e w6 ⟨Y, rfl, HY, HC6⟩
   have R6t := Lib.hid (R5t.out.belowW HC6.out)
   have R6r := Lib.hid (R5r.out.belowW HC6.out)
   have HR6 := Lib.hid (HR5.out.trans (HC6.out.mono HR5.out.size))
   have zy : Y.size ≤ 43 := by rw [strp_size HY.out]; exact z2
   have y1 : ¬ (9223372036854775807 < 1 + X.size + 2 + Y.size) := by omega
   have y2 : ¬ (9223372036854775807 < 1 + X.size + 2 + Y.size + 1) := by omega
   go_wp2_with fail
   clear hHeld
   refine hK.out _ _ ?_ (fun hHeld => ?_)
   case refine_1 => exact ⟨R6r.out.cell 0, R6r.out.cell 1, R6r.out.cell 2, R6r.out.cell 3⟩
   clear hK K
   try simp only [qa, qb, qc]
   refine tkW 8 ?_
   refine tkW 9 ?_
   refine tkW 10 ?_
   refine tkW 11 ?_
   refine wpAnyH_done (by kernel_rfl) ?_ _
   have HL6 := Lib.hid (HL3.out.trans (HR6.out.mono HL3.out.size))
   go_wp2_with fail
   refine bodyPost_ret (v := .tuple #[.string (⟨#[91]⟩ ++ X ++ ⟨#[44, 32]⟩ ++ Y ++ ⟨#[93]⟩), .int .i64 0]) (by simp [results, Tryz.results9, go_sem]) rfl ?_
   exact ⟨_, rfl, Lib.hid (by rw [data_app, data_app, data_app, data_app, HX.out, HY.out, HE.out]), HL6⟩

set_option maxHeartbeats 4000000 in
set_option maxRecDepth 100000 in
theorem validRange_r (a b c d : Int) (w : World) (k : R4 a b c d) : Calls Tryz.prog 10 #[.agg #[.int .i64 a, .int .i64 b, .int .i64 c, .int .i64 d]] w (Ret (.bool (vB a b && vB c d)) w) := by
  have KR := Lib.hid k
  clear k
  obtain ⟨u, hu⟩ : ∃ u, vB a b = u := ⟨_, rfl⟩
  obtain ⟨v, hv⟩ : ∃ u, vB c d = u := ⟨_, rfl⟩
  have HU := Lib.hid hu
  have HV := Lib.hid hv
  rw [hu, hv]
  clear hu hv
  go_enter Tryz.func10, Tryz.ntmps10
  go_wp2_with fail
  obtain ⟨w1, hw⟩ : ∃ z9 : World, z9 = (w.alloc (.cells #[.int .i64 a, .int .i64 b, .int .i64 c, .int .i64 d] 36)) := ⟨_, rfl⟩
  have HB1 := Lib.hid (show Below w.heap.size w w1 by rw [hw]; exact below_a1 _ _)
  have F1r := Lib.hid (show Blk w1 (w.heap.size) 36 #[.int .i64 a, .int .i64 b, .int .i64 c, .int .i64 d] by rw [hw]; exact Blk.new _ _ _)
  rw [← hw]
  clear hw
  obtain ⟨pr0, fr0, pr1, fr1, pr2, fr2, pr3, fr3⟩ := F1r.out.all4
  go_wp2_with fail
  refine (valid_r a b w1 KR.out.a1 KR.out.a2 KR.out.b1 KR.out.b2).mono ?_
  rw [HU.out]
  rintro e w2 ⟨rfl, HB2⟩
  have F2r := Lib.hid (F1r.out.belowW HB2.out)
  have HL2 := Lib.hid (HB1.out.trans (HB2.out.mono HB1.out.size))
  clear pr0 fr0 pr1 fr1 pr2 fr2 pr3 fr3
  obtain ⟨pr0, fr0, pr1, fr1, pr2, fr2, pr3, fr3⟩ := F2r.out.all4
  cases u with
  | false =>
   go_wp2_with fail
   go_ret
   exact ⟨rfl, HL2⟩
  | true =>
   go_wp2_with fail
   refine (valid_r c d w2 KR.out.c1 KR.out.c2 KR.out.d1 KR.out.d2).mono ?_
   rw [HV.out]
   rintro e w3 ⟨rfl, HB3⟩
   have F3r := Lib.hid (F2r.out.belowW HB3.out)
   have HL3 := Lib.hid (HL2.out.trans (HB3.out.mono HL2.out.size))
   clear pr0 fr0 pr1 fr1 pr2 fr2 pr3 fr3
   obtain ⟨pr0, fr0, pr1, fr1, pr2, fr2, pr3, fr3⟩ := F3r.out.all4
   go_wp2_with fail
   go_ret
   exact ⟨rfl, HL3⟩

set_option maxHeartbeats 4000000 in
set_option maxRecDepth 100000 in
theorem range_r (a b c d : Int) (w : World) (k : R4 a b c d) (hv : (vB a b && vB c d) = true) : Calls Tryz.prog 11 #[.agg #[.int .i64 a, .int .i64 b, .int .i64 c, .int .i64 d]] w (StrP (rangeT a b c d) w) := by
  clear k
  rw [Bool.and_eq_true] at hv
  have HU := Lib.hid hv.1
  have HV := Lib.hid hv.2
  have z1 := textR_len (vB_iff.1 hv.1)
  have z2 := textR_len (vB_iff.1 hv.2)
  obtain ⟨T1, hT1⟩ : ∃ t, textR a b = t := ⟨_, rfl⟩
  obtain ⟨T2, hT2⟩ : ∃ t, textR c d = t := ⟨_, rfl⟩
  have HT1 := Lib.hid hT1
  have HT2 := Lib.hid hT2
  have heq := run_eq_rat
  have HQ := Lib.hid (show rangeT a b c d = if a = c ∧ b = d then T1 else [91] ++ T1 ++ [44, 32] ++ T2 ++ [93] by unfold rangeT; rw [hT1, hT2])
  rw [hT1] at z1
  rw [hT2] at z2
  obtain ⟨s, hs⟩ : ∃ s, ((a == c) && (b == d)) = s := ⟨_, rfl⟩
  have HS := Lib.hid hs
  clear hv hT1 hT2
  cases s with
  | true =>
   have HE := Lib.hid (show rangeT a b c d = T1 by rw [HQ.out, if_pos (by have := HS.out; rw [Bool.and_eq_true, beq_iff_eq, beq_iff_eq] at this; exact this)])
   go_enter Tryz.func11, Tryz.ntmps11
   go_wp2_with fail
   obtain ⟨w1, hw⟩ : ∃ z9 : World, z9 = (w.alloc (.cells #[.int .i64 a, .int .i64 b, .int .i64 c, .int .i64 d] 36)) := ⟨_, rfl⟩
   have HB1 := Lib.hid (show Below w.heap.size w w1 by rw [hw]; exact below_a1 _ _)
   have F1r := Lib.hid (show Blk w1 (w.heap.size) 36 #[.int .i64 a, .int .i64 b, .int .i64 c, .int .i64 d] by rw [hw]; exact Blk.new _ _ _)
   rw [← hw]
   clear hw
   refine (number15_at a b T1 w1 HU.out HT1.out).mono ?_
   rintro e w2 ⟨S, rfl, HS1, HB2⟩
   have F2r := Lib.hid (F1r.out.belowW HB2.out)
   have HL2 := Lib.hid (HB1.out.trans (HB2.out.mono HB1.out.size))
   go_wp2_with fail
   go_ret
   exact ⟨S, rfl, Lib.hid (by rw [HE.out, HS1.out]), HL2⟩
  | false =>
   have HE := Lib.hid (show rangeT a b c d = [91] ++ T1 ++ [44, 32] ++ T2 ++ [93] by rw [HQ.out, if_neg (by have := HS.out; rw [Bool.and_eq_false_iff, beq_eq_false_iff_ne, beq_eq_false_iff_ne] at this; omega)])
   go_enter Tryz.func11, Tryz.ntmps11
   go_wp2_with fail
   obtain ⟨w1, hw⟩ : ∃ z9 : World, z9 = (w.alloc (.cells #[.int .i64 a, .int .i64 b, .int .i64 c, .int .i64 d] 36)) := ⟨_, rfl⟩
   have HB1 := Lib.hid (show Below w.heap.size w w1 by rw [hw]; exact below_a1 _ _)
   have F1r := Lib.hid (show Blk w1 (w.heap.size) 36 #[.int .i64 a, .int .i64 b, .int .i64 c, .int .i64 d] by rw [hw]; exact Blk.new _ _ _)
   rw [← hw]
   clear hw
   have HR2 := Lib.hid (below_dr w1)
   have R2r := Lib.hid (F1r.out.belowW HR2.out)
   refine wp_region_held_drew (S := fun w' => w'.cell? ⟨w.heap.size, 0, none⟩ = some (.int .i64 a) ∧ w'.cell? ⟨w.heap.size, 1, none⟩ = some (.int .i64 b) ∧ w'.cell? ⟨w.heap.size, 2, none⟩ = some (.int .i64 c) ∧ w'.cell? ⟨w.heap.size, 3, none⟩ = some (.int .i64 d)) (by kernel_rfl) ?_ (fun hHeld => ?_)
   case refine_1 => exact ⟨R2r.out.cell 0, R2r.out.cell 1, R2r.out.cell 2, R2r.out.cell 3⟩
   refine tkW 0 ?_
   refine tkW 1 ?_
   refine tkW 5 ?_
   refine tkW 6 ?_
   refine wpAnyH_ready (rs := [2]) (by kernel_rfl) (by simp) ?_
   refine AllReadyH.cons rfl (fun K hK => ?_) AllReadyH.nil
   go_simp
   (with_reducible refine (number15_at a b T1 _ HU.out HT1.out).mono ?_)
   rintro e w3 ⟨X, rfl, HX, HC3⟩
   have R3r := Lib.hid (R2r.out.belowW HC3.out)
   have HR3 := Lib.hid (HR2.out.trans (HC3.out.mono HR2.out.size))
   have zx : X.size ≤ 43 := by rw [strp_size HX.out]; exact z1
   have x1 : ¬ (9223372036854775807 < 1 + X.size) := by omega
   have x2 : ¬ (9223372036854775807 < 1 + X.size + 2) := by omega
   go_wp2_with fail
   clear hHeld
   refine hK.out _ _ ?_ (fun hHeld => ?_)
   case refine_1 => exact ⟨R3r.out.cell 0, R3r.out.cell 1, R3r.out.cell 2, R3r.out.cell 3⟩
   clear hK K
   try simp only [qa, qb, qc]
   refine tkW 3 ?_
   refine tkW 4 ?_
   refine wpAnyH_ready (rs := [7]) (by kernel_rfl) (by simp) ?_
   refine AllReadyH.cons rfl (fun K hK => ?_) AllReadyH.nil
   go_simp
   (with_reducible refine (number15_at c d T2 _ HV.out HT2.out).mono ?_)
   rintro e w4 ⟨Y, rfl, HY, HC4⟩
   have R4r := Lib.hid (R3r.out.belowW HC4.out)
   have HR4 := Lib.hid (HR3.out.trans (HC4.out.mono HR3.out.size))
   have zy : Y.size ≤ 43 := by rw [strp_size HY.out]; exact z2
   have y1 : ¬ (9223372036854775807 < 1 + X.size + 2 + Y.size) := by omega
   have y2 : ¬ (9223372036854775807 < 1 + X.size + 2 + Y.size + 1) := by omega
   go_wp2_with fail
   clear hHeld
   refine hK.out _ _ ?_ (fun hHeld => ?_)
   case refine_1 => exact ⟨R4r.out.cell 0, R4r.out.cell 1, R4r.out.cell 2, R4r.out.cell 3⟩
   clear hK K
   try simp only [qa, qb, qc]
   refine tkW 8 ?_
   refine tkW 9 ?_
   refine tkW 10 ?_
   refine wpAnyH_done (by kernel_rfl) ?_ _
   have HL4 := Lib.hid (HB1.out.trans (HR4.out.mono HB1.out.size))
   go_wp2_with fail
   go_ret
   exact ⟨_, rfl, Lib.hid (by rw [data_app, data_app, data_app, data_app, HX.out, HY.out, HE.out]), HL4⟩
end Go.Proofs.YtoogeihbhhcpaaaGreatDoor
