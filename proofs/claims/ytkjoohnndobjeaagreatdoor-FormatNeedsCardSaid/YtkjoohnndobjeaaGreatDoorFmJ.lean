/-
  The walk of the program's text of an expression, kind by kind.
-/
import Derived.Test.YtkjoohnndobjeaaGreatDoorFmI
import Derived.Test.YtkjoohnndobjeaaGreatDoorQH
set_option linter.unusedVariables false
namespace Go.Proofs.YtkjoohnndobjeaaGreatDoor
open Go.RowKit Go.Fl Go.Fl.Nm Go.Fl.Fm Go.Fl.Rt
open List renaming setIfInBounds_toArray → qa, set_cons_zero → qb, set_cons_succ → qc, getElem_toArray → qd, getElem_cons_zero → qe, getElem_cons_succ → qf

set_option maxHeartbeats 8000000 in
set_option maxRecDepth 100000 in
theorem expr_k7 (f : Nat) (ih : ExprAt f) (T : TE) (v : Nd) (w : World) (hin : InE w T v) (hg : good nameP (f + 1) T) (hl : (txt (f + 1) T).length ≤ 20000) (ht : RB w) (hk : v.h.kind = 7) :
    Calls Tryz.prog 55 #[v.val] w (StrP (txt (f + 1) T) w) := by
 have hnd := hg.1
 rw [hin.hd, hin.length] at hnd
 have hlen : v.len = 1 := by rcases node_kinds hnd with h | h | h | h | h | h <;> omega
 have hl1 : T.l.length = 1 := by rw [hin.length]; exact hlen
 obtain ⟨T1, hT⟩ := list1 hl1
 have hTa : T.a = T1 := by unfold TE.a; rw [hT]; rfl
 have hga : good nameP f T.a := hg.2 _ (by rw [hTa, hT]; exact List.mem_cons_self ..)
 have HGA := Lib.hid hga
 have HT := Lib.hid ht
 have IH := Lib.hid ih
 have hTk : T.h.kind = v.h.kind := by rw [hin.hd]
 have hTn : T.h.k = v.h.k := by rw [hin.hd]
 have HOK := Lib.hid hin.ok
 obtain ⟨b, o, x, hA, hx, ex⟩ := hin.one hlen
 have hxh : T.a.h = x.h := hx.hd
 have HTX := Lib.hid (show txt (f + 1) T = 45 :: par (needM x.h) (txt f T.a) by
   show (if _ then _ else _) = _
   rw [hTk, hk, if_neg (by decide), if_neg (by decide), if_neg (by decide), if_pos rfl, hxh])
 have HX := Lib.hid hx
 have EX := Lib.hid ex
 obtain ⟨la, hla⟩ : ∃ z, z = txt f T.a := ⟨_, rfl⟩
 obtain ⟨L, hL⟩ : ∃ z, z = txt (f + 1) T := ⟨_, rfl⟩
 rw [← hla, ← hL] at HTX
 rw [← hL] at hl ⊢
 obtain ⟨nd, hnd2⟩ : ∃ z, z = needM x.h := ⟨_, rfl⟩
 rw [← hnd2] at HTX
 have hlen3 : 1 + (par nd la).length ≤ 20000 := by
   have h := congrArg List.length HTX.out
   rw [List.length_cons] at h
   omega
 have hplb := (par_len nd la).1
 have c1 : ¬ (9223372036854775807 < 1 + (par nd la).length) := by omega
 have HND := Lib.hid hnd2
 clear hnd2
 have HLA := Lib.hid (show (txt f T.a).length ≤ 20000 by rw [← hla]; omega)
 have HQA := Lib.hid hla
 clear hla hL hin hg hl ht ih hx ex hga hT hTa hl1 hnd hTk hTn hxh
 obtain ⟨⟨kd, n, d, nm, k⟩, A, len, cap⟩ := v
 simp only at hk hA hlen HOK HTX
 subst hA hlen
 subst hk
 simp only [Nd.val]
 cases cs : sumK x.h.kind with
 | false =>
  cases cp : prodK x.h.kind with
  | false =>
   cases cb : brok x.h with
   | false =>
    cases cw : whl x.h with
    | false =>
     have HN2 := Lib.hid (show nd = false by rw [HND.out]; unfold needM; rw [cs, cp, cb, cw]; rfl)
     rw [HN2.out] at c1 HTX hplb
     have Hcs := Lib.hid cs
     have Hcp := Lib.hid cp
     have Hcb := Lib.hid cb
     have Hcw := Lib.hid cw
     clear cs cp cb cw
     go_enter Tryz.func55, Tryz.ntmps55
     go_upto_region 1 with (fail)
     obtain ⟨w1, hw⟩ : ∃ z9 : World, z9 = w.alloc (.cells #[.int .i64 7, .int .i64 n, .int .i64 d, .string nm, .int .i64 k, .slice (some ⟨b, o, none⟩) 1 cap] 29) := ⟨_, rfl⟩
     have HB1 := Lib.hid (show Below w.heap.size w w1 by rw [hw]; exact below_box _ _)
     have F1bx := Lib.hid (show Blk w1 w.heap.size 29 #[.int .i64 7, .int .i64 n, .int .i64 d, .string nm, .int .i64 k, .slice (some ⟨b, o, none⟩) 1 cap] by rw [hw]; exact Blk.new _ _ _)
     rw [← hw]
     clear hw
     have F1t := Lib.hid (HT.out.belowW HB1.out)
     have F1i0 := Lib.hid (HX.out.belowW HB1.out)
     have F1e0 := Lib.hid (EX.out.belowW HB1.out)
     have pk : w1.cell? ⟨w.heap.size, 0, none⟩ = some (.int .i64 7) := F1bx.out.cell 0
     have p5 : w1.cell? ⟨w.heap.size, 5, none⟩ = some (.slice (some ⟨b, o, none⟩) 1 cap) := F1bx.out.cell 5
     have q0 : w1.cell? ⟨b, o, none⟩ = some (.int .i64 x.h.kind) := F1e0.out.c0
     have q1 : w1.cell? ⟨b, o + 1, none⟩ = some (.int .i64 x.h.n) := F1e0.out.c1
     have q2 : w1.cell? ⟨b, o + 2, none⟩ = some (.int .i64 x.h.d) := F1e0.out.c2
     have q3 : w1.cell? ⟨b, o + 3, none⟩ = some (.string x.h.name) := F1e0.out.c3
     have q4 : w1.cell? ⟨b, o + 4, none⟩ = some (.int .i64 x.h.k) := F1e0.out.c4
     have q5 : w1.cell? ⟨b, o + 5, none⟩ = some (.slice x.A x.len x.cap) := F1e0.out.c5
     go_upto_region 22 with (fail)
     clear pk p5 q0 q1 q2 q3 q4 q5
     obtain ⟨w2, hw⟩ : ∃ z9 : World, z9 = w1.alloc (.cells #[.int .i64 x.h.kind, .int .i64 x.h.n, .int .i64 x.h.d, .string x.h.name, .int .i64 x.h.k, .slice x.A x.len x.cap] 29) := ⟨_, rfl⟩
     have HB2 := Lib.hid (show Below w1.heap.size w1 w2 by rw [hw]; exact below_box _ _)
     have F2ba := Lib.hid (show Blk w2 w1.heap.size 29 #[.int .i64 x.h.kind, .int .i64 x.h.n, .int .i64 x.h.d, .string x.h.name, .int .i64 x.h.k, .slice x.A x.len x.cap] by rw [hw]; exact Blk.new _ _ _)
     rw [← hw]
     clear hw
     have F2t := Lib.hid (F1t.out.belowW HB2.out)
     have F2i0 := Lib.hid (F1i0.out.belowW HB2.out)
     have F2e0 := Lib.hid (F1e0.out.belowW HB2.out)
     have F2bx := Lib.hid (F1bx.out.belowW HB2.out)
     have HL2 := Lib.hid (HB1.out.trans (HB2.out.mono HB1.out.size))
     have HR3 := Lib.hid (below_dr w2)
     have R3t := Lib.hid (F2t.out.belowW HR3.out)
     have R3i0 := Lib.hid (F2i0.out.belowW HR3.out)
     have R3e0 := Lib.hid (F2e0.out.belowW HR3.out)
     have R3bx := Lib.hid (F2bx.out.belowW HR3.out)
     have R3ba := Lib.hid (F2ba.out.belowW HR3.out)
     refine wp_region_held_drew (S := fun w' => w'.cell? ⟨w1.heap.size, 0, none⟩ = some (.int .i64 x.h.kind) ∧ w'.cell? ⟨w1.heap.size, 1, none⟩ = some (.int .i64 x.h.n) ∧ w'.cell? ⟨w1.heap.size, 2, none⟩ = some (.int .i64 x.h.d) ∧ w'.cell? ⟨w1.heap.size, 3, none⟩ = some (.string x.h.name) ∧ w'.cell? ⟨w1.heap.size, 4, none⟩ = some (.int .i64 x.h.k) ∧ w'.cell? ⟨w1.heap.size, 5, none⟩ = some (.slice x.A x.len x.cap)) (by kernel_rfl) ?_ (fun hHeld => ?_)
     case refine_1 => exact ⟨R3ba.out.cell 0, R3ba.out.cell 1, R3ba.out.cell 2, R3ba.out.cell 3, R3ba.out.cell 4, R3ba.out.cell 5⟩
     refine tkW 0 ?_
     refine tkW 1 ?_
     refine wpAnyH_ready (rs := [2]) (by kernel_rfl) (by simp) ?_
     refine AllReadyH.cons rfl (fun K hK => ?_) AllReadyH.nil
     go_simp
     (with_reducible refine (sum_p x _).mono ?_)
     rw [Hcs.out]
     rintro e w4 ⟨rfl, HC4⟩
     have R4t := Lib.hid (R3t.out.belowW HC4.out)
     have R4i0 := Lib.hid (R3i0.out.belowW HC4.out)
     have R4e0 := Lib.hid (R3e0.out.belowW HC4.out)
     have R4bx := Lib.hid (R3bx.out.belowW HC4.out)
     have R4ba := Lib.hid (R3ba.out.belowW HC4.out)
     have HR4 := Lib.hid (HR3.out.trans (HC4.out.mono HR3.out.size))
     go_wp2_with fail
     clear hHeld
     refine hK.out _ _ ?_ (fun hHeld => ?_)
     case refine_1 => exact ⟨R4ba.out.cell 0, R4ba.out.cell 1, R4ba.out.cell 2, R4ba.out.cell 3, R4ba.out.cell 4, R4ba.out.cell 5⟩
     clear hK K
     try simp only [qa, qb, qc]
     refine tkW 3 ?_
     refine tkW 4 ?_
     refine wpAnyH_ready (rs := [5]) (by kernel_rfl) (by simp) ?_
     refine AllReadyH.cons rfl (fun K hK => ?_) AllReadyH.nil
     go_simp
     (with_reducible refine (prod_p x _).mono ?_)
     rw [Hcp.out]
     rintro e w5 ⟨rfl, HC5⟩
     have R5t := Lib.hid (R4t.out.belowW HC5.out)
     have R5i0 := Lib.hid (R4i0.out.belowW HC5.out)
     have R5e0 := Lib.hid (R4e0.out.belowW HC5.out)
     have R5bx := Lib.hid (R4bx.out.belowW HC5.out)
     have R5ba := Lib.hid (R4ba.out.belowW HC5.out)
     have HR5 := Lib.hid (HR4.out.trans (HC5.out.mono HR4.out.size))
     go_wp2_with fail
     clear hHeld
     refine hK.out _ _ ?_ (fun hHeld => ?_)
     case refine_1 => exact ⟨R5ba.out.cell 0, R5ba.out.cell 1, R5ba.out.cell 2, R5ba.out.cell 3, R5ba.out.cell 4, R5ba.out.cell 5⟩
     clear hK K
     try simp only [qa, qb, qc]
     refine tkW 6 ?_
     refine tkW 7 ?_
     refine tkW 8 ?_
     refine wpAnyH_ready (rs := [9]) (by kernel_rfl) (by simp) ?_
     refine AllReadyH.cons rfl (fun K hK => ?_) AllReadyH.nil
     go_simp
     (with_reducible refine (brok_p x _).mono ?_)
     rw [Hcb.out]
     rintro e w6 ⟨rfl, HC6⟩
     have R6t := Lib.hid (R5t.out.belowW HC6.out)
     have R6i0 := Lib.hid (R5i0.out.belowW HC6.out)
     have R6e0 := Lib.hid (R5e0.out.belowW HC6.out)
     have R6bx := Lib.hid (R5bx.out.belowW HC6.out)
     have R6ba := Lib.hid (R5ba.out.belowW HC6.out)
     have HR6 := Lib.hid (HR5.out.trans (HC6.out.mono HR5.out.size))
     go_wp2_with fail
     clear hHeld
     refine hK.out _ _ ?_ (fun hHeld => ?_)
     case refine_1 => exact ⟨R6ba.out.cell 0, R6ba.out.cell 1, R6ba.out.cell 2, R6ba.out.cell 3, R6ba.out.cell 4, R6ba.out.cell 5⟩
     clear hK K
     try simp only [qa, qb, qc]
     refine tkW 10 ?_
     refine tkW 11 ?_
     refine tkW 12 ?_
     refine wpAnyH_ready (rs := [13]) (by kernel_rfl) (by simp) ?_
     refine AllReadyH.cons rfl (fun K hK => ?_) AllReadyH.nil
     go_simp
     (with_reducible refine (whl_p x _).mono ?_)
     rw [Hcw.out]
     rintro e w7 ⟨rfl, HC7⟩
     have R7t := Lib.hid (R6t.out.belowW HC7.out)
     have R7i0 := Lib.hid (R6i0.out.belowW HC7.out)
     have R7e0 := Lib.hid (R6e0.out.belowW HC7.out)
     have R7bx := Lib.hid (R6bx.out.belowW HC7.out)
     have R7ba := Lib.hid (R6ba.out.belowW HC7.out)
     have HR7 := Lib.hid (HR6.out.trans (HC7.out.mono HR6.out.size))
     go_wp2_with fail
     clear hHeld
     refine hK.out _ _ ?_ (fun hHeld => ?_)
     case refine_1 => exact ⟨R7ba.out.cell 0, R7ba.out.cell 1, R7ba.out.cell 2, R7ba.out.cell 3, R7ba.out.cell 4, R7ba.out.cell 5⟩
     clear hK K
     try simp only [qa, qb, qc]
     refine tkW 14 ?_
     refine tkV 15 ?_
     refine tkV 16 ?_
     refine tkV 17 ?_
     refine tkV 18 ?_
     refine tkW 19 ?_
     refine tkW 20 ?_
     refine wpAnyH_ready (rs := [21]) (by kernel_rfl) (by simp) ?_
     refine AllReadyH.cons rfl (fun K hK => ?_) AllReadyH.nil
     go_simp
     (with_reducible refine (operand_at f IH.out T.a x _ false R7i0.out HGA.out HLA.out R7t.out).mono ?_)
     rintro e w8 ⟨S1, rfl, HS1, HC8⟩
     have R8t := Lib.hid (R7t.out.belowW HC8.out)
     have R8i0 := Lib.hid (R7i0.out.belowW HC8.out)
     have R8e0 := Lib.hid (R7e0.out.belowW HC8.out)
     have R8bx := Lib.hid (R7bx.out.belowW HC8.out)
     have R8ba := Lib.hid (R7ba.out.belowW HC8.out)
     have HR8 := Lib.hid (HR7.out.trans (HC8.out.mono HR7.out.size))
     have hS1 : S1.size = (par false la).length := by rw [strp_size HS1.out, ← HQA.out]
     go_wp2_with fail
     clear hHeld
     refine hK.out _ _ ?_ (fun hHeld => ?_)
     case refine_1 => exact ⟨R8ba.out.cell 0, R8ba.out.cell 1, R8ba.out.cell 2, R8ba.out.cell 3, R8ba.out.cell 4, R8ba.out.cell 5⟩
     clear hK K
     try simp only [qa, qb, qc]
     refine tkW 22 ?_
     refine tkW 23 ?_
     refine wpAnyH_done (by kernel_rfl) ?_ _
     have HL8 := Lib.hid (HL2.out.trans (HR8.out.mono HL2.out.size))
     go_wp2_with fail
     go_ret
     exact ⟨_, rfl, Lib.hid (by rw [data_app, HS1.out, ← HQA.out, HTX.out]; rfl), HL8⟩
    | true =>
     cases cn : decide (0 ≤ x.h.n) with
     | false =>
      have HN2 := Lib.hid (show nd = false by rw [HND.out]; unfold needM; rw [cs, cp, cb, cw, cn]; rfl)
      rw [HN2.out] at c1 HTX hplb
      have Hcs := Lib.hid cs
      have Hcp := Lib.hid cp
      have Hcb := Lib.hid cb
      have Hcw := Lib.hid cw
      clear cs cp cb cw
      go_enter Tryz.func55, Tryz.ntmps55
      go_upto_region 1 with (fail)
      obtain ⟨w1, hw⟩ : ∃ z9 : World, z9 = w.alloc (.cells #[.int .i64 7, .int .i64 n, .int .i64 d, .string nm, .int .i64 k, .slice (some ⟨b, o, none⟩) 1 cap] 29) := ⟨_, rfl⟩
      have HB1 := Lib.hid (show Below w.heap.size w w1 by rw [hw]; exact below_box _ _)
      have F1bx := Lib.hid (show Blk w1 w.heap.size 29 #[.int .i64 7, .int .i64 n, .int .i64 d, .string nm, .int .i64 k, .slice (some ⟨b, o, none⟩) 1 cap] by rw [hw]; exact Blk.new _ _ _)
      rw [← hw]
      clear hw
      have F1t := Lib.hid (HT.out.belowW HB1.out)
      have F1i0 := Lib.hid (HX.out.belowW HB1.out)
      have F1e0 := Lib.hid (EX.out.belowW HB1.out)
      have pk : w1.cell? ⟨w.heap.size, 0, none⟩ = some (.int .i64 7) := F1bx.out.cell 0
      have p5 : w1.cell? ⟨w.heap.size, 5, none⟩ = some (.slice (some ⟨b, o, none⟩) 1 cap) := F1bx.out.cell 5
      have q0 : w1.cell? ⟨b, o, none⟩ = some (.int .i64 x.h.kind) := F1e0.out.c0
      have q1 : w1.cell? ⟨b, o + 1, none⟩ = some (.int .i64 x.h.n) := F1e0.out.c1
      have q2 : w1.cell? ⟨b, o + 2, none⟩ = some (.int .i64 x.h.d) := F1e0.out.c2
      have q3 : w1.cell? ⟨b, o + 3, none⟩ = some (.string x.h.name) := F1e0.out.c3
      have q4 : w1.cell? ⟨b, o + 4, none⟩ = some (.int .i64 x.h.k) := F1e0.out.c4
      have q5 : w1.cell? ⟨b, o + 5, none⟩ = some (.slice x.A x.len x.cap) := F1e0.out.c5
      go_upto_region 22 with (fail)
      clear pk p5 q0 q1 q2 q3 q4 q5
      obtain ⟨w2, hw⟩ : ∃ z9 : World, z9 = w1.alloc (.cells #[.int .i64 x.h.kind, .int .i64 x.h.n, .int .i64 x.h.d, .string x.h.name, .int .i64 x.h.k, .slice x.A x.len x.cap] 29) := ⟨_, rfl⟩
      have HB2 := Lib.hid (show Below w1.heap.size w1 w2 by rw [hw]; exact below_box _ _)
      have F2ba := Lib.hid (show Blk w2 w1.heap.size 29 #[.int .i64 x.h.kind, .int .i64 x.h.n, .int .i64 x.h.d, .string x.h.name, .int .i64 x.h.k, .slice x.A x.len x.cap] by rw [hw]; exact Blk.new _ _ _)
      rw [← hw]
      clear hw
      have F2t := Lib.hid (F1t.out.belowW HB2.out)
      have F2i0 := Lib.hid (F1i0.out.belowW HB2.out)
      have F2e0 := Lib.hid (F1e0.out.belowW HB2.out)
      have F2bx := Lib.hid (F1bx.out.belowW HB2.out)
      have HL2 := Lib.hid (HB1.out.trans (HB2.out.mono HB1.out.size))
      have HR3 := Lib.hid (below_dr w2)
      have R3t := Lib.hid (F2t.out.belowW HR3.out)
      have R3i0 := Lib.hid (F2i0.out.belowW HR3.out)
      have R3e0 := Lib.hid (F2e0.out.belowW HR3.out)
      have R3bx := Lib.hid (F2bx.out.belowW HR3.out)
      have R3ba := Lib.hid (F2ba.out.belowW HR3.out)
      refine wp_region_held_drew (S := fun w' => w'.cell? ⟨w1.heap.size, 0, none⟩ = some (.int .i64 x.h.kind) ∧ w'.cell? ⟨w1.heap.size, 1, none⟩ = some (.int .i64 x.h.n) ∧ w'.cell? ⟨w1.heap.size, 2, none⟩ = some (.int .i64 x.h.d) ∧ w'.cell? ⟨w1.heap.size, 3, none⟩ = some (.string x.h.name) ∧ w'.cell? ⟨w1.heap.size, 4, none⟩ = some (.int .i64 x.h.k) ∧ w'.cell? ⟨w1.heap.size, 5, none⟩ = some (.slice x.A x.len x.cap)) (by kernel_rfl) ?_ (fun hHeld => ?_)
      case refine_1 => exact ⟨R3ba.out.cell 0, R3ba.out.cell 1, R3ba.out.cell 2, R3ba.out.cell 3, R3ba.out.cell 4, R3ba.out.cell 5⟩
      refine tkW 0 ?_
      refine tkW 1 ?_
      refine wpAnyH_ready (rs := [2]) (by kernel_rfl) (by simp) ?_
      refine AllReadyH.cons rfl (fun K hK => ?_) AllReadyH.nil
      go_simp
      (with_reducible refine (sum_p x _).mono ?_)
      rw [Hcs.out]
      rintro e w4 ⟨rfl, HC4⟩
      have R4t := Lib.hid (R3t.out.belowW HC4.out)
      have R4i0 := Lib.hid (R3i0.out.belowW HC4.out)
      have R4e0 := Lib.hid (R3e0.out.belowW HC4.out)
      have R4bx := Lib.hid (R3bx.out.belowW HC4.out)
      have R4ba := Lib.hid (R3ba.out.belowW HC4.out)
      have HR4 := Lib.hid (HR3.out.trans (HC4.out.mono HR3.out.size))
      go_wp2_with fail
      clear hHeld
      refine hK.out _ _ ?_ (fun hHeld => ?_)
      case refine_1 => exact ⟨R4ba.out.cell 0, R4ba.out.cell 1, R4ba.out.cell 2, R4ba.out.cell 3, R4ba.out.cell 4, R4ba.out.cell 5⟩
      clear hK K
      try simp only [qa, qb, qc]
      refine tkW 3 ?_
      refine tkW 4 ?_
      refine wpAnyH_ready (rs := [5]) (by kernel_rfl) (by simp) ?_
      refine AllReadyH.cons rfl (fun K hK => ?_) AllReadyH.nil
      go_simp
      (with_reducible refine (prod_p x _).mono ?_)
      rw [Hcp.out]
      rintro e w5 ⟨rfl, HC5⟩
      have R5t := Lib.hid (R4t.out.belowW HC5.out)
      have R5i0 := Lib.hid (R4i0.out.belowW HC5.out)
      have R5e0 := Lib.hid (R4e0.out.belowW HC5.out)
      have R5bx := Lib.hid (R4bx.out.belowW HC5.out)
      have R5ba := Lib.hid (R4ba.out.belowW HC5.out)
      have HR5 := Lib.hid (HR4.out.trans (HC5.out.mono HR4.out.size))
      go_wp2_with fail
      clear hHeld
      refine hK.out _ _ ?_ (fun hHeld => ?_)
      case refine_1 => exact ⟨R5ba.out.cell 0, R5ba.out.cell 1, R5ba.out.cell 2, R5ba.out.cell 3, R5ba.out.cell 4, R5ba.out.cell 5⟩
      clear hK K
      try simp only [qa, qb, qc]
      refine tkW 6 ?_
      refine tkW 7 ?_
      refine tkW 8 ?_
      refine wpAnyH_ready (rs := [9]) (by kernel_rfl) (by simp) ?_
      refine AllReadyH.cons rfl (fun K hK => ?_) AllReadyH.nil
      go_simp
      (with_reducible refine (brok_p x _).mono ?_)
      rw [Hcb.out]
      rintro e w6 ⟨rfl, HC6⟩
      have R6t := Lib.hid (R5t.out.belowW HC6.out)
      have R6i0 := Lib.hid (R5i0.out.belowW HC6.out)
      have R6e0 := Lib.hid (R5e0.out.belowW HC6.out)
      have R6bx := Lib.hid (R5bx.out.belowW HC6.out)
      have R6ba := Lib.hid (R5ba.out.belowW HC6.out)
      have HR6 := Lib.hid (HR5.out.trans (HC6.out.mono HR5.out.size))
      go_wp2_with fail
      clear hHeld
      refine hK.out _ _ ?_ (fun hHeld => ?_)
      case refine_1 => exact ⟨R6ba.out.cell 0, R6ba.out.cell 1, R6ba.out.cell 2, R6ba.out.cell 3, R6ba.out.cell 4, R6ba.out.cell 5⟩
      clear hK K
      try simp only [qa, qb, qc]
      refine tkW 10 ?_
      refine tkW 11 ?_
      refine tkW 12 ?_
      refine wpAnyH_ready (rs := [13]) (by kernel_rfl) (by simp) ?_
      refine AllReadyH.cons rfl (fun K hK => ?_) AllReadyH.nil
      go_simp
      (with_reducible refine (whl_p x _).mono ?_)
      rw [Hcw.out]
      rintro e w7 ⟨rfl, HC7⟩
      have R7t := Lib.hid (R6t.out.belowW HC7.out)
      have R7i0 := Lib.hid (R6i0.out.belowW HC7.out)
      have R7e0 := Lib.hid (R6e0.out.belowW HC7.out)
      have R7bx := Lib.hid (R6bx.out.belowW HC7.out)
      have R7ba := Lib.hid (R6ba.out.belowW HC7.out)
      have HR7 := Lib.hid (HR6.out.trans (HC7.out.mono HR6.out.size))
      go_wp2_with fail
      clear hHeld
      refine hK.out _ _ ?_ (fun hHeld => ?_)
      case refine_1 => exact ⟨R7ba.out.cell 0, R7ba.out.cell 1, R7ba.out.cell 2, R7ba.out.cell 3, R7ba.out.cell 4, R7ba.out.cell 5⟩
      clear hK K
      try simp only [qa, qb, qc]
      refine tkW 14 ?_
      refine tkW 15 ?_
      refine tkW 16 ?_
      refine tkW 17 ?_
      refine tkW 18 ?_
      refine tkW 19 ?_
      refine tkW 20 ?_
      refine wpAnyH_ready (rs := [21]) (by kernel_rfl) (by simp) ?_
      refine AllReadyH.cons rfl (fun K hK => ?_) AllReadyH.nil
      go_simp
      (with_reducible refine (operand_at f IH.out T.a x _ false R7i0.out HGA.out HLA.out R7t.out).mono ?_)
      rintro e w8 ⟨S1, rfl, HS1, HC8⟩
      have R8t := Lib.hid (R7t.out.belowW HC8.out)
      have R8i0 := Lib.hid (R7i0.out.belowW HC8.out)
      have R8e0 := Lib.hid (R7e0.out.belowW HC8.out)
      have R8bx := Lib.hid (R7bx.out.belowW HC8.out)
      have R8ba := Lib.hid (R7ba.out.belowW HC8.out)
      have HR8 := Lib.hid (HR7.out.trans (HC8.out.mono HR7.out.size))
      have hS1 : S1.size = (par false la).length := by rw [strp_size HS1.out, ← HQA.out]
      go_wp2_with fail
      clear hHeld
      refine hK.out _ _ ?_ (fun hHeld => ?_)
      case refine_1 => exact ⟨R8ba.out.cell 0, R8ba.out.cell 1, R8ba.out.cell 2, R8ba.out.cell 3, R8ba.out.cell 4, R8ba.out.cell 5⟩
      clear hK K
      try simp only [qa, qb, qc]
      refine tkW 22 ?_
      refine tkW 23 ?_
      refine wpAnyH_done (by kernel_rfl) ?_ _
      have HL8 := Lib.hid (HL2.out.trans (HR8.out.mono HL2.out.size))
      go_wp2_with fail
      go_ret
      exact ⟨_, rfl, Lib.hid (by rw [data_app, HS1.out, ← HQA.out, HTX.out]; rfl), HL8⟩
     | true =>
      have HN2 := Lib.hid (show nd = true by rw [HND.out]; unfold needM; rw [cs, cp, cb, cw, cn]; rfl)
      rw [HN2.out] at c1 HTX hplb
      have Hcs := Lib.hid cs
      have Hcp := Lib.hid cp
      have Hcb := Lib.hid cb
      have Hcw := Lib.hid cw
      clear cs cp cb cw
      go_enter Tryz.func55, Tryz.ntmps55
      go_upto_region 1 with (fail)
      obtain ⟨w1, hw⟩ : ∃ z9 : World, z9 = w.alloc (.cells #[.int .i64 7, .int .i64 n, .int .i64 d, .string nm, .int .i64 k, .slice (some ⟨b, o, none⟩) 1 cap] 29) := ⟨_, rfl⟩
      have HB1 := Lib.hid (show Below w.heap.size w w1 by rw [hw]; exact below_box _ _)
      have F1bx := Lib.hid (show Blk w1 w.heap.size 29 #[.int .i64 7, .int .i64 n, .int .i64 d, .string nm, .int .i64 k, .slice (some ⟨b, o, none⟩) 1 cap] by rw [hw]; exact Blk.new _ _ _)
      rw [← hw]
      clear hw
      have F1t := Lib.hid (HT.out.belowW HB1.out)
      have F1i0 := Lib.hid (HX.out.belowW HB1.out)
      have F1e0 := Lib.hid (EX.out.belowW HB1.out)
      have pk : w1.cell? ⟨w.heap.size, 0, none⟩ = some (.int .i64 7) := F1bx.out.cell 0
      have p5 : w1.cell? ⟨w.heap.size, 5, none⟩ = some (.slice (some ⟨b, o, none⟩) 1 cap) := F1bx.out.cell 5
      have q0 : w1.cell? ⟨b, o, none⟩ = some (.int .i64 x.h.kind) := F1e0.out.c0
      have q1 : w1.cell? ⟨b, o + 1, none⟩ = some (.int .i64 x.h.n) := F1e0.out.c1
      have q2 : w1.cell? ⟨b, o + 2, none⟩ = some (.int .i64 x.h.d) := F1e0.out.c2
      have q3 : w1.cell? ⟨b, o + 3, none⟩ = some (.string x.h.name) := F1e0.out.c3
      have q4 : w1.cell? ⟨b, o + 4, none⟩ = some (.int .i64 x.h.k) := F1e0.out.c4
      have q5 : w1.cell? ⟨b, o + 5, none⟩ = some (.slice x.A x.len x.cap) := F1e0.out.c5
      go_upto_region 22 with (fail)
      clear pk p5 q0 q1 q2 q3 q4 q5
      obtain ⟨w2, hw⟩ : ∃ z9 : World, z9 = w1.alloc (.cells #[.int .i64 x.h.kind, .int .i64 x.h.n, .int .i64 x.h.d, .string x.h.name, .int .i64 x.h.k, .slice x.A x.len x.cap] 29) := ⟨_, rfl⟩
      have HB2 := Lib.hid (show Below w1.heap.size w1 w2 by rw [hw]; exact below_box _ _)
      have F2ba := Lib.hid (show Blk w2 w1.heap.size 29 #[.int .i64 x.h.kind, .int .i64 x.h.n, .int .i64 x.h.d, .string x.h.name, .int .i64 x.h.k, .slice x.A x.len x.cap] by rw [hw]; exact Blk.new _ _ _)
      rw [← hw]
      clear hw
      have F2t := Lib.hid (F1t.out.belowW HB2.out)
      have F2i0 := Lib.hid (F1i0.out.belowW HB2.out)
      have F2e0 := Lib.hid (F1e0.out.belowW HB2.out)
      have F2bx := Lib.hid (F1bx.out.belowW HB2.out)
      have HL2 := Lib.hid (HB1.out.trans (HB2.out.mono HB1.out.size))
      have HR3 := Lib.hid (below_dr w2)
      have R3t := Lib.hid (F2t.out.belowW HR3.out)
      have R3i0 := Lib.hid (F2i0.out.belowW HR3.out)
      have R3e0 := Lib.hid (F2e0.out.belowW HR3.out)
      have R3bx := Lib.hid (F2bx.out.belowW HR3.out)
      have R3ba := Lib.hid (F2ba.out.belowW HR3.out)
      refine wp_region_held_drew (S := fun w' => w'.cell? ⟨w1.heap.size, 0, none⟩ = some (.int .i64 x.h.kind) ∧ w'.cell? ⟨w1.heap.size, 1, none⟩ = some (.int .i64 x.h.n) ∧ w'.cell? ⟨w1.heap.size, 2, none⟩ = some (.int .i64 x.h.d) ∧ w'.cell? ⟨w1.heap.size, 3, none⟩ = some (.string x.h.name) ∧ w'.cell? ⟨w1.heap.size, 4, none⟩ = some (.int .i64 x.h.k) ∧ w'.cell? ⟨w1.heap.size, 5, none⟩ = some (.slice x.A x.len x.cap)) (by kernel_rfl) ?_ (fun hHeld => ?_)
      case refine_1 => exact ⟨R3ba.out.cell 0, R3ba.out.cell 1, R3ba.out.cell 2, R3ba.out.cell 3, R3ba.out.cell 4, R3ba.out.cell 5⟩
      refine tkW 0 ?_
      refine tkW 1 ?_
      refine wpAnyH_ready (rs := [2]) (by kernel_rfl) (by simp) ?_
      refine AllReadyH.cons rfl (fun K hK => ?_) AllReadyH.nil
      go_simp
      (with_reducible refine (sum_p x _).mono ?_)
      rw [Hcs.out]
      rintro e w4 ⟨rfl, HC4⟩
      have R4t := Lib.hid (R3t.out.belowW HC4.out)
      have R4i0 := Lib.hid (R3i0.out.belowW HC4.out)
      have R4e0 := Lib.hid (R3e0.out.belowW HC4.out)
      have R4bx := Lib.hid (R3bx.out.belowW HC4.out)
      have R4ba := Lib.hid (R3ba.out.belowW HC4.out)
      have HR4 := Lib.hid (HR3.out.trans (HC4.out.mono HR3.out.size))
      go_wp2_with fail
      clear hHeld
      refine hK.out _ _ ?_ (fun hHeld => ?_)
      case refine_1 => exact ⟨R4ba.out.cell 0, R4ba.out.cell 1, R4ba.out.cell 2, R4ba.out.cell 3, R4ba.out.cell 4, R4ba.out.cell 5⟩
      clear hK K
      try simp only [qa, qb, qc]
      refine tkW 3 ?_
      refine tkW 4 ?_
      refine wpAnyH_ready (rs := [5]) (by kernel_rfl) (by simp) ?_
      refine AllReadyH.cons rfl (fun K hK => ?_) AllReadyH.nil
      go_simp
      (with_reducible refine (prod_p x _).mono ?_)
      rw [Hcp.out]
      rintro e w5 ⟨rfl, HC5⟩
      have R5t := Lib.hid (R4t.out.belowW HC5.out)
      have R5i0 := Lib.hid (R4i0.out.belowW HC5.out)
      have R5e0 := Lib.hid (R4e0.out.belowW HC5.out)
      have R5bx := Lib.hid (R4bx.out.belowW HC5.out)
      have R5ba := Lib.hid (R4ba.out.belowW HC5.out)
      have HR5 := Lib.hid (HR4.out.trans (HC5.out.mono HR4.out.size))
      go_wp2_with fail
      clear hHeld
      refine hK.out _ _ ?_ (fun hHeld => ?_)
      case refine_1 => exact ⟨R5ba.out.cell 0, R5ba.out.cell 1, R5ba.out.cell 2, R5ba.out.cell 3, R5ba.out.cell 4, R5ba.out.cell 5⟩
      clear hK K
      try simp only [qa, qb, qc]
      refine tkW 6 ?_
      refine tkW 7 ?_
      refine tkW 8 ?_
      refine wpAnyH_ready (rs := [9]) (by kernel_rfl) (by simp) ?_
      refine AllReadyH.cons rfl (fun K hK => ?_) AllReadyH.nil
      go_simp
      (with_reducible refine (brok_p x _).mono ?_)
      rw [Hcb.out]
      rintro e w6 ⟨rfl, HC6⟩
      have R6t := Lib.hid (R5t.out.belowW HC6.out)
      have R6i0 := Lib.hid (R5i0.out.belowW HC6.out)
      have R6e0 := Lib.hid (R5e0.out.belowW HC6.out)
      have R6bx := Lib.hid (R5bx.out.belowW HC6.out)
      have R6ba := Lib.hid (R5ba.out.belowW HC6.out)
      have HR6 := Lib.hid (HR5.out.trans (HC6.out.mono HR5.out.size))
      go_wp2_with fail
      clear hHeld
      refine hK.out _ _ ?_ (fun hHeld => ?_)
      case refine_1 => exact ⟨R6ba.out.cell 0, R6ba.out.cell 1, R6ba.out.cell 2, R6ba.out.cell 3, R6ba.out.cell 4, R6ba.out.cell 5⟩
      clear hK K
      try simp only [qa, qb, qc]
      refine tkW 10 ?_
      refine tkW 11 ?_
      refine tkW 12 ?_
      refine wpAnyH_ready (rs := [13]) (by kernel_rfl) (by simp) ?_
      refine AllReadyH.cons rfl (fun K hK => ?_) AllReadyH.nil
      go_simp
      (with_reducible refine (whl_p x _).mono ?_)
      rw [Hcw.out]
      rintro e w7 ⟨rfl, HC7⟩
      have R7t := Lib.hid (R6t.out.belowW HC7.out)
      have R7i0 := Lib.hid (R6i0.out.belowW HC7.out)
      have R7e0 := Lib.hid (R6e0.out.belowW HC7.out)
      have R7bx := Lib.hid (R6bx.out.belowW HC7.out)
      have R7ba := Lib.hid (R6ba.out.belowW HC7.out)
      have HR7 := Lib.hid (HR6.out.trans (HC7.out.mono HR6.out.size))
      go_wp2_with fail
      clear hHeld
      refine hK.out _ _ ?_ (fun hHeld => ?_)
      case refine_1 => exact ⟨R7ba.out.cell 0, R7ba.out.cell 1, R7ba.out.cell 2, R7ba.out.cell 3, R7ba.out.cell 4, R7ba.out.cell 5⟩
      clear hK K
      try simp only [qa, qb, qc]
      refine tkW 14 ?_
      refine tkW 15 ?_
      refine tkW 16 ?_
      refine tkW 17 ?_
      refine tkW 18 ?_
      refine tkW 19 ?_
      refine tkW 20 ?_
      refine wpAnyH_ready (rs := [21]) (by kernel_rfl) (by simp) ?_
      refine AllReadyH.cons rfl (fun K hK => ?_) AllReadyH.nil
      go_simp
      (with_reducible refine (operand_at f IH.out T.a x _ true R7i0.out HGA.out HLA.out R7t.out).mono ?_)
      rintro e w8 ⟨S1, rfl, HS1, HC8⟩
      have R8t := Lib.hid (R7t.out.belowW HC8.out)
      have R8i0 := Lib.hid (R7i0.out.belowW HC8.out)
      have R8e0 := Lib.hid (R7e0.out.belowW HC8.out)
      have R8bx := Lib.hid (R7bx.out.belowW HC8.out)
      have R8ba := Lib.hid (R7ba.out.belowW HC8.out)
      have HR8 := Lib.hid (HR7.out.trans (HC8.out.mono HR7.out.size))
      have hS1 : S1.size = (par true la).length := by rw [strp_size HS1.out, ← HQA.out]
      go_wp2_with fail
      clear hHeld
      refine hK.out _ _ ?_ (fun hHeld => ?_)
      case refine_1 => exact ⟨R8ba.out.cell 0, R8ba.out.cell 1, R8ba.out.cell 2, R8ba.out.cell 3, R8ba.out.cell 4, R8ba.out.cell 5⟩
      clear hK K
      try simp only [qa, qb, qc]
      refine tkW 22 ?_
      refine tkW 23 ?_
      refine wpAnyH_done (by kernel_rfl) ?_ _
      have HL8 := Lib.hid (HL2.out.trans (HR8.out.mono HL2.out.size))
      go_wp2_with fail
      go_ret
      exact ⟨_, rfl, Lib.hid (by rw [data_app, HS1.out, ← HQA.out, HTX.out]; rfl), HL8⟩
   | true =>
    have HN2 := Lib.hid (show nd = true by rw [HND.out]; unfold needM; rw [cs, cp, cb]; rfl)
    rw [HN2.out] at c1 HTX hplb
    have Hcs := Lib.hid cs
    have Hcp := Lib.hid cp
    have Hcb := Lib.hid cb
    clear cs cp cb
    go_enter Tryz.func55, Tryz.ntmps55
    go_upto_region 1 with (fail)
    obtain ⟨w1, hw⟩ : ∃ z9 : World, z9 = w.alloc (.cells #[.int .i64 7, .int .i64 n, .int .i64 d, .string nm, .int .i64 k, .slice (some ⟨b, o, none⟩) 1 cap] 29) := ⟨_, rfl⟩
    have HB1 := Lib.hid (show Below w.heap.size w w1 by rw [hw]; exact below_box _ _)
    have F1bx := Lib.hid (show Blk w1 w.heap.size 29 #[.int .i64 7, .int .i64 n, .int .i64 d, .string nm, .int .i64 k, .slice (some ⟨b, o, none⟩) 1 cap] by rw [hw]; exact Blk.new _ _ _)
    rw [← hw]
    clear hw
    have F1t := Lib.hid (HT.out.belowW HB1.out)
    have F1i0 := Lib.hid (HX.out.belowW HB1.out)
    have F1e0 := Lib.hid (EX.out.belowW HB1.out)
    have pk : w1.cell? ⟨w.heap.size, 0, none⟩ = some (.int .i64 7) := F1bx.out.cell 0
    have p5 : w1.cell? ⟨w.heap.size, 5, none⟩ = some (.slice (some ⟨b, o, none⟩) 1 cap) := F1bx.out.cell 5
    have q0 : w1.cell? ⟨b, o, none⟩ = some (.int .i64 x.h.kind) := F1e0.out.c0
    have q1 : w1.cell? ⟨b, o + 1, none⟩ = some (.int .i64 x.h.n) := F1e0.out.c1
    have q2 : w1.cell? ⟨b, o + 2, none⟩ = some (.int .i64 x.h.d) := F1e0.out.c2
    have q3 : w1.cell? ⟨b, o + 3, none⟩ = some (.string x.h.name) := F1e0.out.c3
    have q4 : w1.cell? ⟨b, o + 4, none⟩ = some (.int .i64 x.h.k) := F1e0.out.c4
    have q5 : w1.cell? ⟨b, o + 5, none⟩ = some (.slice x.A x.len x.cap) := F1e0.out.c5
    go_upto_region 22 with (fail)
    clear pk p5 q0 q1 q2 q3 q4 q5
    obtain ⟨w2, hw⟩ : ∃ z9 : World, z9 = w1.alloc (.cells #[.int .i64 x.h.kind, .int .i64 x.h.n, .int .i64 x.h.d, .string x.h.name, .int .i64 x.h.k, .slice x.A x.len x.cap] 29) := ⟨_, rfl⟩
    have HB2 := Lib.hid (show Below w1.heap.size w1 w2 by rw [hw]; exact below_box _ _)
    have F2ba := Lib.hid (show Blk w2 w1.heap.size 29 #[.int .i64 x.h.kind, .int .i64 x.h.n, .int .i64 x.h.d, .string x.h.name, .int .i64 x.h.k, .slice x.A x.len x.cap] by rw [hw]; exact Blk.new _ _ _)
    rw [← hw]
    clear hw
    have F2t := Lib.hid (F1t.out.belowW HB2.out)
    have F2i0 := Lib.hid (F1i0.out.belowW HB2.out)
    have F2e0 := Lib.hid (F1e0.out.belowW HB2.out)
    have F2bx := Lib.hid (F1bx.out.belowW HB2.out)
    have HL2 := Lib.hid (HB1.out.trans (HB2.out.mono HB1.out.size))
    have HR3 := Lib.hid (below_dr w2)
    have R3t := Lib.hid (F2t.out.belowW HR3.out)
    have R3i0 := Lib.hid (F2i0.out.belowW HR3.out)
    have R3e0 := Lib.hid (F2e0.out.belowW HR3.out)
    have R3bx := Lib.hid (F2bx.out.belowW HR3.out)
    have R3ba := Lib.hid (F2ba.out.belowW HR3.out)
    refine wp_region_held_drew (S := fun w' => w'.cell? ⟨w1.heap.size, 0, none⟩ = some (.int .i64 x.h.kind) ∧ w'.cell? ⟨w1.heap.size, 1, none⟩ = some (.int .i64 x.h.n) ∧ w'.cell? ⟨w1.heap.size, 2, none⟩ = some (.int .i64 x.h.d) ∧ w'.cell? ⟨w1.heap.size, 3, none⟩ = some (.string x.h.name) ∧ w'.cell? ⟨w1.heap.size, 4, none⟩ = some (.int .i64 x.h.k) ∧ w'.cell? ⟨w1.heap.size, 5, none⟩ = some (.slice x.A x.len x.cap)) (by kernel_rfl) ?_ (fun hHeld => ?_)
    case refine_1 => exact ⟨R3ba.out.cell 0, R3ba.out.cell 1, R3ba.out.cell 2, R3ba.out.cell 3, R3ba.out.cell 4, R3ba.out.cell 5⟩
    refine tkW 0 ?_
    refine tkW 1 ?_
    refine wpAnyH_ready (rs := [2]) (by kernel_rfl) (by simp) ?_
    refine AllReadyH.cons rfl (fun K hK => ?_) AllReadyH.nil
    go_simp
    (with_reducible refine (sum_p x _).mono ?_)
    rw [Hcs.out]
    rintro e w4 ⟨rfl, HC4⟩
    have R4t := Lib.hid (R3t.out.belowW HC4.out)
    have R4i0 := Lib.hid (R3i0.out.belowW HC4.out)
    have R4e0 := Lib.hid (R3e0.out.belowW HC4.out)
    have R4bx := Lib.hid (R3bx.out.belowW HC4.out)
    have R4ba := Lib.hid (R3ba.out.belowW HC4.out)
    have HR4 := Lib.hid (HR3.out.trans (HC4.out.mono HR3.out.size))
    go_wp2_with fail
    clear hHeld
    refine hK.out _ _ ?_ (fun hHeld => ?_)
    case refine_1 => exact ⟨R4ba.out.cell 0, R4ba.out.cell 1, R4ba.out.cell 2, R4ba.out.cell 3, R4ba.out.cell 4, R4ba.out.cell 5⟩
    clear hK K
    try simp only [qa, qb, qc]
    refine tkW 3 ?_
    refine tkW 4 ?_
    refine wpAnyH_ready (rs := [5]) (by kernel_rfl) (by simp) ?_
    refine AllReadyH.cons rfl (fun K hK => ?_) AllReadyH.nil
    go_simp
    (with_reducible refine (prod_p x _).mono ?_)
    rw [Hcp.out]
    rintro e w5 ⟨rfl, HC5⟩
    have R5t := Lib.hid (R4t.out.belowW HC5.out)
    have R5i0 := Lib.hid (R4i0.out.belowW HC5.out)
    have R5e0 := Lib.hid (R4e0.out.belowW HC5.out)
    have R5bx := Lib.hid (R4bx.out.belowW HC5.out)
    have R5ba := Lib.hid (R4ba.out.belowW HC5.out)
    have HR5 := Lib.hid (HR4.out.trans (HC5.out.mono HR4.out.size))
    go_wp2_with fail
    clear hHeld
    refine hK.out _ _ ?_ (fun hHeld => ?_)
    case refine_1 => exact ⟨R5ba.out.cell 0, R5ba.out.cell 1, R5ba.out.cell 2, R5ba.out.cell 3, R5ba.out.cell 4, R5ba.out.cell 5⟩
    clear hK K
    try simp only [qa, qb, qc]
    refine tkW 6 ?_
    refine tkW 7 ?_
    refine tkW 8 ?_
    refine wpAnyH_ready (rs := [9]) (by kernel_rfl) (by simp) ?_
    refine AllReadyH.cons rfl (fun K hK => ?_) AllReadyH.nil
    go_simp
    (with_reducible refine (brok_p x _).mono ?_)
    rw [Hcb.out]
    rintro e w6 ⟨rfl, HC6⟩
    have R6t := Lib.hid (R5t.out.belowW HC6.out)
    have R6i0 := Lib.hid (R5i0.out.belowW HC6.out)
    have R6e0 := Lib.hid (R5e0.out.belowW HC6.out)
    have R6bx := Lib.hid (R5bx.out.belowW HC6.out)
    have R6ba := Lib.hid (R5ba.out.belowW HC6.out)
    have HR6 := Lib.hid (HR5.out.trans (HC6.out.mono HR5.out.size))
    go_wp2_with fail
    clear hHeld
    refine hK.out _ _ ?_ (fun hHeld => ?_)
    case refine_1 => exact ⟨R6ba.out.cell 0, R6ba.out.cell 1, R6ba.out.cell 2, R6ba.out.cell 3, R6ba.out.cell 4, R6ba.out.cell 5⟩
    clear hK K
    try simp only [qa, qb, qc]
    refine tkW 10 ?_
    refine tkW 11 ?_
    refine tkV 12 ?_
    refine tkV 13 ?_
    refine tkV 14 ?_
    refine tkV 15 ?_
    refine tkV 16 ?_
    refine tkV 17 ?_
    refine tkV 18 ?_
    refine tkV 19 ?_
    refine tkW 20 ?_
    refine wpAnyH_ready (rs := [21]) (by kernel_rfl) (by simp) ?_
    refine AllReadyH.cons rfl (fun K hK => ?_) AllReadyH.nil
    go_simp
    (with_reducible refine (operand_at f IH.out T.a x _ true R6i0.out HGA.out HLA.out R6t.out).mono ?_)
    rintro e w7 ⟨S1, rfl, HS1, HC7⟩
    have R7t := Lib.hid (R6t.out.belowW HC7.out)
    have R7i0 := Lib.hid (R6i0.out.belowW HC7.out)
    have R7e0 := Lib.hid (R6e0.out.belowW HC7.out)
    have R7bx := Lib.hid (R6bx.out.belowW HC7.out)
    have R7ba := Lib.hid (R6ba.out.belowW HC7.out)
    have HR7 := Lib.hid (HR6.out.trans (HC7.out.mono HR6.out.size))
    have hS1 : S1.size = (par true la).length := by rw [strp_size HS1.out, ← HQA.out]
    go_wp2_with fail
    clear hHeld
    refine hK.out _ _ ?_ (fun hHeld => ?_)
    case refine_1 => exact ⟨R7ba.out.cell 0, R7ba.out.cell 1, R7ba.out.cell 2, R7ba.out.cell 3, R7ba.out.cell 4, R7ba.out.cell 5⟩
    clear hK K
    try simp only [qa, qb, qc]
    refine tkW 22 ?_
    refine tkW 23 ?_
    refine wpAnyH_done (by kernel_rfl) ?_ _
    have HL7 := Lib.hid (HL2.out.trans (HR7.out.mono HL2.out.size))
    go_wp2_with fail
    go_ret
    exact ⟨_, rfl, Lib.hid (by rw [data_app, HS1.out, ← HQA.out, HTX.out]; rfl), HL7⟩
  | true =>
   have HN2 := Lib.hid (show nd = true by rw [HND.out]; unfold needM; rw [cs, cp]; rfl)
   rw [HN2.out] at c1 HTX hplb
   have Hcs := Lib.hid cs
   have Hcp := Lib.hid cp
   clear cs cp
   go_enter Tryz.func55, Tryz.ntmps55
   go_upto_region 1 with (fail)
   obtain ⟨w1, hw⟩ : ∃ z9 : World, z9 = w.alloc (.cells #[.int .i64 7, .int .i64 n, .int .i64 d, .string nm, .int .i64 k, .slice (some ⟨b, o, none⟩) 1 cap] 29) := ⟨_, rfl⟩
   have HB1 := Lib.hid (show Below w.heap.size w w1 by rw [hw]; exact below_box _ _)
   have F1bx := Lib.hid (show Blk w1 w.heap.size 29 #[.int .i64 7, .int .i64 n, .int .i64 d, .string nm, .int .i64 k, .slice (some ⟨b, o, none⟩) 1 cap] by rw [hw]; exact Blk.new _ _ _)
   rw [← hw]
   clear hw
   have F1t := Lib.hid (HT.out.belowW HB1.out)
   have F1i0 := Lib.hid (HX.out.belowW HB1.out)
   have F1e0 := Lib.hid (EX.out.belowW HB1.out)
   have pk : w1.cell? ⟨w.heap.size, 0, none⟩ = some (.int .i64 7) := F1bx.out.cell 0
   have p5 : w1.cell? ⟨w.heap.size, 5, none⟩ = some (.slice (some ⟨b, o, none⟩) 1 cap) := F1bx.out.cell 5
   have q0 : w1.cell? ⟨b, o, none⟩ = some (.int .i64 x.h.kind) := F1e0.out.c0
   have q1 : w1.cell? ⟨b, o + 1, none⟩ = some (.int .i64 x.h.n) := F1e0.out.c1
   have q2 : w1.cell? ⟨b, o + 2, none⟩ = some (.int .i64 x.h.d) := F1e0.out.c2
   have q3 : w1.cell? ⟨b, o + 3, none⟩ = some (.string x.h.name) := F1e0.out.c3
   have q4 : w1.cell? ⟨b, o + 4, none⟩ = some (.int .i64 x.h.k) := F1e0.out.c4
   have q5 : w1.cell? ⟨b, o + 5, none⟩ = some (.slice x.A x.len x.cap) := F1e0.out.c5
   go_upto_region 22 with (fail)
   clear pk p5 q0 q1 q2 q3 q4 q5
   obtain ⟨w2, hw⟩ : ∃ z9 : World, z9 = w1.alloc (.cells #[.int .i64 x.h.kind, .int .i64 x.h.n, .int .i64 x.h.d, .string x.h.name, .int .i64 x.h.k, .slice x.A x.len x.cap] 29) := ⟨_, rfl⟩
   have HB2 := Lib.hid (show Below w1.heap.size w1 w2 by rw [hw]; exact below_box _ _)
   have F2ba := Lib.hid (show Blk w2 w1.heap.size 29 #[.int .i64 x.h.kind, .int .i64 x.h.n, .int .i64 x.h.d, .string x.h.name, .int .i64 x.h.k, .slice x.A x.len x.cap] by rw [hw]; exact Blk.new _ _ _)
   rw [← hw]
   clear hw
   have F2t := Lib.hid (F1t.out.belowW HB2.out)
   have F2i0 := Lib.hid (F1i0.out.belowW HB2.out)
   have F2e0 := Lib.hid (F1e0.out.belowW HB2.out)
   have F2bx := Lib.hid (F1bx.out.belowW HB2.out)
   have HL2 := Lib.hid (HB1.out.trans (HB2.out.mono HB1.out.size))
   have HR3 := Lib.hid (below_dr w2)
   have R3t := Lib.hid (F2t.out.belowW HR3.out)
   have R3i0 := Lib.hid (F2i0.out.belowW HR3.out)
   have R3e0 := Lib.hid (F2e0.out.belowW HR3.out)
   have R3bx := Lib.hid (F2bx.out.belowW HR3.out)
   have R3ba := Lib.hid (F2ba.out.belowW HR3.out)
   refine wp_region_held_drew (S := fun w' => w'.cell? ⟨w1.heap.size, 0, none⟩ = some (.int .i64 x.h.kind) ∧ w'.cell? ⟨w1.heap.size, 1, none⟩ = some (.int .i64 x.h.n) ∧ w'.cell? ⟨w1.heap.size, 2, none⟩ = some (.int .i64 x.h.d) ∧ w'.cell? ⟨w1.heap.size, 3, none⟩ = some (.string x.h.name) ∧ w'.cell? ⟨w1.heap.size, 4, none⟩ = some (.int .i64 x.h.k) ∧ w'.cell? ⟨w1.heap.size, 5, none⟩ = some (.slice x.A x.len x.cap)) (by kernel_rfl) ?_ (fun hHeld => ?_)
   case refine_1 => exact ⟨R3ba.out.cell 0, R3ba.out.cell 1, R3ba.out.cell 2, R3ba.out.cell 3, R3ba.out.cell 4, R3ba.out.cell 5⟩
   refine tkW 0 ?_
   refine tkW 1 ?_
   refine wpAnyH_ready (rs := [2]) (by kernel_rfl) (by simp) ?_
   refine AllReadyH.cons rfl (fun K hK => ?_) AllReadyH.nil
   go_simp
   (with_reducible refine (sum_p x _).mono ?_)
   rw [Hcs.out]
   rintro e w4 ⟨rfl, HC4⟩
   have R4t := Lib.hid (R3t.out.belowW HC4.out)
   have R4i0 := Lib.hid (R3i0.out.belowW HC4.out)
   have R4e0 := Lib.hid (R3e0.out.belowW HC4.out)
   have R4bx := Lib.hid (R3bx.out.belowW HC4.out)
   have R4ba := Lib.hid (R3ba.out.belowW HC4.out)
   have HR4 := Lib.hid (HR3.out.trans (HC4.out.mono HR3.out.size))
   go_wp2_with fail
   clear hHeld
   refine hK.out _ _ ?_ (fun hHeld => ?_)
   case refine_1 => exact ⟨R4ba.out.cell 0, R4ba.out.cell 1, R4ba.out.cell 2, R4ba.out.cell 3, R4ba.out.cell 4, R4ba.out.cell 5⟩
   clear hK K
   try simp only [qa, qb, qc]
   refine tkW 3 ?_
   refine tkW 4 ?_
   refine wpAnyH_ready (rs := [5]) (by kernel_rfl) (by simp) ?_
   refine AllReadyH.cons rfl (fun K hK => ?_) AllReadyH.nil
   go_simp
   (with_reducible refine (prod_p x _).mono ?_)
   rw [Hcp.out]
   rintro e w5 ⟨rfl, HC5⟩
   have R5t := Lib.hid (R4t.out.belowW HC5.out)
   have R5i0 := Lib.hid (R4i0.out.belowW HC5.out)
   have R5e0 := Lib.hid (R4e0.out.belowW HC5.out)
   have R5bx := Lib.hid (R4bx.out.belowW HC5.out)
   have R5ba := Lib.hid (R4ba.out.belowW HC5.out)
   have HR5 := Lib.hid (HR4.out.trans (HC5.out.mono HR4.out.size))
   go_wp2_with fail
   clear hHeld
   refine hK.out _ _ ?_ (fun hHeld => ?_)
   case refine_1 => exact ⟨R5ba.out.cell 0, R5ba.out.cell 1, R5ba.out.cell 2, R5ba.out.cell 3, R5ba.out.cell 4, R5ba.out.cell 5⟩
   clear hK K
   try simp only [qa, qb, qc]
   refine tkW 6 ?_
   refine tkW 7 ?_
   refine tkV 8 ?_
   refine tkV 9 ?_
   refine tkW 10 ?_
   refine tkW 11 ?_
   refine tkV 12 ?_
   refine tkV 13 ?_
   refine tkV 14 ?_
   refine tkV 15 ?_
   refine tkV 16 ?_
   refine tkV 17 ?_
   refine tkV 18 ?_
   refine tkV 19 ?_
   refine tkW 20 ?_
   refine wpAnyH_ready (rs := [21]) (by kernel_rfl) (by simp) ?_
   refine AllReadyH.cons rfl (fun K hK => ?_) AllReadyH.nil
   go_simp
   (with_reducible refine (operand_at f IH.out T.a x _ true R5i0.out HGA.out HLA.out R5t.out).mono ?_)
   rintro e w6 ⟨S1, rfl, HS1, HC6⟩
   have R6t := Lib.hid (R5t.out.belowW HC6.out)
   have R6i0 := Lib.hid (R5i0.out.belowW HC6.out)
   have R6e0 := Lib.hid (R5e0.out.belowW HC6.out)
   have R6bx := Lib.hid (R5bx.out.belowW HC6.out)
   have R6ba := Lib.hid (R5ba.out.belowW HC6.out)
   have HR6 := Lib.hid (HR5.out.trans (HC6.out.mono HR5.out.size))
   have hS1 : S1.size = (par true la).length := by rw [strp_size HS1.out, ← HQA.out]
   go_wp2_with fail
   clear hHeld
   refine hK.out _ _ ?_ (fun hHeld => ?_)
   case refine_1 => exact ⟨R6ba.out.cell 0, R6ba.out.cell 1, R6ba.out.cell 2, R6ba.out.cell 3, R6ba.out.cell 4, R6ba.out.cell 5⟩
   clear hK K
   try simp only [qa, qb, qc]
   refine tkW 22 ?_
   refine tkW 23 ?_
   refine wpAnyH_done (by kernel_rfl) ?_ _
   have HL6 := Lib.hid (HL2.out.trans (HR6.out.mono HL2.out.size))
   go_wp2_with fail
   go_ret
   exact ⟨_, rfl, Lib.hid (by rw [data_app, HS1.out, ← HQA.out, HTX.out]; rfl), HL6⟩
 | true =>
  have HN2 := Lib.hid (show nd = true by rw [HND.out]; unfold needM; rw [cs]; rfl)
  rw [HN2.out] at c1 HTX hplb
  have Hcs := Lib.hid cs
  clear cs
  go_enter Tryz.func55, Tryz.ntmps55
  go_upto_region 1 with (fail)
  obtain ⟨w1, hw⟩ : ∃ z9 : World, z9 = w.alloc (.cells #[.int .i64 7, .int .i64 n, .int .i64 d, .string nm, .int .i64 k, .slice (some ⟨b, o, none⟩) 1 cap] 29) := ⟨_, rfl⟩
  have HB1 := Lib.hid (show Below w.heap.size w w1 by rw [hw]; exact below_box _ _)
  have F1bx := Lib.hid (show Blk w1 w.heap.size 29 #[.int .i64 7, .int .i64 n, .int .i64 d, .string nm, .int .i64 k, .slice (some ⟨b, o, none⟩) 1 cap] by rw [hw]; exact Blk.new _ _ _)
  rw [← hw]
  clear hw
  have F1t := Lib.hid (HT.out.belowW HB1.out)
  have F1i0 := Lib.hid (HX.out.belowW HB1.out)
  have F1e0 := Lib.hid (EX.out.belowW HB1.out)
  have pk : w1.cell? ⟨w.heap.size, 0, none⟩ = some (.int .i64 7) := F1bx.out.cell 0
  have p5 : w1.cell? ⟨w.heap.size, 5, none⟩ = some (.slice (some ⟨b, o, none⟩) 1 cap) := F1bx.out.cell 5
  have q0 : w1.cell? ⟨b, o, none⟩ = some (.int .i64 x.h.kind) := F1e0.out.c0
  have q1 : w1.cell? ⟨b, o + 1, none⟩ = some (.int .i64 x.h.n) := F1e0.out.c1
  have q2 : w1.cell? ⟨b, o + 2, none⟩ = some (.int .i64 x.h.d) := F1e0.out.c2
  have q3 : w1.cell? ⟨b, o + 3, none⟩ = some (.string x.h.name) := F1e0.out.c3
  have q4 : w1.cell? ⟨b, o + 4, none⟩ = some (.int .i64 x.h.k) := F1e0.out.c4
  have q5 : w1.cell? ⟨b, o + 5, none⟩ = some (.slice x.A x.len x.cap) := F1e0.out.c5
  go_upto_region 22 with (fail)
  clear pk p5 q0 q1 q2 q3 q4 q5
  obtain ⟨w2, hw⟩ : ∃ z9 : World, z9 = w1.alloc (.cells #[.int .i64 x.h.kind, .int .i64 x.h.n, .int .i64 x.h.d, .string x.h.name, .int .i64 x.h.k, .slice x.A x.len x.cap] 29) := ⟨_, rfl⟩
  have HB2 := Lib.hid (show Below w1.heap.size w1 w2 by rw [hw]; exact below_box _ _)
  have F2ba := Lib.hid (show Blk w2 w1.heap.size 29 #[.int .i64 x.h.kind, .int .i64 x.h.n, .int .i64 x.h.d, .string x.h.name, .int .i64 x.h.k, .slice x.A x.len x.cap] by rw [hw]; exact Blk.new _ _ _)
  rw [← hw]
  clear hw
  have F2t := Lib.hid (F1t.out.belowW HB2.out)
  have F2i0 := Lib.hid (F1i0.out.belowW HB2.out)
  have F2e0 := Lib.hid (F1e0.out.belowW HB2.out)
  have F2bx := Lib.hid (F1bx.out.belowW HB2.out)
  have HL2 := Lib.hid (HB1.out.trans (HB2.out.mono HB1.out.size))
  have HR3 := Lib.hid (below_dr w2)
  have R3t := Lib.hid (F2t.out.belowW HR3.out)
  have R3i0 := Lib.hid (F2i0.out.belowW HR3.out)
  have R3e0 := Lib.hid (F2e0.out.belowW HR3.out)
  have R3bx := Lib.hid (F2bx.out.belowW HR3.out)
  have R3ba := Lib.hid (F2ba.out.belowW HR3.out)
  refine wp_region_held_drew (S := fun w' => w'.cell? ⟨w1.heap.size, 0, none⟩ = some (.int .i64 x.h.kind) ∧ w'.cell? ⟨w1.heap.size, 1, none⟩ = some (.int .i64 x.h.n) ∧ w'.cell? ⟨w1.heap.size, 2, none⟩ = some (.int .i64 x.h.d) ∧ w'.cell? ⟨w1.heap.size, 3, none⟩ = some (.string x.h.name) ∧ w'.cell? ⟨w1.heap.size, 4, none⟩ = some (.int .i64 x.h.k) ∧ w'.cell? ⟨w1.heap.size, 5, none⟩ = some (.slice x.A x.len x.cap)) (by kernel_rfl) ?_ (fun hHeld => ?_)
  case refine_1 => exact ⟨R3ba.out.cell 0, R3ba.out.cell 1, R3ba.out.cell 2, R3ba.out.cell 3, R3ba.out.cell 4, R3ba.out.cell 5⟩
  refine tkW 0 ?_
  refine tkW 1 ?_
  refine wpAnyH_ready (rs := [2]) (by kernel_rfl) (by simp) ?_
  refine AllReadyH.cons rfl (fun K hK => ?_) AllReadyH.nil
  go_simp
  (with_reducible refine (sum_p x _).mono ?_)
  rw [Hcs.out]
  rintro e w4 ⟨rfl, HC4⟩
  have R4t := Lib.hid (R3t.out.belowW HC4.out)
  have R4i0 := Lib.hid (R3i0.out.belowW HC4.out)
  have R4e0 := Lib.hid (R3e0.out.belowW HC4.out)
  have R4bx := Lib.hid (R3bx.out.belowW HC4.out)
  have R4ba := Lib.hid (R3ba.out.belowW HC4.out)
  have HR4 := Lib.hid (HR3.out.trans (HC4.out.mono HR3.out.size))
  go_wp2_with fail
  clear hHeld
  refine hK.out _ _ ?_ (fun hHeld => ?_)
  case refine_1 => exact ⟨R4ba.out.cell 0, R4ba.out.cell 1, R4ba.out.cell 2, R4ba.out.cell 3, R4ba.out.cell 4, R4ba.out.cell 5⟩
  clear hK K
  try simp only [qa, qb, qc]
  refine tkW 3 ?_
  refine tkV 4 ?_
  refine tkV 5 ?_
  refine tkW 6 ?_
  refine tkW 7 ?_
  refine tkV 8 ?_
  refine tkV 9 ?_
  refine tkW 10 ?_
  refine tkW 11 ?_
  refine tkV 12 ?_
  refine tkV 13 ?_
  refine tkV 14 ?_
  refine tkV 15 ?_
  refine tkV 16 ?_
  refine tkV 17 ?_
  refine tkV 18 ?_
  refine tkV 19 ?_
  refine tkW 20 ?_
  refine wpAnyH_ready (rs := [21]) (by kernel_rfl) (by simp) ?_
  refine AllReadyH.cons rfl (fun K hK => ?_) AllReadyH.nil
  go_simp
  (with_reducible refine (operand_at f IH.out T.a x _ true R4i0.out HGA.out HLA.out R4t.out).mono ?_)
  rintro e w5 ⟨S1, rfl, HS1, HC5⟩
  have R5t := Lib.hid (R4t.out.belowW HC5.out)
  have R5i0 := Lib.hid (R4i0.out.belowW HC5.out)
  have R5e0 := Lib.hid (R4e0.out.belowW HC5.out)
  have R5bx := Lib.hid (R4bx.out.belowW HC5.out)
  have R5ba := Lib.hid (R4ba.out.belowW HC5.out)
  have HR5 := Lib.hid (HR4.out.trans (HC5.out.mono HR4.out.size))
  have hS1 : S1.size = (par true la).length := by rw [strp_size HS1.out, ← HQA.out]
  go_wp2_with fail
  clear hHeld
  refine hK.out _ _ ?_ (fun hHeld => ?_)
  case refine_1 => exact ⟨R5ba.out.cell 0, R5ba.out.cell 1, R5ba.out.cell 2, R5ba.out.cell 3, R5ba.out.cell 4, R5ba.out.cell 5⟩
  clear hK K
  try simp only [qa, qb, qc]
  refine tkW 22 ?_
  refine tkW 23 ?_
  refine wpAnyH_done (by kernel_rfl) ?_ _
  have HL5 := Lib.hid (HL2.out.trans (HR5.out.mono HL2.out.size))
  go_wp2_with fail
  go_ret
  exact ⟨_, rfl, Lib.hid (by rw [data_app, HS1.out, ← HQA.out, HTX.out]; rfl), HL5⟩
end Go.Proofs.YtkjoohnndobjeaaGreatDoor
