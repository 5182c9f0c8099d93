/-
  The walk of the program's text of an expression, kind by kind.
-/
import Derived.Test.YtkjoohnndobjeaaGreatDoorFmI
import Derived.Test.YtkjoohnndobjeaaGreatDoorQH
set_option linter.unusedVariables false
namespace Go.Proofs.YtkjoohnndobjeaaGreatDoor
open Go.RowKit Go.Fl Go.Fl.Nm Go.Fl.Fm Go.Fl.Rt
open List renaming setIfInBounds_toArray → qa, set_cons_zero → qb, set_cons_succ → qc, getElem_toArray → qd, getElem_cons_zero → qe, getElem_cons_succ → qf

set_option maxHeartbeats 8000000 in
set_option maxRecDepth 100000 in
theorem expr_fn (f : Nat) (ih : ExprAt f) (T : TE) (v : Nd) (w : World) (hin : InE w T v) (hg : good nameP (f + 1) T) (hl : (txt (f + 1) T).length ≤ 20000) (ht : RB w) (hk : 9 ≤ v.h.kind ∧ v.h.kind ≤ 13) :
    Calls Tryz.prog 55 #[v.val] w (StrP (txt (f + 1) T) w) := by
 have hnd := hg.1
 rw [hin.hd, hin.length] at hnd
 have hlen : v.len = 1 := by rcases node_kinds hnd with h | h | h | h | h | h <;> omega
 have hl1 : T.l.length = 1 := by rw [hin.length]; exact hlen
 obtain ⟨T1, hT⟩ := list1 hl1
 have hTa : T.a = T1 := by unfold TE.a; rw [hT]; rfl
 have hga : good nameP f T.a := hg.2 _ (by rw [hTa, hT]; exact List.mem_cons_self ..)
 have HGA := Lib.hid hga
 have HT := Lib.hid ht
 have IH := Lib.hid ih
 have hTk : T.h.kind = v.h.kind := by rw [hin.hd]
 have hTn : T.h.k = v.h.k := by rw [hin.hd]
 have HOK := Lib.hid hin.ok
 obtain ⟨b, o, x, hA, hx, ex⟩ := hin.one hlen
 have hxh : T.a.h = x.h := hx.hd
 have HTX := Lib.hid (show txt (f + 1) T = fnK v.h.kind ++ (40 :: (txt f T.a ++ [41])) by
   show (if _ then _ else _) = _
   rw [hTk, if_neg (by omega), if_neg (by omega), if_neg (by omega), if_neg (by omega), if_neg (by omega)])
 have HX := Lib.hid hx
 have EX := Lib.hid ex
 obtain ⟨la, hla⟩ : ∃ z, z = txt f T.a := ⟨_, rfl⟩
 obtain ⟨L, hL⟩ : ∃ z, z = txt (f + 1) T := ⟨_, rfl⟩
 rw [← hla, ← hL] at HTX
 rw [← hL] at hl ⊢
 obtain ⟨fs, hfs⟩ : ∃ z, z = fnS v.h.kind := ⟨_, rfl⟩
 have HFS := Lib.hid (show fnS v.h.kind = fs from hfs.symm)
 have HFD := Lib.hid (show fs.data.toList = fnK v.h.kind by rw [hfs]; rfl)
 have hf4 : fs.size ≤ 4 := by rw [strp_size HFD.out]; exact fnK_len _
 clear hfs
 have hlen3 : la.length ≤ 20000 := by
   have h := congrArg List.length HTX.out
   rw [List.length_append, List.length_cons, List.length_append] at h
   omega
 have c1 : ¬ (9223372036854775807 < fs.size + 1) := by omega
 have c2 : ¬ (9223372036854775807 < fs.size + 1 + la.length) := by omega
 have c3 : ¬ (9223372036854775807 < fs.size + 1 + la.length + 1) := by omega
 have HLA := Lib.hid (show (txt f T.a).length ≤ 20000 by rw [← hla]; omega)
 have HQA := Lib.hid hla
 clear hla hL hin hg hl ht ih hx ex hga hT hTa hl1 hnd hTk hTn hxh
 obtain ⟨⟨kd, n, d, nm, k⟩, A, len, cap⟩ := v
 simp only at hk hA hlen HOK HTX
 subst hA hlen
 simp only at HFS HFD
 have k1 : (kd == 1) = false := by rw [beq_eq_false_iff_ne]; omega
 have k2 : (kd == 2) = false := by rw [beq_eq_false_iff_ne]; omega
 have k3 : (kd == 3) = false := by rw [beq_eq_false_iff_ne]; omega
 have k4 : (kd == 4) = false := by rw [beq_eq_false_iff_ne]; omega
 have k5 : (kd == 5) = false := by rw [beq_eq_false_iff_ne]; omega
 have k6 : (kd == 6) = false := by rw [beq_eq_false_iff_ne]; omega
 have k7 : (kd == 7) = false := by rw [beq_eq_false_iff_ne]; omega
 have k8 : (kd == 8) = false := by rw [beq_eq_false_iff_ne]; omega
 simp only [Nd.val]
 go_enter Tryz.func55, Tryz.ntmps55
 go_upto_region 1 with (fail)
 obtain ⟨w1, hw⟩ : ∃ z9 : World, z9 = w.alloc (.cells #[.int .i64 kd, .int .i64 n, .int .i64 d, .string nm, .int .i64 k, .slice (some ⟨b, o, none⟩) 1 cap] 29) := ⟨_, rfl⟩
 have HB1 := Lib.hid (show Below w.heap.size w w1 by rw [hw]; exact below_box _ _)
 have F1bx := Lib.hid (show Blk w1 w.heap.size 29 #[.int .i64 kd, .int .i64 n, .int .i64 d, .string nm, .int .i64 k, .slice (some ⟨b, o, none⟩) 1 cap] by rw [hw]; exact Blk.new _ _ _)
 rw [← hw]
 clear hw
 have F1t := Lib.hid (HT.out.belowW HB1.out)
 have F1i0 := Lib.hid (HX.out.belowW HB1.out)
 have F1e0 := Lib.hid (EX.out.belowW HB1.out)
 have pk : w1.cell? ⟨w.heap.size, 0, none⟩ = some (.int .i64 kd) := F1bx.out.cell 0
 go_upto_region 26 with (fail)
 clear pk
 have HR2 := Lib.hid (below_dr w1)
 have R2t := Lib.hid (F1t.out.belowW HR2.out)
 have R2i0 := Lib.hid (F1i0.out.belowW HR2.out)
 have R2e0 := Lib.hid (F1e0.out.belowW HR2.out)
 have R2bx := Lib.hid (F1bx.out.belowW HR2.out)
 refine wp_region_held_drew (S := fun w' => w'.cell? ⟨w.heap.size, 0, none⟩ = some (.int .i64 kd) ∧ w'.cell? ⟨w.heap.size, 5, none⟩ = some (.slice (some ⟨b, o, none⟩) 1 cap) ∧ w'.cell? ⟨b, o, none⟩ = some (.int .i64 x.h.kind) ∧ w'.cell? ⟨b, o + 1, none⟩ = some (.int .i64 x.h.n) ∧ w'.cell? ⟨b, o + 2, none⟩ = some (.int .i64 x.h.d) ∧ w'.cell? ⟨b, o + 3, none⟩ = some (.string x.h.name) ∧ w'.cell? ⟨b, o + 4, none⟩ = some (.int .i64 x.h.k) ∧ w'.cell? ⟨b, o + 5, none⟩ = some (.slice x.A x.len x.cap)) (by kernel_rfl) ?_ (fun hHeld => ?_)
 case refine_1 => exact ⟨R2bx.out.cell 0, R2bx.out.cell 5, R2e0.out.c0, R2e0.out.c1, R2e0.out.c2, R2e0.out.c3, R2e0.out.c4, R2e0.out.c5⟩
 obtain ⟨wd2, hwd⟩ : ∃ z9 : World, z9 = w1.drew := ⟨_, rfl⟩
 rw [← hwd] at HR2 R2t R2i0 R2e0 R2bx hHeld ⊢
 clear hwd
 refine tkW 1 ?_
 refine tkW 2 ?_
 refine tkW 5 ?_
 refine tkW 6 ?_
 refine tkW 7 ?_
 refine tkW 8 ?_
 refine wpAnyH_ready (rs := [0]) (by kernel_rfl) (by simp) ?_
 refine (AllReadyH.cons rfl (fun K hK => ?_) AllReadyH.nil)
 go_simp
 (with_reducible refine (functions_any _).mono ?_)
 rintro e w3 ⟨g, rfl, HFM, HC3⟩
 have R3t := Lib.hid (R2t.out.belowW HC3.out)
 have R3i0 := Lib.hid (R2i0.out.belowW HC3.out)
 have R3e0 := Lib.hid (R2e0.out.belowW HC3.out)
 have R3bx := Lib.hid (R2bx.out.belowW HC3.out)
 have HR3 := Lib.hid (HR2.out.trans (HC3.out.mono HR2.out.size))
 have R3fm := Lib.hid (HFM.out)
 go_wp2_with fail
 clear hHeld
 refine hK.out _ _ ?_ (fun hHeld => ?_)
 case refine_1 => exact ⟨R3bx.out.cell 0, R3bx.out.cell 5, R3e0.out.c0, R3e0.out.c1, R3e0.out.c2, R3e0.out.c3, R3e0.out.c4, R3e0.out.c5⟩
 clear hK K
 try simp only [qa, qb, qc]
 refine wpAnyH_ready (rs := [3, 9]) (by kernel_rfl) (by simp) ?_
 refine (AllReadyH.cons rfl (fun K hK => ?_) (AllReadyH.cons rfl (fun K hK => ?_) AllReadyH.nil))
 · have hlk := R3fm.out.look kd hk
   rw [HFS.out] at hlk
   go_simp
   clear hlk
   refine hK.out _ _ ?_ (fun hHeld => ?_)
   case refine_1 => exact ⟨R3bx.out.cell 0, R3bx.out.cell 5, R3e0.out.c0, R3e0.out.c1, R3e0.out.c2, R3e0.out.c3, R3e0.out.c4, R3e0.out.c5⟩
   clear hK K
   try simp only [qa, qb, qc]
   refine tkW 4 ?_
   refine wpAnyH_ready (rs := [9]) (by kernel_rfl) (by simp) ?_
   refine (AllReadyH.cons rfl (fun K hK => ?_) AllReadyH.nil)
   go_simp
   (with_reducible refine (ex_go IH.out T.a x _ R3i0.out HGA.out HLA.out R3t.out).mono ?_)
   rintro e w4 ⟨S1, rfl, HS1, HC4⟩
   have R4t := Lib.hid (R3t.out.belowW HC4.out)
   have R4i0 := Lib.hid (R3i0.out.belowW HC4.out)
   have R4e0 := Lib.hid (R3e0.out.belowW HC4.out)
   have R4bx := Lib.hid (R3bx.out.belowW HC4.out)
   have R4fm := Lib.hid (R3fm.out.belowW HC4.out)
   have HR4 := Lib.hid (HR3.out.trans (HC4.out.mono HR3.out.size))
   have hS1 : S1.size = la.length := by rw [strp_size HS1.out, ← HQA.out]
   go_wp2_with fail
   clear hHeld
   refine hK.out _ _ ?_ (fun hHeld => ?_)
   case refine_1 => exact ⟨R4bx.out.cell 0, R4bx.out.cell 5, R4e0.out.c0, R4e0.out.c1, R4e0.out.c2, R4e0.out.c3, R4e0.out.c4, R4e0.out.c5⟩
   clear hK K
   try simp only [qa, qb, qc]
   refine tkW 10 ?_
   refine tkW 11 ?_
   refine tkW 12 ?_
   refine wpAnyH_done (by kernel_rfl) ?_ _
   have HL5 := Lib.hid (HB1.out.trans (HR4.out.mono HB1.out.size))
   go_wp2_with fail
   go_ret
   exact ⟨_, rfl, Lib.hid (by rw [data_app, data_app, data_app, HS1.out, HFD.out, ← HQA.out, HTX.out, List.append_assoc, List.append_assoc]; rfl), HL5⟩
 · go_simp
   (with_reducible refine (ex_go IH.out T.a x _ R3i0.out HGA.out HLA.out R3t.out).mono ?_)
   rintro e w4 ⟨S1, rfl, HS1, HC4⟩
   have R4t := Lib.hid (R3t.out.belowW HC4.out)
   have R4i0 := Lib.hid (R3i0.out.belowW HC4.out)
   have R4e0 := Lib.hid (R3e0.out.belowW HC4.out)
   have R4bx := Lib.hid (R3bx.out.belowW HC4.out)
   have R4fm := Lib.hid (R3fm.out.belowW HC4.out)
   have HR4 := Lib.hid (HR3.out.trans (HC4.out.mono HR3.out.size))
   have hS1 : S1.size = la.length := by rw [strp_size HS1.out, ← HQA.out]
   go_wp2_with fail
   clear hHeld
   refine hK.out _ _ ?_ (fun hHeld => ?_)
   case refine_1 => exact ⟨R4bx.out.cell 0, R4bx.out.cell 5, R4e0.out.c0, R4e0.out.c1, R4e0.out.c2, R4e0.out.c3, R4e0.out.c4, R4e0.out.c5⟩
   clear hK K
   try simp only [qa, qb, qc]
   refine wpAnyH_ready (rs := [3]) (by kernel_rfl) (by simp) ?_
   refine (AllReadyH.cons rfl (fun K hK => ?_) AllReadyH.nil)
   have hlk := R4fm.out.look kd hk
   rw [HFS.out] at hlk
   go_simp
   clear hlk
   refine hK.out _ _ ?_ (fun hHeld => ?_)
   case refine_1 => exact ⟨R4bx.out.cell 0, R4bx.out.cell 5, R4e0.out.c0, R4e0.out.c1, R4e0.out.c2, R4e0.out.c3, R4e0.out.c4, R4e0.out.c5⟩
   clear hK K
   try simp only [qa, qb, qc]
   refine tkW 4 ?_
   refine tkW 10 ?_
   refine tkW 11 ?_
   refine tkW 12 ?_
   refine wpAnyH_done (by kernel_rfl) ?_ _
   have HL5 := Lib.hid (HB1.out.trans (HR4.out.mono HB1.out.size))
   go_wp2_with fail
   go_ret
   exact ⟨_, rfl, Lib.hid (by rw [data_app, data_app, data_app, HS1.out, HFD.out, ← HQA.out, HTX.out, List.append_assoc, List.append_assoc]; rfl), HL5⟩

set_option maxHeartbeats 8000000 in
set_option maxRecDepth 100000 in
theorem expr_k1 (f : Nat) (ih : ExprAt f) (T : TE) (v : Nd) (w : World) (hin : InE w T v) (hg : good nameP (f + 1) T) (hl : (txt (f + 1) T).length ≤ 20000) (ht : RB w) (hk : v.h.kind = 1) :
    Calls Tryz.prog 55 #[v.val] w (StrP (txt (f + 1) T) w) := by
  have hnd := hg.1
  rw [hin.hd, hin.length] at hnd
  have hv : valid v.h.n v.h.d := by rcases node_kinds hnd with h | h | h | h | h | h <;> first | exact h.2.2 | omega
  have hTX := Lib.hid (show txt (f + 1) T = textE v.h.n v.h.d by
    show (if _ then _ else _) = _
    unfold textE
    rw [hin.hd, if_pos hk, if_pos (vB_iff.2 hv)])
  rw [hTX.out]
  have HOK := Lib.hid hin.ok
  have HT := Lib.hid ht
  clear hin hg hl ht ih hnd hv hTX
  obtain ⟨⟨kd, n, d, nm, k⟩, A, len, cap⟩ := v
  simp only at hk HOK
  subst hk
  simp only [Nd.val]
  go_enter Tryz.func55, Tryz.ntmps55
  go_wp2_with fail
  refine (text_q n d _ (HT.out.belowW (below_box w _)) HOK.out.n1 HOK.out.n2 HOK.out.d1 HOK.out.d2).mono ?_
  rintro e w2 ⟨S, rfl, HS, HB⟩
  go_wp2_with fail
  go_ret
  exact ⟨S, rfl, HS, Lib.hid ((below_box w _).trans (HB.out.mono (below_box w _).size))⟩

set_option maxHeartbeats 8000000 in
set_option maxRecDepth 100000 in
theorem expr_k2 (f : Nat) (ih : ExprAt f) (T : TE) (v : Nd) (w : World) (hin : InE w T v) (hg : good nameP (f + 1) T) (hl : (txt (f + 1) T).length ≤ 20000) (ht : RB w) (hk : v.h.kind = 2) :
    Calls Tryz.prog 55 #[v.val] w (StrP (txt (f + 1) T) w) := by
  have hTX := Lib.hid (show txt (f + 1) T = v.h.name.data.toList by
    show (if _ then _ else _) = _
    rw [hin.hd, hk, if_neg (by decide), if_pos rfl])
  rw [hTX.out]
  clear hin hg hl ht ih hTX
  obtain ⟨⟨kd, n, d, nm, k⟩, A, len, cap⟩ := v
  simp only at hk
  subst hk
  simp only [Nd.val]
  go_enter Tryz.func55, Tryz.ntmps55
  go_wp2_with fail
  go_ret
  exact ⟨nm, rfl, Lib.hid rfl, Lib.hid (below_box w _)⟩
end Go.Proofs.YtkjoohnndobjeaaGreatDoor
