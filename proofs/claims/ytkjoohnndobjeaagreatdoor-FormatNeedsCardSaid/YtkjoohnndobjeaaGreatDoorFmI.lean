/-
  The walk of the program's text of an expression, kind by kind.
-/
import Derived.Test.YtkjoohnndobjeaaGreatDoorQH
set_option linter.unusedVariables false
namespace Go.Proofs.YtkjoohnndobjeaaGreatDoor
open Go.RowKit Go.Fl Go.Fl.Nm Go.Fl.Fm Go.Fl.Rt
open List renaming setIfInBounds_toArray → qa, set_cons_zero → qb, set_cons_succ → qc, getElem_toArray → qd, getElem_cons_zero → qe, getElem_cons_succ → qf
theorem ex_go {f : Nat} (h : ExprAt f) (T : TE) (v : Nd) (w : World) (h1 : InE w T v) (h2 : good nameP f T) (h3 : (txt f T).length ≤ 20000) (h4 : RB w) : Calls Tryz.prog 55 #[v.val] w (StrP (txt f T) w) := h T v w h1 h2 h3 h4

set_option maxHeartbeats 8000000 in
set_option maxRecDepth 100000 in
theorem expr_k3 (f : Nat) (ih : ExprAt f) (T : TE) (v : Nd) (w : World) (hin : InE w T v) (hg : good nameP (f + 1) T) (hl : (txt (f + 1) T).length ≤ 20000) (ht : RB w) (hk : v.h.kind = 3) :
    Calls Tryz.prog 55 #[v.val] w (StrP (txt (f + 1) T) w) := by
 have hnd := hg.1
 rw [hin.hd, hin.length] at hnd
 have hlen : v.len = 2 := by rcases node_kinds hnd with h | h | h | h | h | h <;> omega
 have hl2 : T.l.length = 2 := by rw [hin.length]; exact hlen
 obtain ⟨T1, T2, hT⟩ := list2 hl2
 have hTa : T.a = T1 := by unfold TE.a; rw [hT]; rfl
 have hTb : T.b = T2 := by unfold TE.b; rw [hT]; rfl
 have hga : good nameP f T.a := hg.2 _ (by rw [hTa, hT]; exact List.mem_cons_self ..)
 have hgb : good nameP f T.b := hg.2 _ (by rw [hTb, hT]; exact List.mem_cons_of_mem _ (List.mem_cons_self ..))
 have HGA := Lib.hid hga
 have HGB := Lib.hid hgb
 have HIN := Lib.hid hin
 have HT := Lib.hid ht
 have IH := Lib.hid ih
 have hTk : T.h.kind = 3 := by rw [hin.hd]; exact hk
 obtain ⟨b, o, x, y, hA, hx, hy, ex, ey⟩ := hin.two hlen
 have hyk : T.b.h.kind = y.h.kind := by rw [hy.hd]
 have HTX := Lib.hid (show txt (f + 1) T = txt f T.a ++ ([32, 43, 32] ++ par (sumK y.h.kind) (txt f T.b)) by
   show (if _ then _ else _) = _
   rw [hTk, if_neg (by decide), if_neg (by decide), if_pos (by decide)]
   unfold need1 need2 opK
   rw [hyk]
   rfl)
 have HX := Lib.hid hx
 have HY := Lib.hid hy
 have EX := Lib.hid ex
 have EY := Lib.hid ey
 obtain ⟨la, hla⟩ : ∃ z, z = txt f T.a := ⟨_, rfl⟩
 obtain ⟨lb, hlb⟩ : ∃ z, z = txt f T.b := ⟨_, rfl⟩
 obtain ⟨sb, hsb⟩ : ∃ z, z = sumK y.h.kind := ⟨_, rfl⟩
 obtain ⟨L, hL⟩ : ∃ z, z = txt (f + 1) T := ⟨_, rfl⟩
 rw [← hla, ← hlb, ← hsb, ← hL] at HTX
 rw [← hL] at hl ⊢
 have hlen3 : la.length + 3 + (par sb lb).length ≤ 20000 := by
   have h := congrArg List.length HTX.out
   rw [List.length_append, List.length_append] at h
   simp only [List.length_cons, List.length_nil] at h
   omega
 have hplb := (par_len sb lb).1
 have c1 : ¬ (9223372036854775807 < la.length + 3) := by omega
 have c2 : ¬ (9223372036854775807 < la.length + 3 + (par sb lb).length) := by omega
 have HLA := Lib.hid (show (txt f T.a).length ≤ 20000 by rw [← hla]; omega)
 have HLB := Lib.hid (show (txt f T.b).length ≤ 20000 by rw [← hlb]; omega)
 have HSB := Lib.hid hsb
 have HQA := Lib.hid hla
 have HQB := Lib.hid hlb
 clear hla hlb hsb hL hin hg hl ht ih hx hy ex ey hga hgb hT hTa hTb hl2 hnd hyk hTk
 obtain ⟨⟨kd, n, d, nm, k⟩, A, len, cap⟩ := v
 simp only at hk hA hlen
 subst hk hA hlen
 simp only [Nd.val]
 go_enter Tryz.func55, Tryz.ntmps55
 go_wp2_with fail
 obtain ⟨w1, hw⟩ : ∃ z9 : World, z9 = w.alloc (.cells #[.int .i64 3, .int .i64 n, .int .i64 d, .string nm, .int .i64 k, .slice (some ⟨b, o, none⟩) 2 cap] 29) := ⟨_, rfl⟩
 have HB1 := Lib.hid (show Below w.heap.size w w1 by rw [hw]; exact below_box _ _)
 have F1bx := Lib.hid (show Blk w1 w.heap.size 29 #[.int .i64 3, .int .i64 n, .int .i64 d, .string nm, .int .i64 k, .slice (some ⟨b, o, none⟩) 2 cap] by rw [hw]; exact Blk.new _ _ _)
 rw [← hw]
 clear hw
 have F1t := Lib.hid (HT.out.belowW HB1.out)
 have F1i0 := Lib.hid (HX.out.belowW HB1.out)
 have F1i1 := Lib.hid (HY.out.belowW HB1.out)
 have F1e0 := Lib.hid (EX.out.belowW HB1.out)
 have F1e1 := Lib.hid (EY.out.belowW HB1.out)
 have HR2 := Lib.hid (below_dr w1)
 have R2t := Lib.hid (F1t.out.belowW HR2.out)
 have R2i0 := Lib.hid (F1i0.out.belowW HR2.out)
 have R2i1 := Lib.hid (F1i1.out.belowW HR2.out)
 have R2e0 := Lib.hid (F1e0.out.belowW HR2.out)
 have R2e1 := Lib.hid (F1e1.out.belowW HR2.out)
 have R2bx := Lib.hid (F1bx.out.belowW HR2.out)
 refine wp_region_held_drew (S := fun w' => w'.cell? ⟨w.heap.size, 5, none⟩ = some (.slice (some ⟨b, o, none⟩) 2 cap) ∧ w'.cell? ⟨b, o, none⟩ = some (.int .i64 x.h.kind) ∧ w'.cell? ⟨b, o + 1, none⟩ = some (.int .i64 x.h.n) ∧ w'.cell? ⟨b, o + 2, none⟩ = some (.int .i64 x.h.d) ∧ w'.cell? ⟨b, o + 3, none⟩ = some (.string x.h.name) ∧ w'.cell? ⟨b, o + 4, none⟩ = some (.int .i64 x.h.k) ∧ w'.cell? ⟨b, o + 5, none⟩ = some (.slice x.A x.len x.cap) ∧ w'.cell? ⟨b, o + 6, none⟩ = some (.int .i64 y.h.kind) ∧ w'.cell? ⟨b, o + 6 + 1, none⟩ = some (.int .i64 y.h.n) ∧ w'.cell? ⟨b, o + 6 + 2, none⟩ = some (.int .i64 y.h.d) ∧ w'.cell? ⟨b, o + 6 + 3, none⟩ = some (.string y.h.name) ∧ w'.cell? ⟨b, o + 6 + 4, none⟩ = some (.int .i64 y.h.k) ∧ w'.cell? ⟨b, o + 6 + 5, none⟩ = some (.slice y.A y.len y.cap)) (by kernel_rfl) ?_ (fun hHeld => ?_)
 case refine_1 => exact ⟨R2bx.out.cell 5, R2e0.out.c0, R2e0.out.c1, R2e0.out.c2, R2e0.out.c3, R2e0.out.c4, R2e0.out.c5, R2e1.out.c0, R2e1.out.c1, R2e1.out.c2, R2e1.out.c3, R2e1.out.c4, R2e1.out.c5⟩
 refine tkW 0 ?_
 refine tkW 1 ?_
 refine tkW 2 ?_
 refine tkW 3 ?_
 refine tkW 5 ?_
 refine tkW 7 ?_
 refine tkW 8 ?_
 refine tkW 9 ?_
 refine tkW 10 ?_
 refine tkW 11 ?_
 refine tkW 12 ?_
 refine tkW 13 ?_
 refine tkW 14 ?_
 refine wpAnyH_ready (rs := [4]) (by kernel_rfl) (by simp) ?_
 refine AllReadyH.cons rfl (fun K hK => ?_) AllReadyH.nil
 go_simp
 (with_reducible refine (ex_go IH.out T.a x _ R2i0.out HGA.out HLA.out R2t.out).mono ?_)
 rintro e w3 ⟨S1, rfl, HS1, HC3⟩
 have R3t := Lib.hid (R2t.out.belowW HC3.out)
 have R3i0 := Lib.hid (R2i0.out.belowW HC3.out)
 have R3i1 := Lib.hid (R2i1.out.belowW HC3.out)
 have R3e0 := Lib.hid (R2e0.out.belowW HC3.out)
 have R3e1 := Lib.hid (R2e1.out.belowW HC3.out)
 have R3bx := Lib.hid (R2bx.out.belowW HC3.out)
 have HR3 := Lib.hid (HR2.out.trans (HC3.out.mono HR2.out.size))
 have hS1 : S1.size = la.length := by rw [strp_size HS1.out, HQA.out]
 go_wp2_with fail
 clear hHeld
 refine hK.out _ _ ?_ (fun hHeld => ?_)
 case refine_1 => exact ⟨R3bx.out.cell 5, R3e0.out.c0, R3e0.out.c1, R3e0.out.c2, R3e0.out.c3, R3e0.out.c4, R3e0.out.c5, R3e1.out.c0, R3e1.out.c1, R3e1.out.c2, R3e1.out.c3, R3e1.out.c4, R3e1.out.c5⟩
 clear hK K
 try simp only [qa, qb, qc]
 refine tkW 6 ?_
 refine wpAnyH_ready (rs := [15]) (by kernel_rfl) (by simp) ?_
 refine AllReadyH.cons rfl (fun K hK => ?_) AllReadyH.nil
 go_simp
 (with_reducible refine (sum_p y _).mono ?_)
 rw [← HSB.out]
 rintro e w4 ⟨rfl, HC4⟩
 have R4t := Lib.hid (R3t.out.belowW HC4.out)
 have R4i0 := Lib.hid (R3i0.out.belowW HC4.out)
 have R4i1 := Lib.hid (R3i1.out.belowW HC4.out)
 have R4e0 := Lib.hid (R3e0.out.belowW HC4.out)
 have R4e1 := Lib.hid (R3e1.out.belowW HC4.out)
 have R4bx := Lib.hid (R3bx.out.belowW HC4.out)
 have HR4 := Lib.hid (HR3.out.trans (HC4.out.mono HR3.out.size))
 go_wp2_with fail
 clear hHeld
 refine hK.out _ _ ?_ (fun hHeld => ?_)
 case refine_1 => exact ⟨R4bx.out.cell 5, R4e0.out.c0, R4e0.out.c1, R4e0.out.c2, R4e0.out.c3, R4e0.out.c4, R4e0.out.c5, R4e1.out.c0, R4e1.out.c1, R4e1.out.c2, R4e1.out.c3, R4e1.out.c4, R4e1.out.c5⟩
 clear hK K
 try simp only [qa, qb, qc]
 refine wpAnyH_ready (rs := [16]) (by kernel_rfl) (by simp) ?_
 refine AllReadyH.cons rfl (fun K hK => ?_) AllReadyH.nil
 go_simp
 (with_reducible refine (operand_at f IH.out T.b y _ sb R4i1.out HGB.out HLB.out R4t.out).mono ?_)
 rintro e w5 ⟨S2, rfl, HS2, HC5⟩
 have R5t := Lib.hid (R4t.out.belowW HC5.out)
 have R5i0 := Lib.hid (R4i0.out.belowW HC5.out)
 have R5i1 := Lib.hid (R4i1.out.belowW HC5.out)
 have R5e0 := Lib.hid (R4e0.out.belowW HC5.out)
 have R5e1 := Lib.hid (R4e1.out.belowW HC5.out)
 have R5bx := Lib.hid (R4bx.out.belowW HC5.out)
 have HR5 := Lib.hid (HR4.out.trans (HC5.out.mono HR4.out.size))
 have hS2 : S2.size = (par sb lb).length := by rw [strp_size HS2.out, ← HQB.out]
 go_wp2_with fail
 clear hHeld
 refine hK.out _ _ ?_ (fun hHeld => ?_)
 case refine_1 => exact ⟨R5bx.out.cell 5, R5e0.out.c0, R5e0.out.c1, R5e0.out.c2, R5e0.out.c3, R5e0.out.c4, R5e0.out.c5, R5e1.out.c0, R5e1.out.c1, R5e1.out.c2, R5e1.out.c3, R5e1.out.c4, R5e1.out.c5⟩
 clear hK K
 try simp only [qa, qb, qc]
 refine tkW 17 ?_
 refine tkW 18 ?_
 refine wpAnyH_done (by kernel_rfl) ?_ _
 have HL5 := Lib.hid (HB1.out.trans (HR5.out.mono HB1.out.size))
 go_wp2_with fail
 go_ret
 exact ⟨_, rfl, Lib.hid (by rw [data_app, data_app, HS1.out, HS2.out, ← HQA.out, ← HQB.out, HTX.out, List.append_assoc]), HL5⟩

set_option maxHeartbeats 8000000 in
set_option maxRecDepth 100000 in
theorem expr_k4 (f : Nat) (ih : ExprAt f) (T : TE) (v : Nd) (w : World) (hin : InE w T v) (hg : good nameP (f + 1) T) (hl : (txt (f + 1) T).length ≤ 20000) (ht : RB w) (hk : v.h.kind = 4) :
    Calls Tryz.prog 55 #[v.val] w (StrP (txt (f + 1) T) w) := by
 have hnd := hg.1
 rw [hin.hd, hin.length] at hnd
 have hlen : v.len = 2 := by rcases node_kinds hnd with h | h | h | h | h | h <;> omega
 have hl2 : T.l.length = 2 := by rw [hin.length]; exact hlen
 obtain ⟨T1, T2, hT⟩ := list2 hl2
 have hTa : T.a = T1 := by unfold TE.a; rw [hT]; rfl
 have hTb : T.b = T2 := by unfold TE.b; rw [hT]; rfl
 have hga : good nameP f T.a := hg.2 _ (by rw [hTa, hT]; exact List.mem_cons_self ..)
 have hgb : good nameP f T.b := hg.2 _ (by rw [hTb, hT]; exact List.mem_cons_of_mem _ (List.mem_cons_self ..))
 have HGA := Lib.hid hga
 have HGB := Lib.hid hgb
 have HIN := Lib.hid hin
 have HT := Lib.hid ht
 have IH := Lib.hid ih
 have hTk : T.h.kind = 4 := by rw [hin.hd]; exact hk
 obtain ⟨b, o, x, y, hA, hx, hy, ex, ey⟩ := hin.two hlen
 have hyk : T.b.h.kind = y.h.kind := by rw [hy.hd]
 have HTX := Lib.hid (show txt (f + 1) T = txt f T.a ++ ([32, 45, 32] ++ par (sumK y.h.kind) (txt f T.b)) by
   show (if _ then _ else _) = _
   rw [hTk, if_neg (by decide), if_neg (by decide), if_pos (by decide)]
   unfold need1 need2 opK
   rw [hyk]
   rfl)
 have HX := Lib.hid hx
 have HY := Lib.hid hy
 have EX := Lib.hid ex
 have EY := Lib.hid ey
 obtain ⟨la, hla⟩ : ∃ z, z = txt f T.a := ⟨_, rfl⟩
 obtain ⟨lb, hlb⟩ : ∃ z, z = txt f T.b := ⟨_, rfl⟩
 obtain ⟨sb, hsb⟩ : ∃ z, z = sumK y.h.kind := ⟨_, rfl⟩
 obtain ⟨L, hL⟩ : ∃ z, z = txt (f + 1) T := ⟨_, rfl⟩
 rw [← hla, ← hlb, ← hsb, ← hL] at HTX
 rw [← hL] at hl ⊢
 have hlen3 : la.length + 3 + (par sb lb).length ≤ 20000 := by
   have h := congrArg List.length HTX.out
   rw [List.length_append, List.length_append] at h
   simp only [List.length_cons, List.length_nil] at h
   omega
 have hplb := (par_len sb lb).1
 have c1 : ¬ (9223372036854775807 < la.length + 3) := by omega
 have c2 : ¬ (9223372036854775807 < la.length + 3 + (par sb lb).length) := by omega
 have HLA := Lib.hid (show (txt f T.a).length ≤ 20000 by rw [← hla]; omega)
 have HLB := Lib.hid (show (txt f T.b).length ≤ 20000 by rw [← hlb]; omega)
 have HSB := Lib.hid hsb
 have HQA := Lib.hid hla
 have HQB := Lib.hid hlb
 clear hla hlb hsb hL hin hg hl ht ih hx hy ex ey hga hgb hT hTa hTb hl2 hnd hyk hTk
 obtain ⟨⟨kd, n, d, nm, k⟩, A, len, cap⟩ := v
 simp only at hk hA hlen
 subst hk hA hlen
 simp only [Nd.val]
 go_enter Tryz.func55, Tryz.ntmps55
 go_wp2_with fail
 obtain ⟨w1, hw⟩ : ∃ z9 : World, z9 = w.alloc (.cells #[.int .i64 4, .int .i64 n, .int .i64 d, .string nm, .int .i64 k, .slice (some ⟨b, o, none⟩) 2 cap] 29) := ⟨_, rfl⟩
 have HB1 := Lib.hid (show Below w.heap.size w w1 by rw [hw]; exact below_box _ _)
 have F1bx := Lib.hid (show Blk w1 w.heap.size 29 #[.int .i64 4, .int .i64 n, .int .i64 d, .string nm, .int .i64 k, .slice (some ⟨b, o, none⟩) 2 cap] by rw [hw]; exact Blk.new _ _ _)
 rw [← hw]
 clear hw
 have F1t := Lib.hid (HT.out.belowW HB1.out)
 have F1i0 := Lib.hid (HX.out.belowW HB1.out)
 have F1i1 := Lib.hid (HY.out.belowW HB1.out)
 have F1e0 := Lib.hid (EX.out.belowW HB1.out)
 have F1e1 := Lib.hid (EY.out.belowW HB1.out)
 have HR2 := Lib.hid (below_dr w1)
 have R2t := Lib.hid (F1t.out.belowW HR2.out)
 have R2i0 := Lib.hid (F1i0.out.belowW HR2.out)
 have R2i1 := Lib.hid (F1i1.out.belowW HR2.out)
 have R2e0 := Lib.hid (F1e0.out.belowW HR2.out)
 have R2e1 := Lib.hid (F1e1.out.belowW HR2.out)
 have R2bx := Lib.hid (F1bx.out.belowW HR2.out)
 refine wp_region_held_drew (S := fun w' => w'.cell? ⟨w.heap.size, 5, none⟩ = some (.slice (some ⟨b, o, none⟩) 2 cap) ∧ w'.cell? ⟨b, o, none⟩ = some (.int .i64 x.h.kind) ∧ w'.cell? ⟨b, o + 1, none⟩ = some (.int .i64 x.h.n) ∧ w'.cell? ⟨b, o + 2, none⟩ = some (.int .i64 x.h.d) ∧ w'.cell? ⟨b, o + 3, none⟩ = some (.string x.h.name) ∧ w'.cell? ⟨b, o + 4, none⟩ = some (.int .i64 x.h.k) ∧ w'.cell? ⟨b, o + 5, none⟩ = some (.slice x.A x.len x.cap) ∧ w'.cell? ⟨b, o + 6, none⟩ = some (.int .i64 y.h.kind) ∧ w'.cell? ⟨b, o + 6 + 1, none⟩ = some (.int .i64 y.h.n) ∧ w'.cell? ⟨b, o + 6 + 2, none⟩ = some (.int .i64 y.h.d) ∧ w'.cell? ⟨b, o + 6 + 3, none⟩ = some (.string y.h.name) ∧ w'.cell? ⟨b, o + 6 + 4, none⟩ = some (.int .i64 y.h.k) ∧ w'.cell? ⟨b, o + 6 + 5, none⟩ = some (.slice y.A y.len y.cap)) (by kernel_rfl) ?_ (fun hHeld => ?_)
 case refine_1 => exact ⟨R2bx.out.cell 5, R2e0.out.c0, R2e0.out.c1, R2e0.out.c2, R2e0.out.c3, R2e0.out.c4, R2e0.out.c5, R2e1.out.c0, R2e1.out.c1, R2e1.out.c2, R2e1.out.c3, R2e1.out.c4, R2e1.out.c5⟩
 refine tkW 0 ?_
 refine tkW 1 ?_
 refine tkW 2 ?_
 refine tkW 3 ?_
 refine tkW 5 ?_
 refine tkW 7 ?_
 refine tkW 8 ?_
 refine tkW 9 ?_
 refine tkW 10 ?_
 refine tkW 11 ?_
 refine tkW 12 ?_
 refine tkW 13 ?_
 refine tkW 14 ?_
 refine wpAnyH_ready (rs := [4]) (by kernel_rfl) (by simp) ?_
 refine AllReadyH.cons rfl (fun K hK => ?_) AllReadyH.nil
 go_simp
 (with_reducible refine (ex_go IH.out T.a x _ R2i0.out HGA.out HLA.out R2t.out).mono ?_)
 rintro e w3 ⟨S1, rfl, HS1, HC3⟩
 have R3t := Lib.hid (R2t.out.belowW HC3.out)
 have R3i0 := Lib.hid (R2i0.out.belowW HC3.out)
 have R3i1 := Lib.hid (R2i1.out.belowW HC3.out)
 have R3e0 := Lib.hid (R2e0.out.belowW HC3.out)
 have R3e1 := Lib.hid (R2e1.out.belowW HC3.out)
 have R3bx := Lib.hid (R2bx.out.belowW HC3.out)
 have HR3 := Lib.hid (HR2.out.trans (HC3.out.mono HR2.out.size))
 have hS1 : S1.size = la.length := by rw [strp_size HS1.out, HQA.out]
 go_wp2_with fail
 clear hHeld
 refine hK.out _ _ ?_ (fun hHeld => ?_)
 case refine_1 => exact ⟨R3bx.out.cell 5, R3e0.out.c0, R3e0.out.c1, R3e0.out.c2, R3e0.out.c3, R3e0.out.c4, R3e0.out.c5, R3e1.out.c0, R3e1.out.c1, R3e1.out.c2, R3e1.out.c3, R3e1.out.c4, R3e1.out.c5⟩
 clear hK K
 try simp only [qa, qb, qc]
 refine tkW 6 ?_
 refine wpAnyH_ready (rs := [15]) (by kernel_rfl) (by simp) ?_
 refine AllReadyH.cons rfl (fun K hK => ?_) AllReadyH.nil
 go_simp
 (with_reducible refine (sum_p y _).mono ?_)
 rw [← HSB.out]
 rintro e w4 ⟨rfl, HC4⟩
 have R4t := Lib.hid (R3t.out.belowW HC4.out)
 have R4i0 := Lib.hid (R3i0.out.belowW HC4.out)
 have R4i1 := Lib.hid (R3i1.out.belowW HC4.out)
 have R4e0 := Lib.hid (R3e0.out.belowW HC4.out)
 have R4e1 := Lib.hid (R3e1.out.belowW HC4.out)
 have R4bx := Lib.hid (R3bx.out.belowW HC4.out)
 have HR4 := Lib.hid (HR3.out.trans (HC4.out.mono HR3.out.size))
 go_wp2_with fail
 clear hHeld
 refine hK.out _ _ ?_ (fun hHeld => ?_)
 case refine_1 => exact ⟨R4bx.out.cell 5, R4e0.out.c0, R4e0.out.c1, R4e0.out.c2, R4e0.out.c3, R4e0.out.c4, R4e0.out.c5, R4e1.out.c0, R4e1.out.c1, R4e1.out.c2, R4e1.out.c3, R4e1.out.c4, R4e1.out.c5⟩
 clear hK K
 try simp only [qa, qb, qc]
 refine wpAnyH_ready (rs := [16]) (by kernel_rfl) (by simp) ?_
 refine AllReadyH.cons rfl (fun K hK => ?_) AllReadyH.nil
 go_simp
 (with_reducible refine (operand_at f IH.out T.b y _ sb R4i1.out HGB.out HLB.out R4t.out).mono ?_)
 rintro e w5 ⟨S2, rfl, HS2, HC5⟩
 have R5t := Lib.hid (R4t.out.belowW HC5.out)
 have R5i0 := Lib.hid (R4i0.out.belowW HC5.out)
 have R5i1 := Lib.hid (R4i1.out.belowW HC5.out)
 have R5e0 := Lib.hid (R4e0.out.belowW HC5.out)
 have R5e1 := Lib.hid (R4e1.out.belowW HC5.out)
 have R5bx := Lib.hid (R4bx.out.belowW HC5.out)
 have HR5 := Lib.hid (HR4.out.trans (HC5.out.mono HR4.out.size))
 have hS2 : S2.size = (par sb lb).length := by rw [strp_size HS2.out, ← HQB.out]
 go_wp2_with fail
 clear hHeld
 refine hK.out _ _ ?_ (fun hHeld => ?_)
 case refine_1 => exact ⟨R5bx.out.cell 5, R5e0.out.c0, R5e0.out.c1, R5e0.out.c2, R5e0.out.c3, R5e0.out.c4, R5e0.out.c5, R5e1.out.c0, R5e1.out.c1, R5e1.out.c2, R5e1.out.c3, R5e1.out.c4, R5e1.out.c5⟩
 clear hK K
 try simp only [qa, qb, qc]
 refine tkW 17 ?_
 refine tkW 18 ?_
 refine wpAnyH_done (by kernel_rfl) ?_ _
 have HL5 := Lib.hid (HB1.out.trans (HR5.out.mono HB1.out.size))
 go_wp2_with fail
 go_ret
 exact ⟨_, rfl, Lib.hid (by rw [data_app, data_app, HS1.out, HS2.out, ← HQA.out, ← HQB.out, HTX.out, List.append_assoc]), HL5⟩
end Go.Proofs.YtkjoohnndobjeaaGreatDoor
