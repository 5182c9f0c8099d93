/-
  The walk of the reference's text of an expression.
-/
import Derived.Test.YtoogeihbhhcpaaaGreatDoorFmR
import Derived.Test.YtoogeihbhhcpaaaGreatDoorFrP
set_option linter.unusedVariables false
namespace Go.Proofs.YtoogeihbhhcpaaaGreatDoor
open Go.RowKit Go.Fl Go.Fl.Nm Go.Fl.Fm Go.Fl.Rt
open List renaming setIfInBounds_toArray → qa, set_cons_zero → qb, set_cons_succ → qc, getElem_toArray → qd, getElem_cons_zero → qe, getElem_cons_succ → qf

set_option maxHeartbeats 8000000 in
set_option maxRecDepth 100000 in
theorem text_k5 (f : Nat) (ih : TextAt f) (T : TE) (v : Nd) (w : World) (hin : InE w T v) (hg : good nameP (f + 1) T) (hl : (txt (f + 1) T).length ≤ 20000) (hk : v.h.kind = 5) :
    Calls Tryz.prog 27 #[v.val] w (StrP (txt (f + 1) T) w) := by
 have hnd := hg.1
 rw [hin.hd, hin.length] at hnd
 have hlen : v.len = 2 := by rcases node_kinds hnd with h | h | h | h | h | h <;> omega
 have hl2 : T.l.length = 2 := by rw [hin.length]; exact hlen
 obtain ⟨T1, T2, hT⟩ := list2 hl2
 have hTa : T.a = T1 := by unfold TE.a; rw [hT]; rfl
 have hTb : T.b = T2 := by unfold TE.b; rw [hT]; rfl
 have hga : good nameP f T.a := hg.2 _ (by rw [hTa, hT]; exact List.mem_cons_self ..)
 have hgb : good nameP f T.b := hg.2 _ (by rw [hTb, hT]; exact List.mem_cons_of_mem _ (List.mem_cons_self ..))
 have HGA := Lib.hid hga
 have HGB := Lib.hid hgb
 have IH := Lib.hid ih
 have hTk : T.h.kind = 5 := by rw [hin.hd]; exact hk
 obtain ⟨b, o, x, y, hA, hx, hy, ex, ey⟩ := hin.two hlen
 have hxh : T.a.h = x.h := hx.hd
 have hyh : T.b.h = y.h := hy.hd
 have HTX := Lib.hid (show txt (f + 1) T = par (need1 5 x.h y.h) (txt f T.a) ++ ([32, 42, 32] ++ par (need2 5 y.h) (txt f T.b)) by
   show (if _ then _ else _) = _
   rw [hTk, if_neg (by decide), if_neg (by decide), if_pos (by decide), hxh, hyh]
   rfl)
 have HX := Lib.hid hx
 have HY := Lib.hid hy
 have EX := Lib.hid ex
 have EY := Lib.hid ey
 obtain ⟨la, hla⟩ : ∃ z, z = txt f T.a := ⟨_, rfl⟩
 obtain ⟨lb, hlb⟩ : ∃ z, z = txt f T.b := ⟨_, rfl⟩
 obtain ⟨na, hna⟩ : ∃ z, z = need1 5 x.h y.h := ⟨_, rfl⟩
 obtain ⟨nb, hnb⟩ : ∃ z, z = need2 5 y.h := ⟨_, rfl⟩
 obtain ⟨L, hL⟩ : ∃ z, z = txt (f + 1) T := ⟨_, rfl⟩
 rw [← hla, ← hlb, ← hna, ← hnb, ← hL] at HTX
 rw [← hL] at hl ⊢
 have hlen3 : (par na la).length + 3 + (par nb lb).length ≤ 20000 := by
   have h := congrArg List.length HTX.out
   rw [List.length_append, List.length_append] at h
   simp only [List.length_cons, List.length_nil] at h
   omega
 have hpla := (par_len na la).1
 have hplb := (par_len nb lb).1
 have c1 : ¬ (9223372036854775807 < (par na la).length + 3) := by omega
 have c2 : ¬ (9223372036854775807 < (par na la).length + 3 + (par nb lb).length) := by omega
 have HLA := Lib.hid (show (txt f T.a).length ≤ 20000 by rw [← hla]; omega)
 have HLB := Lib.hid (show (txt f T.b).length ≤ 20000 by rw [← hlb]; omega)
 have hla9 : la.length ≤ 20000 := by omega
 have hlb9 : lb.length ≤ 20000 := by omega
 have HNA := Lib.hid hna
 have HNB := Lib.hid hnb
 have HQA := Lib.hid hla
 have HQB := Lib.hid hlb
 clear hla hlb hna hnb hL hin hg hl ih hx hy ex ey hga hgb hT hTa hTb hl2 hnd hTk hxh hyh
 obtain ⟨⟨kd, n, d, nm, k⟩, A, len, cap⟩ := v
 simp only at hk hA hlen
 subst hk hA hlen
 simp only [Nd.val]
 go_enter Tryz.func27, Tryz.ntmps27
 go_upto_region 1 with (fail)
 obtain ⟨w1, hw⟩ : ∃ z9 : World, z9 = w.alloc (.cells #[.int .i64 5, .int .i64 n, .int .i64 d, .string nm, .int .i64 k, .slice (some ⟨b, o, none⟩) 2 cap] 51) := ⟨_, rfl⟩
 have HB1 := Lib.hid (show Below w.heap.size w w1 by rw [hw]; exact below_box _ _)
 have F1bx := Lib.hid (show Blk w1 w.heap.size 51 #[.int .i64 5, .int .i64 n, .int .i64 d, .string nm, .int .i64 k, .slice (some ⟨b, o, none⟩) 2 cap] by rw [hw]; exact Blk.new _ _ _)
 rw [← hw]
 clear hw
 have F1i0 := Lib.hid (HX.out.belowW HB1.out)
 have F1e0 := Lib.hid (EX.out.belowW HB1.out)
 have F1i1 := Lib.hid (HY.out.belowW HB1.out)
 have F1e1 := Lib.hid (EY.out.belowW HB1.out)
 obtain ⟨pb0, pb1, pb2, pb3, pb4, pb5⟩ := F1bx.out.cs6
 have el0 : w1.cell? ⟨b, o, none⟩ = some (.int .i64 x.h.kind) := F1e0.out.c0
 have el1 : w1.cell? ⟨b, o + 1, none⟩ = some (.int .i64 x.h.n) := F1e0.out.c1
 have el2 : w1.cell? ⟨b, o + 2, none⟩ = some (.int .i64 x.h.d) := F1e0.out.c2
 have el3 : w1.cell? ⟨b, o + 3, none⟩ = some (.string x.h.name) := F1e0.out.c3
 have el4 : w1.cell? ⟨b, o + 4, none⟩ = some (.int .i64 x.h.k) := F1e0.out.c4
 have el5 : w1.cell? ⟨b, o + 5, none⟩ = some (.slice x.A x.len x.cap) := F1e0.out.c5
 go_upto_region 7 with (fail)
 clear pb0 pb1 pb2 pb3 pb4 pb5 el0 el1 el2 el3 el4 el5
 obtain ⟨w2, hw⟩ : ∃ z9 : World, z9 = w1.alloc (.cells #[.int .i64 x.h.kind, .int .i64 x.h.n, .int .i64 x.h.d, .string x.h.name, .int .i64 x.h.k, .slice x.A x.len x.cap] 51) := ⟨_, rfl⟩
 have HB2 := Lib.hid (show Below w1.heap.size w1 w2 by rw [hw]; exact below_box _ _)
 have F2ba := Lib.hid (show Blk w2 w1.heap.size 51 #[.int .i64 x.h.kind, .int .i64 x.h.n, .int .i64 x.h.d, .string x.h.name, .int .i64 x.h.k, .slice x.A x.len x.cap] by rw [hw]; exact Blk.new _ _ _)
 rw [← hw]
 clear hw
 have F2i0 := Lib.hid (F1i0.out.belowW HB2.out)
 have F2e0 := Lib.hid (F1e0.out.belowW HB2.out)
 have F2i1 := Lib.hid (F1i1.out.belowW HB2.out)
 have F2e1 := Lib.hid (F1e1.out.belowW HB2.out)
 have F2bx := Lib.hid (F1bx.out.belowW HB2.out)
 have HL2 := Lib.hid (HB1.out.trans (HB2.out.mono HB1.out.size))
 obtain ⟨pb0, pb1, pb2, pb3, pb4, pb5⟩ := F2bx.out.cs6
 obtain ⟨qa0, qa1, qa2, qa3, qa4, qa5⟩ := F2ba.out.cs6
 go_wp2_with fail
 refine (tx_go IH.out T.a x w2 F2i0.out HGA.out HLA.out).mono ?_
 rintro e w3 ⟨S1, rfl, HS1, HB3⟩
 clear pb0 pb1 pb2 pb3 pb4 pb5 qa0 qa1 qa2 qa3 qa4 qa5
 have F3i0 := Lib.hid (F2i0.out.belowW HB3.out)
 have F3e0 := Lib.hid (F2e0.out.belowW HB3.out)
 have F3i1 := Lib.hid (F2i1.out.belowW HB3.out)
 have F3e1 := Lib.hid (F2e1.out.belowW HB3.out)
 have F3bx := Lib.hid (F2bx.out.belowW HB3.out)
 have F3ba := Lib.hid (F2ba.out.belowW HB3.out)
 have HL3 := Lib.hid (HL2.out.trans (HB3.out.mono HL2.out.size))
 have hS1 : S1.size = la.length := by rw [strp_size HS1.out, HQA.out]
 have HT1 := Lib.hid (show S1.data.toList = la from HS1.out.trans HQA.out.symm)
 obtain ⟨pb0, pb1, pb2, pb3, pb4, pb5⟩ := F3bx.out.cs6
 obtain ⟨qa0, qa1, qa2, qa3, qa4, qa5⟩ := F3ba.out.cs6
 clear pb0 pb1 pb2 pb3 pb4 pb5 qa0 qa1 qa2 qa3 qa4 qa5
 obtain ⟨pb0, pb1, pb2, pb3, pb4, pb5⟩ := F3bx.out.cs6
 obtain ⟨qa0, qa1, qa2, qa3, qa4, qa5⟩ := F3ba.out.cs6
 have el0 : w3.cell? ⟨b, o + 6, none⟩ = some (.int .i64 y.h.kind) := F3e1.out.c0
 have el1 : w3.cell? ⟨b, o + 6 + 1, none⟩ = some (.int .i64 y.h.n) := F3e1.out.c1
 have el2 : w3.cell? ⟨b, o + 6 + 2, none⟩ = some (.int .i64 y.h.d) := F3e1.out.c2
 have el3 : w3.cell? ⟨b, o + 6 + 3, none⟩ = some (.string y.h.name) := F3e1.out.c3
 have el4 : w3.cell? ⟨b, o + 6 + 4, none⟩ = some (.int .i64 y.h.k) := F3e1.out.c4
 have el5 : w3.cell? ⟨b, o + 6 + 5, none⟩ = some (.slice y.A y.len y.cap) := F3e1.out.c5
 go_upto_region 19 with (fail)
 clear pb0 pb1 pb2 pb3 pb4 pb5 qa0 qa1 qa2 qa3 qa4 qa5 el0 el1 el2 el3 el4 el5
 obtain ⟨w4, hw⟩ : ∃ z9 : World, z9 = w3.alloc (.cells #[.int .i64 y.h.kind, .int .i64 y.h.n, .int .i64 y.h.d, .string y.h.name, .int .i64 y.h.k, .slice y.A y.len y.cap] 51) := ⟨_, rfl⟩
 have HB4 := Lib.hid (show Below w3.heap.size w3 w4 by rw [hw]; exact below_box _ _)
 have F4bb := Lib.hid (show Blk w4 w3.heap.size 51 #[.int .i64 y.h.kind, .int .i64 y.h.n, .int .i64 y.h.d, .string y.h.name, .int .i64 y.h.k, .slice y.A y.len y.cap] by rw [hw]; exact Blk.new _ _ _)
 rw [← hw]
 clear hw
 have F4i0 := Lib.hid (F3i0.out.belowW HB4.out)
 have F4e0 := Lib.hid (F3e0.out.belowW HB4.out)
 have F4i1 := Lib.hid (F3i1.out.belowW HB4.out)
 have F4e1 := Lib.hid (F3e1.out.belowW HB4.out)
 have F4bx := Lib.hid (F3bx.out.belowW HB4.out)
 have F4ba := Lib.hid (F3ba.out.belowW HB4.out)
 have HL4 := Lib.hid (HL3.out.trans (HB4.out.mono HL3.out.size))
 obtain ⟨pb0, pb1, pb2, pb3, pb4, pb5⟩ := F4bx.out.cs6
 obtain ⟨qa0, qa1, qa2, qa3, qa4, qa5⟩ := F4ba.out.cs6
 obtain ⟨qb0, qb1, qb2, qb3, qb4, qb5⟩ := F4bb.out.cs6
 go_wp2_with fail
 refine (tx_go IH.out T.b y w4 F4i1.out HGB.out HLB.out).mono ?_
 rintro e w5 ⟨S2, rfl, HS2, HB5⟩
 clear pb0 pb1 pb2 pb3 pb4 pb5 qa0 qa1 qa2 qa3 qa4 qa5 qb0 qb1 qb2 qb3 qb4 qb5
 have F5i0 := Lib.hid (F4i0.out.belowW HB5.out)
 have F5e0 := Lib.hid (F4e0.out.belowW HB5.out)
 have F5i1 := Lib.hid (F4i1.out.belowW HB5.out)
 have F5e1 := Lib.hid (F4e1.out.belowW HB5.out)
 have F5bx := Lib.hid (F4bx.out.belowW HB5.out)
 have F5ba := Lib.hid (F4ba.out.belowW HB5.out)
 have F5bb := Lib.hid (F4bb.out.belowW HB5.out)
 have HL5 := Lib.hid (HL4.out.trans (HB5.out.mono HL4.out.size))
 have hS2 : S2.size = lb.length := by rw [strp_size HS2.out, HQB.out]
 have HT2 := Lib.hid (show S2.data.toList = lb from HS2.out.trans HQB.out.symm)
 obtain ⟨pb0, pb1, pb2, pb3, pb4, pb5⟩ := F5bx.out.cs6
 obtain ⟨qa0, qa1, qa2, qa3, qa4, qa5⟩ := F5ba.out.cs6
 obtain ⟨qb0, qb1, qb2, qb3, qb4, qb5⟩ := F5bb.out.cs6
 go_wp2_with fail
 refine (sum_r ⟨⟨5, n, d, nm, k⟩, some ⟨b, o, none⟩, 2, cap⟩ w5).mono ?_
 rw [show sumK (Nd.mk ⟨5, n, d, nm, k⟩ (some ⟨b, o, none⟩) 2 cap).h.kind = false from rfl]
 rintro e w6 ⟨rfl, HB6⟩
 clear pb0 pb1 pb2 pb3 pb4 pb5 qa0 qa1 qa2 qa3 qa4 qa5 qb0 qb1 qb2 qb3 qb4 qb5
 have F6i0 := Lib.hid (F5i0.out.belowW HB6.out)
 have F6e0 := Lib.hid (F5e0.out.belowW HB6.out)
 have F6i1 := Lib.hid (F5i1.out.belowW HB6.out)
 have F6e1 := Lib.hid (F5e1.out.belowW HB6.out)
 have F6bx := Lib.hid (F5bx.out.belowW HB6.out)
 have F6ba := Lib.hid (F5ba.out.belowW HB6.out)
 have F6bb := Lib.hid (F5bb.out.belowW HB6.out)
 have HL6 := Lib.hid (HL5.out.trans (HB6.out.mono HL5.out.size))
 obtain ⟨pb0, pb1, pb2, pb3, pb4, pb5⟩ := F6bx.out.cs6
 obtain ⟨qa0, qa1, qa2, qa3, qa4, qa5⟩ := F6ba.out.cs6
 obtain ⟨qb0, qb1, qb2, qb3, qb4, qb5⟩ := F6bb.out.cs6
 go_upto_region 30 with (fail)
 clear pb0 pb1 pb2 pb3 pb4 pb5 qa0 qa1 qa2 qa3 qa4 qa5 qb0 qb1 qb2 qb3 qb4 qb5
 cases ca : sumK x.h.kind with
 | false =>
  cases ds : sumK y.h.kind with
  | false =>
   cases dp : prodK y.h.kind with
   | false =>
    cases db : brok y.h with
    | false =>
     have HN1 := Lib.hid (show na = false by rw [HNA.out]; unfold need1; rw [ca]; rfl)
     rw [HN1.out] at c1 c2 HTX hpla
     have HN2 := Lib.hid (show nb = false by rw [HNB.out]; unfold need2; rw [ds, dp, db]; rfl)
     rw [HN2.out] at c2 HTX hplb
     have Hca := Lib.hid ca
     clear ca
     have Hds := Lib.hid ds
     clear ds
     have Hdp := Lib.hid dp
     clear dp
     have Hdb := Lib.hid db
     clear db
     have HR7 := Lib.hid (below_dr w6)
     have R7i0 := Lib.hid (F6i0.out.belowW HR7.out)
     have R7e0 := Lib.hid (F6e0.out.belowW HR7.out)
     have R7i1 := Lib.hid (F6i1.out.belowW HR7.out)
     have R7e1 := Lib.hid (F6e1.out.belowW HR7.out)
     have R7bx := Lib.hid (F6bx.out.belowW HR7.out)
     have R7ba := Lib.hid (F6ba.out.belowW HR7.out)
     have R7bb := Lib.hid (F6bb.out.belowW HR7.out)
     refine wp_region_held_drew (S := fun w' => w'.cell? ⟨w1.heap.size, 0, none⟩ = some (.int .i64 x.h.kind) ∧ w'.cell? ⟨w1.heap.size, 1, none⟩ = some (.int .i64 x.h.n) ∧ w'.cell? ⟨w1.heap.size, 2, none⟩ = some (.int .i64 x.h.d) ∧ w'.cell? ⟨w1.heap.size, 3, none⟩ = some (.string x.h.name) ∧ w'.cell? ⟨w1.heap.size, 4, none⟩ = some (.int .i64 x.h.k) ∧ w'.cell? ⟨w1.heap.size, 5, none⟩ = some (.slice x.A x.len x.cap) ∧ w'.cell? ⟨w3.heap.size, 0, none⟩ = some (.int .i64 y.h.kind) ∧ w'.cell? ⟨w3.heap.size, 1, none⟩ = some (.int .i64 y.h.n) ∧ w'.cell? ⟨w3.heap.size, 2, none⟩ = some (.int .i64 y.h.d) ∧ w'.cell? ⟨w3.heap.size, 3, none⟩ = some (.string y.h.name) ∧ w'.cell? ⟨w3.heap.size, 4, none⟩ = some (.int .i64 y.h.k) ∧ w'.cell? ⟨w3.heap.size, 5, none⟩ = some (.slice y.A y.len y.cap)) (by kernel_rfl) ?_ (fun hHeld => ?_)
     case refine_1 => exact ⟨R7ba.out.cell 0, R7ba.out.cell 1, R7ba.out.cell 2, R7ba.out.cell 3, R7ba.out.cell 4, R7ba.out.cell 5, R7bb.out.cell 0, R7bb.out.cell 1, R7bb.out.cell 2, R7bb.out.cell 3, R7bb.out.cell 4, R7bb.out.cell 5⟩
     refine tkW 0 ?_
     refine tkW 1 ?_
     refine tkW 7 ?_
     refine tkW 9 ?_
     refine tkW 10 ?_
     refine wpAnyH_ready (rs := [2]) (by kernel_rfl) (by simp) ?_
     refine AllReadyH.cons rfl (fun K hK => ?_) AllReadyH.nil
     go_simp
     (with_reducible refine (sum_r x _).mono ?_)
     rw [Hca.out]
     rintro e w8 ⟨rfl, HC8⟩
     have R8i0 := Lib.hid (R7i0.out.belowW HC8.out)
     have R8e0 := Lib.hid (R7e0.out.belowW HC8.out)
     have R8i1 := Lib.hid (R7i1.out.belowW HC8.out)
     have R8e1 := Lib.hid (R7e1.out.belowW HC8.out)
     have R8bx := Lib.hid (R7bx.out.belowW HC8.out)
     have R8ba := Lib.hid (R7ba.out.belowW HC8.out)
     have R8bb := Lib.hid (R7bb.out.belowW HC8.out)
     have HR8 := Lib.hid (HR7.out.trans (HC8.out.mono HR7.out.size))
     go_wp2_with fail
     clear hHeld
     refine hK.out _ _ ?_ (fun hHeld => ?_)
     case refine_1 => exact ⟨R8ba.out.cell 0, R8ba.out.cell 1, R8ba.out.cell 2, R8ba.out.cell 3, R8ba.out.cell 4, R8ba.out.cell 5, R8bb.out.cell 0, R8bb.out.cell 1, R8bb.out.cell 2, R8bb.out.cell 3, R8bb.out.cell 4, R8bb.out.cell 5⟩
     clear hK K
     try simp only [qa, qb, qc]
     refine tkW 3 ?_
     refine tkW 4 ?_
     refine tkW 5 ?_
     refine wpAnyH_ready (rs := [6]) (by kernel_rfl) (by simp) ?_
     refine AllReadyH.cons rfl (fun K hK => ?_) AllReadyH.nil
     go_simp
     (with_reducible refine (wrap_r S1 false _ la HT1.out hla9).mono ?_)
     rintro e w9 ⟨S3, rfl, HS3, HC9⟩
     have R9i0 := Lib.hid (R8i0.out.belowW HC9.out)
     have R9e0 := Lib.hid (R8e0.out.belowW HC9.out)
     have R9i1 := Lib.hid (R8i1.out.belowW HC9.out)
     have R9e1 := Lib.hid (R8e1.out.belowW HC9.out)
     have R9bx := Lib.hid (R8bx.out.belowW HC9.out)
     have R9ba := Lib.hid (R8ba.out.belowW HC9.out)
     have R9bb := Lib.hid (R8bb.out.belowW HC9.out)
     have HR9 := Lib.hid (HR8.out.trans (HC9.out.mono HR8.out.size))
     have hS3 : S3.size = (par false la).length := strp_size HS3.out
     go_wp2_with fail
     clear hHeld
     refine hK.out _ _ ?_ (fun hHeld => ?_)
     case refine_1 => exact ⟨R9ba.out.cell 0, R9ba.out.cell 1, R9ba.out.cell 2, R9ba.out.cell 3, R9ba.out.cell 4, R9ba.out.cell 5, R9bb.out.cell 0, R9bb.out.cell 1, R9bb.out.cell 2, R9bb.out.cell 3, R9bb.out.cell 4, R9bb.out.cell 5⟩
     clear hK K
     try simp only [qa, qb, qc]
     refine tkW 8 ?_
     refine wpAnyH_ready (rs := [11]) (by kernel_rfl) (by simp) ?_
     refine AllReadyH.cons rfl (fun K hK => ?_) AllReadyH.nil
     go_simp
     (with_reducible refine (sum_r y _).mono ?_)
     rw [Hds.out]
     rintro e w10 ⟨rfl, HC10⟩
     have R10i0 := Lib.hid (R9i0.out.belowW HC10.out)
     have R10e0 := Lib.hid (R9e0.out.belowW HC10.out)
     have R10i1 := Lib.hid (R9i1.out.belowW HC10.out)
     have R10e1 := Lib.hid (R9e1.out.belowW HC10.out)
     have R10bx := Lib.hid (R9bx.out.belowW HC10.out)
     have R10ba := Lib.hid (R9ba.out.belowW HC10.out)
     have R10bb := Lib.hid (R9bb.out.belowW HC10.out)
     have HR10 := Lib.hid (HR9.out.trans (HC10.out.mono HR9.out.size))
     go_wp2_with fail
     clear hHeld
     refine hK.out _ _ ?_ (fun hHeld => ?_)
     case refine_1 => exact ⟨R10ba.out.cell 0, R10ba.out.cell 1, R10ba.out.cell 2, R10ba.out.cell 3, R10ba.out.cell 4, R10ba.out.cell 5, R10bb.out.cell 0, R10bb.out.cell 1, R10bb.out.cell 2, R10bb.out.cell 3, R10bb.out.cell 4, R10bb.out.cell 5⟩
     clear hK K
     try simp only [qa, qb, qc]
     refine tkW 12 ?_
     refine tkW 13 ?_
     refine wpAnyH_ready (rs := [14]) (by kernel_rfl) (by simp) ?_
     refine AllReadyH.cons rfl (fun K hK => ?_) AllReadyH.nil
     go_simp
     (with_reducible refine (prod_r y _).mono ?_)
     rw [Hdp.out]
     rintro e w11 ⟨rfl, HC11⟩
     have R11i0 := Lib.hid (R10i0.out.belowW HC11.out)
     have R11e0 := Lib.hid (R10e0.out.belowW HC11.out)
     have R11i1 := Lib.hid (R10i1.out.belowW HC11.out)
     have R11e1 := Lib.hid (R10e1.out.belowW HC11.out)
     have R11bx := Lib.hid (R10bx.out.belowW HC11.out)
     have R11ba := Lib.hid (R10ba.out.belowW HC11.out)
     have R11bb := Lib.hid (R10bb.out.belowW HC11.out)
     have HR11 := Lib.hid (HR10.out.trans (HC11.out.mono HR10.out.size))
     go_wp2_with fail
     clear hHeld
     refine hK.out _ _ ?_ (fun hHeld => ?_)
     case refine_1 => exact ⟨R11ba.out.cell 0, R11ba.out.cell 1, R11ba.out.cell 2, R11ba.out.cell 3, R11ba.out.cell 4, R11ba.out.cell 5, R11bb.out.cell 0, R11bb.out.cell 1, R11bb.out.cell 2, R11bb.out.cell 3, R11bb.out.cell 4, R11bb.out.cell 5⟩
     clear hK K
     try simp only [qa, qb, qc]
     refine tkW 15 ?_
     refine tkW 16 ?_
     refine tkW 17 ?_
     refine wpAnyH_ready (rs := [18]) (by kernel_rfl) (by simp) ?_
     refine AllReadyH.cons rfl (fun K hK => ?_) AllReadyH.nil
     go_simp
     (with_reducible refine (brok_r y _).mono ?_)
     rw [Hdb.out]
     rintro e w12 ⟨rfl, HC12⟩
     have R12i0 := Lib.hid (R11i0.out.belowW HC12.out)
     have R12e0 := Lib.hid (R11e0.out.belowW HC12.out)
     have R12i1 := Lib.hid (R11i1.out.belowW HC12.out)
     have R12e1 := Lib.hid (R11e1.out.belowW HC12.out)
     have R12bx := Lib.hid (R11bx.out.belowW HC12.out)
     have R12ba := Lib.hid (R11ba.out.belowW HC12.out)
     have R12bb := Lib.hid (R11bb.out.belowW HC12.out)
     have HR12 := Lib.hid (HR11.out.trans (HC12.out.mono HR11.out.size))
     go_wp2_with fail
     clear hHeld
     refine hK.out _ _ ?_ (fun hHeld => ?_)
     case refine_1 => exact ⟨R12ba.out.cell 0, R12ba.out.cell 1, R12ba.out.cell 2, R12ba.out.cell 3, R12ba.out.cell 4, R12ba.out.cell 5, R12bb.out.cell 0, R12bb.out.cell 1, R12bb.out.cell 2, R12bb.out.cell 3, R12bb.out.cell 4, R12bb.out.cell 5⟩
     clear hK K
     try simp only [qa, qb, qc]
     refine tkW 19 ?_
     refine wpAnyH_ready (rs := [20]) (by kernel_rfl) (by simp) ?_
     refine AllReadyH.cons rfl (fun K hK => ?_) AllReadyH.nil
     go_simp
     (with_reducible refine (wrap_r S2 false _ lb HT2.out hlb9).mono ?_)
     rintro e w13 ⟨S4, rfl, HS4, HC13⟩
     have R13i0 := Lib.hid (R12i0.out.belowW HC13.out)
     have R13e0 := Lib.hid (R12e0.out.belowW HC13.out)
     have R13i1 := Lib.hid (R12i1.out.belowW HC13.out)
     have R13e1 := Lib.hid (R12e1.out.belowW HC13.out)
     have R13bx := Lib.hid (R12bx.out.belowW HC13.out)
     have R13ba := Lib.hid (R12ba.out.belowW HC13.out)
     have R13bb := Lib.hid (R12bb.out.belowW HC13.out)
     have HR13 := Lib.hid (HR12.out.trans (HC13.out.mono HR12.out.size))
     have hS4 : S4.size = (par false lb).length := strp_size HS4.out
     go_wp2_with fail
     clear hHeld
     refine hK.out _ _ ?_ (fun hHeld => ?_)
     case refine_1 => exact ⟨R13ba.out.cell 0, R13ba.out.cell 1, R13ba.out.cell 2, R13ba.out.cell 3, R13ba.out.cell 4, R13ba.out.cell 5, R13bb.out.cell 0, R13bb.out.cell 1, R13bb.out.cell 2, R13bb.out.cell 3, R13bb.out.cell 4, R13bb.out.cell 5⟩
     clear hK K
     try simp only [qa, qb, qc]
     refine tkW 21 ?_
     refine tkW 22 ?_
     refine wpAnyH_done (by kernel_rfl) ?_ _
     have HL13 := Lib.hid (HL6.out.trans (HR13.out.mono HL6.out.size))
     go_wp2_with fail
     go_ret
     exact ⟨_, rfl, Lib.hid (by rw [data_app, data_app, HS3.out, HS4.out, HTX.out, List.append_assoc]), HL13⟩
    | true =>
     have HN1 := Lib.hid (show na = false by rw [HNA.out]; unfold need1; rw [ca]; rfl)
     rw [HN1.out] at c1 c2 HTX hpla
     have HN2 := Lib.hid (show nb = true by rw [HNB.out]; unfold need2; rw [ds, dp, db]; rfl)
     rw [HN2.out] at c2 HTX hplb
     have Hca := Lib.hid ca
     clear ca
     have Hds := Lib.hid ds
     clear ds
     have Hdp := Lib.hid dp
     clear dp
     have Hdb := Lib.hid db
     clear db
     have HR7 := Lib.hid (below_dr w6)
     have R7i0 := Lib.hid (F6i0.out.belowW HR7.out)
     have R7e0 := Lib.hid (F6e0.out.belowW HR7.out)
     have R7i1 := Lib.hid (F6i1.out.belowW HR7.out)
     have R7e1 := Lib.hid (F6e1.out.belowW HR7.out)
     have R7bx := Lib.hid (F6bx.out.belowW HR7.out)
     have R7ba := Lib.hid (F6ba.out.belowW HR7.out)
     have R7bb := Lib.hid (F6bb.out.belowW HR7.out)
     refine wp_region_held_drew (S := fun w' => w'.cell? ⟨w1.heap.size, 0, none⟩ = some (.int .i64 x.h.kind) ∧ w'.cell? ⟨w1.heap.size, 1, none⟩ = some (.int .i64 x.h.n) ∧ w'.cell? ⟨w1.heap.size, 2, none⟩ = some (.int .i64 x.h.d) ∧ w'.cell? ⟨w1.heap.size, 3, none⟩ = some (.string x.h.name) ∧ w'.cell? ⟨w1.heap.size, 4, none⟩ = some (.int .i64 x.h.k) ∧ w'.cell? ⟨w1.heap.size, 5, none⟩ = some (.slice x.A x.len x.cap) ∧ w'.cell? ⟨w3.heap.size, 0, none⟩ = some (.int .i64 y.h.kind) ∧ w'.cell? ⟨w3.heap.size, 1, none⟩ = some (.int .i64 y.h.n) ∧ w'.cell? ⟨w3.heap.size, 2, none⟩ = some (.int .i64 y.h.d) ∧ w'.cell? ⟨w3.heap.size, 3, none⟩ = some (.string y.h.name) ∧ w'.cell? ⟨w3.heap.size, 4, none⟩ = some (.int .i64 y.h.k) ∧ w'.cell? ⟨w3.heap.size, 5, none⟩ = some (.slice y.A y.len y.cap)) (by kernel_rfl) ?_ (fun hHeld => ?_)
     case refine_1 => exact ⟨R7ba.out.cell 0, R7ba.out.cell 1, R7ba.out.cell 2, R7ba.out.cell 3, R7ba.out.cell 4, R7ba.out.cell 5, R7bb.out.cell 0, R7bb.out.cell 1, R7bb.out.cell 2, R7bb.out.cell 3, R7bb.out.cell 4, R7bb.out.cell 5⟩
     refine tkW 0 ?_
     refine tkW 1 ?_
     refine tkW 7 ?_
     refine tkW 9 ?_
     refine tkW 10 ?_
     refine wpAnyH_ready (rs := [2]) (by kernel_rfl) (by simp) ?_
     refine AllReadyH.cons rfl (fun K hK => ?_) AllReadyH.nil
     go_simp
     (with_reducible refine (sum_r x _).mono ?_)
     rw [Hca.out]
     rintro e w8 ⟨rfl, HC8⟩
     have R8i0 := Lib.hid (R7i0.out.belowW HC8.out)
     have R8e0 := Lib.hid (R7e0.out.belowW HC8.out)
     have R8i1 := Lib.hid (R7i1.out.belowW HC8.out)
     have R8e1 := Lib.hid (R7e1.out.belowW HC8.out)
     have R8bx := Lib.hid (R7bx.out.belowW HC8.out)
     have R8ba := Lib.hid (R7ba.out.belowW HC8.out)
     have R8bb := Lib.hid (R7bb.out.belowW HC8.out)
     have HR8 := Lib.hid (HR7.out.trans (HC8.out.mono HR7.out.size))
     go_wp2_with fail
     clear hHeld
     refine hK.out _ _ ?_ (fun hHeld => ?_)
     case refine_1 => exact ⟨R8ba.out.cell 0, R8ba.out.cell 1, R8ba.out.cell 2, R8ba.out.cell 3, R8ba.out.cell 4, R8ba.out.cell 5, R8bb.out.cell 0, R8bb.out.cell 1, R8bb.out.cell 2, R8bb.out.cell 3, R8bb.out.cell 4, R8bb.out.cell 5⟩
     clear hK K
     try simp only [qa, qb, qc]
     refine tkW 3 ?_
     refine tkW 4 ?_
     refine tkW 5 ?_
     refine wpAnyH_ready (rs := [6]) (by kernel_rfl) (by simp) ?_
     refine AllReadyH.cons rfl (fun K hK => ?_) AllReadyH.nil
     go_simp
     (with_reducible refine (wrap_r S1 false _ la HT1.out hla9).mono ?_)
     rintro e w9 ⟨S3, rfl, HS3, HC9⟩
     have R9i0 := Lib.hid (R8i0.out.belowW HC9.out)
     have R9e0 := Lib.hid (R8e0.out.belowW HC9.out)
     have R9i1 := Lib.hid (R8i1.out.belowW HC9.out)
     have R9e1 := Lib.hid (R8e1.out.belowW HC9.out)
     have R9bx := Lib.hid (R8bx.out.belowW HC9.out)
     have R9ba := Lib.hid (R8ba.out.belowW HC9.out)
     have R9bb := Lib.hid (R8bb.out.belowW HC9.out)
     have HR9 := Lib.hid (HR8.out.trans (HC9.out.mono HR8.out.size))
     have hS3 : S3.size = (par false la).length := strp_size HS3.out
     go_wp2_with fail
     clear hHeld
     refine hK.out _ _ ?_ (fun hHeld => ?_)
     case refine_1 => exact ⟨R9ba.out.cell 0, R9ba.out.cell 1, R9ba.out.cell 2, R9ba.out.cell 3, R9ba.out.cell 4, R9ba.out.cell 5, R9bb.out.cell 0, R9bb.out.cell 1, R9bb.out.cell 2, R9bb.out.cell 3, R9bb.out.cell 4, R9bb.out.cell 5⟩
     clear hK K
     try simp only [qa, qb, qc]
     refine tkW 8 ?_
     refine wpAnyH_ready (rs := [11]) (by kernel_rfl) (by simp) ?_
     refine AllReadyH.cons rfl (fun K hK => ?_) AllReadyH.nil
     go_simp
     (with_reducible refine (sum_r y _).mono ?_)
     rw [Hds.out]
     rintro e w10 ⟨rfl, HC10⟩
     have R10i0 := Lib.hid (R9i0.out.belowW HC10.out)
     have R10e0 := Lib.hid (R9e0.out.belowW HC10.out)
     have R10i1 := Lib.hid (R9i1.out.belowW HC10.out)
     have R10e1 := Lib.hid (R9e1.out.belowW HC10.out)
     have R10bx := Lib.hid (R9bx.out.belowW HC10.out)
     have R10ba := Lib.hid (R9ba.out.belowW HC10.out)
     have R10bb := Lib.hid (R9bb.out.belowW HC10.out)
     have HR10 := Lib.hid (HR9.out.trans (HC10.out.mono HR9.out.size))
     go_wp2_with fail
     clear hHeld
     refine hK.out _ _ ?_ (fun hHeld => ?_)
     case refine_1 => exact ⟨R10ba.out.cell 0, R10ba.out.cell 1, R10ba.out.cell 2, R10ba.out.cell 3, R10ba.out.cell 4, R10ba.out.cell 5, R10bb.out.cell 0, R10bb.out.cell 1, R10bb.out.cell 2, R10bb.out.cell 3, R10bb.out.cell 4, R10bb.out.cell 5⟩
     clear hK K
     try simp only [qa, qb, qc]
     refine tkW 12 ?_
     refine tkW 13 ?_
     refine wpAnyH_ready (rs := [14]) (by kernel_rfl) (by simp) ?_
     refine AllReadyH.cons rfl (fun K hK => ?_) AllReadyH.nil
     go_simp
     (with_reducible refine (prod_r y _).mono ?_)
     rw [Hdp.out]
     rintro e w11 ⟨rfl, HC11⟩
     have R11i0 := Lib.hid (R10i0.out.belowW HC11.out)
     have R11e0 := Lib.hid (R10e0.out.belowW HC11.out)
     have R11i1 := Lib.hid (R10i1.out.belowW HC11.out)
     have R11e1 := Lib.hid (R10e1.out.belowW HC11.out)
     have R11bx := Lib.hid (R10bx.out.belowW HC11.out)
     have R11ba := Lib.hid (R10ba.out.belowW HC11.out)
     have R11bb := Lib.hid (R10bb.out.belowW HC11.out)
     have HR11 := Lib.hid (HR10.out.trans (HC11.out.mono HR10.out.size))
     go_wp2_with fail
     clear hHeld
     refine hK.out _ _ ?_ (fun hHeld => ?_)
     case refine_1 => exact ⟨R11ba.out.cell 0, R11ba.out.cell 1, R11ba.out.cell 2, R11ba.out.cell 3, R11ba.out.cell 4, R11ba.out.cell 5, R11bb.out.cell 0, R11bb.out.cell 1, R11bb.out.cell 2, R11bb.out.cell 3, R11bb.out.cell 4, R11bb.out.cell 5⟩
     clear hK K
     try simp only [qa, qb, qc]
     refine tkW 15 ?_
     refine tkW 16 ?_
     refine tkW 17 ?_
     refine wpAnyH_ready (rs := [18]) (by kernel_rfl) (by simp) ?_
     refine AllReadyH.cons rfl (fun K hK => ?_) AllReadyH.nil
     go_simp
     (with_reducible refine (brok_r y _).mono ?_)
     rw [Hdb.out]
     rintro e w12 ⟨rfl, HC12⟩
     have R12i0 := Lib.hid (R11i0.out.belowW HC12.out)
     have R12e0 := Lib.hid (R11e0.out.belowW HC12.out)
     have R12i1 := Lib.hid (R11i1.out.belowW HC12.out)
     have R12e1 := Lib.hid (R11e1.out.belowW HC12.out)
     have R12bx := Lib.hid (R11bx.out.belowW HC12.out)
     have R12ba := Lib.hid (R11ba.out.belowW HC12.out)
     have R12bb := Lib.hid (R11bb.out.belowW HC12.out)
     have HR12 := Lib.hid (HR11.out.trans (HC12.out.mono HR11.out.size))
     go_wp2_with fail
     clear hHeld
     refine hK.out _ _ ?_ (fun hHeld => ?_)
     case refine_1 => exact ⟨R12ba.out.cell 0, R12ba.out.cell 1, R12ba.out.cell 2, R12ba.out.cell 3, R12ba.out.cell 4, R12ba.out.cell 5, R12bb.out.cell 0, R12bb.out.cell 1, R12bb.out.cell 2, R12bb.out.cell 3, R12bb.out.cell 4, R12bb.out.cell 5⟩
     clear hK K
     try simp only [qa, qb, qc]
     refine tkW 19 ?_
     refine wpAnyH_ready (rs := [20]) (by kernel_rfl) (by simp) ?_
     refine AllReadyH.cons rfl (fun K hK => ?_) AllReadyH.nil
     go_simp
     (with_reducible refine (wrap_r S2 true _ lb HT2.out hlb9).mono ?_)
     rintro e w13 ⟨S4, rfl, HS4, HC13⟩
     have R13i0 := Lib.hid (R12i0.out.belowW HC13.out)
     have R13e0 := Lib.hid (R12e0.out.belowW HC13.out)
     have R13i1 := Lib.hid (R12i1.out.belowW HC13.out)
     have R13e1 := Lib.hid (R12e1.out.belowW HC13.out)
     have R13bx := Lib.hid (R12bx.out.belowW HC13.out)
     have R13ba := Lib.hid (R12ba.out.belowW HC13.out)
     have R13bb := Lib.hid (R12bb.out.belowW HC13.out)
     have HR13 := Lib.hid (HR12.out.trans (HC13.out.mono HR12.out.size))
     have hS4 : S4.size = (par true lb).length := strp_size HS4.out
     go_wp2_with fail
     clear hHeld
     refine hK.out _ _ ?_ (fun hHeld => ?_)
     case refine_1 => exact ⟨R13ba.out.cell 0, R13ba.out.cell 1, R13ba.out.cell 2, R13ba.out.cell 3, R13ba.out.cell 4, R13ba.out.cell 5, R13bb.out.cell 0, R13bb.out.cell 1, R13bb.out.cell 2, R13bb.out.cell 3, R13bb.out.cell 4, R13bb.out.cell 5⟩
     clear hK K
     try simp only [qa, qb, qc]
     refine tkW 21 ?_
     refine tkW 22 ?_
     refine wpAnyH_done (by kernel_rfl) ?_ _
     have HL13 := Lib.hid (HL6.out.trans (HR13.out.mono HL6.out.size))
     go_wp2_with fail
     go_ret
     exact ⟨_, rfl, Lib.hid (by rw [data_app, data_app, HS3.out, HS4.out, HTX.out, List.append_assoc]), HL13⟩
   | true =>
    have HN1 := Lib.hid (show na = false by rw [HNA.out]; unfold need1; rw [ca]; rfl)
    rw [HN1.out] at c1 c2 HTX hpla
    have HN2 := Lib.hid (show nb = true by rw [HNB.out]; unfold need2; rw [ds, dp]; rfl)
    rw [HN2.out] at c2 HTX hplb
    have Hca := Lib.hid ca
    clear ca
    have Hds := Lib.hid ds
    clear ds
    have Hdp := Lib.hid dp
    clear dp
    have HR7 := Lib.hid (below_dr w6)
    have R7i0 := Lib.hid (F6i0.out.belowW HR7.out)
    have R7e0 := Lib.hid (F6e0.out.belowW HR7.out)
    have R7i1 := Lib.hid (F6i1.out.belowW HR7.out)
    have R7e1 := Lib.hid (F6e1.out.belowW HR7.out)
    have R7bx := Lib.hid (F6bx.out.belowW HR7.out)
    have R7ba := Lib.hid (F6ba.out.belowW HR7.out)
    have R7bb := Lib.hid (F6bb.out.belowW HR7.out)
    refine wp_region_held_drew (S := fun w' => w'.cell? ⟨w1.heap.size, 0, none⟩ = some (.int .i64 x.h.kind) ∧ w'.cell? ⟨w1.heap.size, 1, none⟩ = some (.int .i64 x.h.n) ∧ w'.cell? ⟨w1.heap.size, 2, none⟩ = some (.int .i64 x.h.d) ∧ w'.cell? ⟨w1.heap.size, 3, none⟩ = some (.string x.h.name) ∧ w'.cell? ⟨w1.heap.size, 4, none⟩ = some (.int .i64 x.h.k) ∧ w'.cell? ⟨w1.heap.size, 5, none⟩ = some (.slice x.A x.len x.cap) ∧ w'.cell? ⟨w3.heap.size, 0, none⟩ = some (.int .i64 y.h.kind) ∧ w'.cell? ⟨w3.heap.size, 1, none⟩ = some (.int .i64 y.h.n) ∧ w'.cell? ⟨w3.heap.size, 2, none⟩ = some (.int .i64 y.h.d) ∧ w'.cell? ⟨w3.heap.size, 3, none⟩ = some (.string y.h.name) ∧ w'.cell? ⟨w3.heap.size, 4, none⟩ = some (.int .i64 y.h.k) ∧ w'.cell? ⟨w3.heap.size, 5, none⟩ = some (.slice y.A y.len y.cap)) (by kernel_rfl) ?_ (fun hHeld => ?_)
    case refine_1 => exact ⟨R7ba.out.cell 0, R7ba.out.cell 1, R7ba.out.cell 2, R7ba.out.cell 3, R7ba.out.cell 4, R7ba.out.cell 5, R7bb.out.cell 0, R7bb.out.cell 1, R7bb.out.cell 2, R7bb.out.cell 3, R7bb.out.cell 4, R7bb.out.cell 5⟩
    refine tkW 0 ?_
    refine tkW 1 ?_
    refine tkW 7 ?_
    refine tkW 9 ?_
    refine tkW 10 ?_
    refine wpAnyH_ready (rs := [2]) (by kernel_rfl) (by simp) ?_
    refine AllReadyH.cons rfl (fun K hK => ?_) AllReadyH.nil
    go_simp
    (with_reducible refine (sum_r x _).mono ?_)
    rw [Hca.out]
    rintro e w8 ⟨rfl, HC8⟩
    have R8i0 := Lib.hid (R7i0.out.belowW HC8.out)
    have R8e0 := Lib.hid (R7e0.out.belowW HC8.out)
    have R8i1 := Lib.hid (R7i1.out.belowW HC8.out)
    have R8e1 := Lib.hid (R7e1.out.belowW HC8.out)
    have R8bx := Lib.hid (R7bx.out.belowW HC8.out)
    have R8ba := Lib.hid (R7ba.out.belowW HC8.out)
    have R8bb := Lib.hid (R7bb.out.belowW HC8.out)
    have HR8 := Lib.hid (HR7.out.trans (HC8.out.mono HR7.out.size))
    go_wp2_with fail
    clear hHeld
    refine hK.out _ _ ?_ (fun hHeld => ?_)
    case refine_1 => exact ⟨R8ba.out.cell 0, R8ba.out.cell 1, R8ba.out.cell 2, R8ba.out.cell 3, R8ba.out.cell 4, R8ba.out.cell 5, R8bb.out.cell 0, R8bb.out.cell 1, R8bb.out.cell 2, R8bb.out.cell 3, R8bb.out.cell 4, R8bb.out.cell 5⟩
    clear hK K
    try simp only [qa, qb, qc]
    refine tkW 3 ?_
    refine tkW 4 ?_
    refine tkW 5 ?_
    refine wpAnyH_ready (rs := [6]) (by kernel_rfl) (by simp) ?_
    refine AllReadyH.cons rfl (fun K hK => ?_) AllReadyH.nil
    go_simp
    (with_reducible refine (wrap_r S1 false _ la HT1.out hla9).mono ?_)
    rintro e w9 ⟨S3, rfl, HS3, HC9⟩
    have R9i0 := Lib.hid (R8i0.out.belowW HC9.out)
    have R9e0 := Lib.hid (R8e0.out.belowW HC9.out)
    have R9i1 := Lib.hid (R8i1.out.belowW HC9.out)
    have R9e1 := Lib.hid (R8e1.out.belowW HC9.out)
    have R9bx := Lib.hid (R8bx.out.belowW HC9.out)
    have R9ba := Lib.hid (R8ba.out.belowW HC9.out)
    have R9bb := Lib.hid (R8bb.out.belowW HC9.out)
    have HR9 := Lib.hid (HR8.out.trans (HC9.out.mono HR8.out.size))
    have hS3 : S3.size = (par false la).length := strp_size HS3.out
    go_wp2_with fail
    clear hHeld
    refine hK.out _ _ ?_ (fun hHeld => ?_)
    case refine_1 => exact ⟨R9ba.out.cell 0, R9ba.out.cell 1, R9ba.out.cell 2, R9ba.out.cell 3, R9ba.out.cell 4, R9ba.out.cell 5, R9bb.out.cell 0, R9bb.out.cell 1, R9bb.out.cell 2, R9bb.out.cell 3, R9bb.out.cell 4, R9bb.out.cell 5⟩
    clear hK K
    try simp only [qa, qb, qc]
    refine tkW 8 ?_
    refine wpAnyH_ready (rs := [11]) (by kernel_rfl) (by simp) ?_
    refine AllReadyH.cons rfl (fun K hK => ?_) AllReadyH.nil
    go_simp
    (with_reducible refine (sum_r y _).mono ?_)
    rw [Hds.out]
    rintro e w10 ⟨rfl, HC10⟩
    have R10i0 := Lib.hid (R9i0.out.belowW HC10.out)
    have R10e0 := Lib.hid (R9e0.out.belowW HC10.out)
    have R10i1 := Lib.hid (R9i1.out.belowW HC10.out)
    have R10e1 := Lib.hid (R9e1.out.belowW HC10.out)
    have R10bx := Lib.hid (R9bx.out.belowW HC10.out)
    have R10ba := Lib.hid (R9ba.out.belowW HC10.out)
    have R10bb := Lib.hid (R9bb.out.belowW HC10.out)
    have HR10 := Lib.hid (HR9.out.trans (HC10.out.mono HR9.out.size))
    go_wp2_with fail
    clear hHeld
    refine hK.out _ _ ?_ (fun hHeld => ?_)
    case refine_1 => exact ⟨R10ba.out.cell 0, R10ba.out.cell 1, R10ba.out.cell 2, R10ba.out.cell 3, R10ba.out.cell 4, R10ba.out.cell 5, R10bb.out.cell 0, R10bb.out.cell 1, R10bb.out.cell 2, R10bb.out.cell 3, R10bb.out.cell 4, R10bb.out.cell 5⟩
    clear hK K
    try simp only [qa, qb, qc]
    refine tkW 12 ?_
    refine tkW 13 ?_
    refine wpAnyH_ready (rs := [14]) (by kernel_rfl) (by simp) ?_
    refine AllReadyH.cons rfl (fun K hK => ?_) AllReadyH.nil
    go_simp
    (with_reducible refine (prod_r y _).mono ?_)
    rw [Hdp.out]
    rintro e w11 ⟨rfl, HC11⟩
    have R11i0 := Lib.hid (R10i0.out.belowW HC11.out)
    have R11e0 := Lib.hid (R10e0.out.belowW HC11.out)
    have R11i1 := Lib.hid (R10i1.out.belowW HC11.out)
    have R11e1 := Lib.hid (R10e1.out.belowW HC11.out)
    have R11bx := Lib.hid (R10bx.out.belowW HC11.out)
    have R11ba := Lib.hid (R10ba.out.belowW HC11.out)
    have R11bb := Lib.hid (R10bb.out.belowW HC11.out)
    have HR11 := Lib.hid (HR10.out.trans (HC11.out.mono HR10.out.size))
    go_wp2_with fail
    clear hHeld
    refine hK.out _ _ ?_ (fun hHeld => ?_)
    case refine_1 => exact ⟨R11ba.out.cell 0, R11ba.out.cell 1, R11ba.out.cell 2, R11ba.out.cell 3, R11ba.out.cell 4, R11ba.out.cell 5, R11bb.out.cell 0, R11bb.out.cell 1, R11bb.out.cell 2, R11bb.out.cell 3, R11bb.out.cell 4, R11bb.out.cell 5⟩
    clear hK K
    try simp only [qa, qb, qc]
    refine tkW 15 ?_
    refine tkW 16 ?_
    refine tkV 17 ?_
    refine tkV 18 ?_
    refine tkW 19 ?_
    refine wpAnyH_ready (rs := [20]) (by kernel_rfl) (by simp) ?_
    refine AllReadyH.cons rfl (fun K hK => ?_) AllReadyH.nil
    go_simp
    (with_reducible refine (wrap_r S2 true _ lb HT2.out hlb9).mono ?_)
    rintro e w12 ⟨S4, rfl, HS4, HC12⟩
    have R12i0 := Lib.hid (R11i0.out.belowW HC12.out)
    have R12e0 := Lib.hid (R11e0.out.belowW HC12.out)
    have R12i1 := Lib.hid (R11i1.out.belowW HC12.out)
    have R12e1 := Lib.hid (R11e1.out.belowW HC12.out)
    have R12bx := Lib.hid (R11bx.out.belowW HC12.out)
    have R12ba := Lib.hid (R11ba.out.belowW HC12.out)
    have R12bb := Lib.hid (R11bb.out.belowW HC12.out)
    have HR12 := Lib.hid (HR11.out.trans (HC12.out.mono HR11.out.size))
    have hS4 : S4.size = (par true lb).length := strp_size HS4.out
    go_wp2_with fail
    clear hHeld
    refine hK.out _ _ ?_ (fun hHeld => ?_)
    case refine_1 => exact ⟨R12ba.out.cell 0, R12ba.out.cell 1, R12ba.out.cell 2, R12ba.out.cell 3, R12ba.out.cell 4, R12ba.out.cell 5, R12bb.out.cell 0, R12bb.out.cell 1, R12bb.out.cell 2, R12bb.out.cell 3, R12bb.out.cell 4, R12bb.out.cell 5⟩
    clear hK K
    try simp only [qa, qb, qc]
    refine tkW 21 ?_
    refine tkW 22 ?_
    refine wpAnyH_done (by kernel_rfl) ?_ _
    have HL12 := Lib.hid (HL6.out.trans (HR12.out.mono HL6.out.size))
    go_wp2_with fail
    go_ret
    exact ⟨_, rfl, Lib.hid (by rw [data_app, data_app, HS3.out, HS4.out, HTX.out, List.append_assoc]), HL12⟩
  | true =>
   have HN1 := Lib.hid (show na = false by rw [HNA.out]; unfold need1; rw [ca]; rfl)
   rw [HN1.out] at c1 c2 HTX hpla
   have HN2 := Lib.hid (show nb = true by rw [HNB.out]; unfold need2; rw [ds]; rfl)
   rw [HN2.out] at c2 HTX hplb
   have Hca := Lib.hid ca
   clear ca
   have Hds := Lib.hid ds
   clear ds
   have HR7 := Lib.hid (below_dr w6)
   have R7i0 := Lib.hid (F6i0.out.belowW HR7.out)
   have R7e0 := Lib.hid (F6e0.out.belowW HR7.out)
   have R7i1 := Lib.hid (F6i1.out.belowW HR7.out)
   have R7e1 := Lib.hid (F6e1.out.belowW HR7.out)
   have R7bx := Lib.hid (F6bx.out.belowW HR7.out)
   have R7ba := Lib.hid (F6ba.out.belowW HR7.out)
   have R7bb := Lib.hid (F6bb.out.belowW HR7.out)
   refine wp_region_held_drew (S := fun w' => w'.cell? ⟨w1.heap.size, 0, none⟩ = some (.int .i64 x.h.kind) ∧ w'.cell? ⟨w1.heap.size, 1, none⟩ = some (.int .i64 x.h.n) ∧ w'.cell? ⟨w1.heap.size, 2, none⟩ = some (.int .i64 x.h.d) ∧ w'.cell? ⟨w1.heap.size, 3, none⟩ = some (.string x.h.name) ∧ w'.cell? ⟨w1.heap.size, 4, none⟩ = some (.int .i64 x.h.k) ∧ w'.cell? ⟨w1.heap.size, 5, none⟩ = some (.slice x.A x.len x.cap) ∧ w'.cell? ⟨w3.heap.size, 0, none⟩ = some (.int .i64 y.h.kind) ∧ w'.cell? ⟨w3.heap.size, 1, none⟩ = some (.int .i64 y.h.n) ∧ w'.cell? ⟨w3.heap.size, 2, none⟩ = some (.int .i64 y.h.d) ∧ w'.cell? ⟨w3.heap.size, 3, none⟩ = some (.string y.h.name) ∧ w'.cell? ⟨w3.heap.size, 4, none⟩ = some (.int .i64 y.h.k) ∧ w'.cell? ⟨w3.heap.size, 5, none⟩ = some (.slice y.A y.len y.cap)) (by kernel_rfl) ?_ (fun hHeld => ?_)
   case refine_1 => exact ⟨R7ba.out.cell 0, R7ba.out.cell 1, R7ba.out.cell 2, R7ba.out.cell 3, R7ba.out.cell 4, R7ba.out.cell 5, R7bb.out.cell 0, R7bb.out.cell 1, R7bb.out.cell 2, R7bb.out.cell 3, R7bb.out.cell 4, R7bb.out.cell 5⟩
   refine tkW 0 ?_
   refine tkW 1 ?_
   refine tkW 7 ?_
   refine tkW 9 ?_
   refine tkW 10 ?_
   refine wpAnyH_ready (rs := [2]) (by kernel_rfl) (by simp) ?_
   refine AllReadyH.cons rfl (fun K hK => ?_) AllReadyH.nil
   go_simp
   (with_reducible refine (sum_r x _).mono ?_)
   rw [Hca.out]
   rintro e w8 ⟨rfl, HC8⟩
   have R8i0 := Lib.hid (R7i0.out.belowW HC8.out)
   have R8e0 := Lib.hid (R7e0.out.belowW HC8.out)
   have R8i1 := Lib.hid (R7i1.out.belowW HC8.out)
   have R8e1 := Lib.hid (R7e1.out.belowW HC8.out)
   have R8bx := Lib.hid (R7bx.out.belowW HC8.out)
   have R8ba := Lib.hid (R7ba.out.belowW HC8.out)
   have R8bb := Lib.hid (R7bb.out.belowW HC8.out)
   have HR8 := Lib.hid (HR7.out.trans (HC8.out.mono HR7.out.size))
   go_wp2_with fail
   clear hHeld
   refine hK.out _ _ ?_ (fun hHeld => ?_)
   case refine_1 => exact ⟨R8ba.out.cell 0, R8ba.out.cell 1, R8ba.out.cell 2, R8ba.out.cell 3, R8ba.out.cell 4, R8ba.out.cell 5, R8bb.out.cell 0, R8bb.out.cell 1, R8bb.out.cell 2, R8bb.out.cell 3, R8bb.out.cell 4, R8bb.out.cell 5⟩
   clear hK K
   try simp only [qa, qb, qc]
   refine tkW 3 ?_
   refine tkW 4 ?_
   refine tkW 5 ?_
   refine wpAnyH_ready (rs := [6]) (by kernel_rfl) (by simp) ?_
   refine AllReadyH.cons rfl (fun K hK => ?_) AllReadyH.nil
   go_simp
   (with_reducible refine (wrap_r S1 false _ la HT1.out hla9).mono ?_)
   rintro e w9 ⟨S3, rfl, HS3, HC9⟩
   have R9i0 := Lib.hid (R8i0.out.belowW HC9.out)
   have R9e0 := Lib.hid (R8e0.out.belowW HC9.out)
   have R9i1 := Lib.hid (R8i1.out.belowW HC9.out)
   have R9e1 := Lib.hid (R8e1.out.belowW HC9.out)
   have R9bx := Lib.hid (R8bx.out.belowW HC9.out)
   have R9ba := Lib.hid (R8ba.out.belowW HC9.out)
   have R9bb := Lib.hid (R8bb.out.belowW HC9.out)
   have HR9 := Lib.hid (HR8.out.trans (HC9.out.mono HR8.out.size))
   have hS3 : S3.size = (par false la).length := strp_size HS3.out
   go_wp2_with fail
   clear hHeld
   refine hK.out _ _ ?_ (fun hHeld => ?_)
   case refine_1 => exact ⟨R9ba.out.cell 0, R9ba.out.cell 1, R9ba.out.cell 2, R9ba.out.cell 3, R9ba.out.cell 4, R9ba.out.cell 5, R9bb.out.cell 0, R9bb.out.cell 1, R9bb.out.cell 2, R9bb.out.cell 3, R9bb.out.cell 4, R9bb.out.cell 5⟩
   clear hK K
   try simp only [qa, qb, qc]
   refine tkW 8 ?_
   refine wpAnyH_ready (rs := [11]) (by kernel_rfl) (by simp) ?_
   refine AllReadyH.cons rfl (fun K hK => ?_) AllReadyH.nil
   go_simp
   (with_reducible refine (sum_r y _).mono ?_)
   rw [Hds.out]
   rintro e w10 ⟨rfl, HC10⟩
   have R10i0 := Lib.hid (R9i0.out.belowW HC10.out)
   have R10e0 := Lib.hid (R9e0.out.belowW HC10.out)
   have R10i1 := Lib.hid (R9i1.out.belowW HC10.out)
   have R10e1 := Lib.hid (R9e1.out.belowW HC10.out)
   have R10bx := Lib.hid (R9bx.out.belowW HC10.out)
   have R10ba := Lib.hid (R9ba.out.belowW HC10.out)
   have R10bb := Lib.hid (R9bb.out.belowW HC10.out)
   have HR10 := Lib.hid (HR9.out.trans (HC10.out.mono HR9.out.size))
   go_wp2_with fail
   clear hHeld
   refine hK.out _ _ ?_ (fun hHeld => ?_)
   case refine_1 => exact ⟨R10ba.out.cell 0, R10ba.out.cell 1, R10ba.out.cell 2, R10ba.out.cell 3, R10ba.out.cell 4, R10ba.out.cell 5, R10bb.out.cell 0, R10bb.out.cell 1, R10bb.out.cell 2, R10bb.out.cell 3, R10bb.out.cell 4, R10bb.out.cell 5⟩
   clear hK K
   try simp only [qa, qb, qc]
   refine tkW 12 ?_
   refine tkV 13 ?_
   refine tkV 14 ?_
   refine tkW 15 ?_
   refine tkW 16 ?_
   refine tkV 17 ?_
   refine tkV 18 ?_
   refine tkW 19 ?_
   refine wpAnyH_ready (rs := [20]) (by kernel_rfl) (by simp) ?_
   refine AllReadyH.cons rfl (fun K hK => ?_) AllReadyH.nil
   go_simp
   (with_reducible refine (wrap_r S2 true _ lb HT2.out hlb9).mono ?_)
   rintro e w11 ⟨S4, rfl, HS4, HC11⟩
   have R11i0 := Lib.hid (R10i0.out.belowW HC11.out)
   have R11e0 := Lib.hid (R10e0.out.belowW HC11.out)
   have R11i1 := Lib.hid (R10i1.out.belowW HC11.out)
   have R11e1 := Lib.hid (R10e1.out.belowW HC11.out)
   have R11bx := Lib.hid (R10bx.out.belowW HC11.out)
   have R11ba := Lib.hid (R10ba.out.belowW HC11.out)
   have R11bb := Lib.hid (R10bb.out.belowW HC11.out)
   have HR11 := Lib.hid (HR10.out.trans (HC11.out.mono HR10.out.size))
   have hS4 : S4.size = (par true lb).length := strp_size HS4.out
   go_wp2_with fail
   clear hHeld
   refine hK.out _ _ ?_ (fun hHeld => ?_)
   case refine_1 => exact ⟨R11ba.out.cell 0, R11ba.out.cell 1, R11ba.out.cell 2, R11ba.out.cell 3, R11ba.out.cell 4, R11ba.out.cell 5, R11bb.out.cell 0, R11bb.out.cell 1, R11bb.out.cell 2, R11bb.out.cell 3, R11bb.out.cell 4, R11bb.out.cell 5⟩
   clear hK K
   try simp only [qa, qb, qc]
   refine tkW 21 ?_
   refine tkW 22 ?_
   refine wpAnyH_done (by kernel_rfl) ?_ _
   have HL11 := Lib.hid (HL6.out.trans (HR11.out.mono HL6.out.size))
   go_wp2_with fail
   go_ret
   exact ⟨_, rfl, Lib.hid (by rw [data_app, data_app, HS3.out, HS4.out, HTX.out, List.append_assoc]), HL11⟩
 | true =>
  cases ds : sumK y.h.kind with
  | false =>
   cases dp : prodK y.h.kind with
   | false =>
    cases db : brok y.h with
    | false =>
     have HN1 := Lib.hid (show na = true by rw [HNA.out]; unfold need1; rw [ca]; rfl)
     rw [HN1.out] at c1 c2 HTX hpla
     have HN2 := Lib.hid (show nb = false by rw [HNB.out]; unfold need2; rw [ds, dp, db]; rfl)
     rw [HN2.out] at c2 HTX hplb
     have Hca := Lib.hid ca
     clear ca
     have Hds := Lib.hid ds
     clear ds
     have Hdp := Lib.hid dp
     clear dp
     have Hdb := Lib.hid db
     clear db
     have HR7 := Lib.hid (below_dr w6)
     have R7i0 := Lib.hid (F6i0.out.belowW HR7.out)
     have R7e0 := Lib.hid (F6e0.out.belowW HR7.out)
     have R7i1 := Lib.hid (F6i1.out.belowW HR7.out)
     have R7e1 := Lib.hid (F6e1.out.belowW HR7.out)
     have R7bx := Lib.hid (F6bx.out.belowW HR7.out)
     have R7ba := Lib.hid (F6ba.out.belowW HR7.out)
     have R7bb := Lib.hid (F6bb.out.belowW HR7.out)
     refine wp_region_held_drew (S := fun w' => w'.cell? ⟨w1.heap.size, 0, none⟩ = some (.int .i64 x.h.kind) ∧ w'.cell? ⟨w1.heap.size, 1, none⟩ = some (.int .i64 x.h.n) ∧ w'.cell? ⟨w1.heap.size, 2, none⟩ = some (.int .i64 x.h.d) ∧ w'.cell? ⟨w1.heap.size, 3, none⟩ = some (.string x.h.name) ∧ w'.cell? ⟨w1.heap.size, 4, none⟩ = some (.int .i64 x.h.k) ∧ w'.cell? ⟨w1.heap.size, 5, none⟩ = some (.slice x.A x.len x.cap) ∧ w'.cell? ⟨w3.heap.size, 0, none⟩ = some (.int .i64 y.h.kind) ∧ w'.cell? ⟨w3.heap.size, 1, none⟩ = some (.int .i64 y.h.n) ∧ w'.cell? ⟨w3.heap.size, 2, none⟩ = some (.int .i64 y.h.d) ∧ w'.cell? ⟨w3.heap.size, 3, none⟩ = some (.string y.h.name) ∧ w'.cell? ⟨w3.heap.size, 4, none⟩ = some (.int .i64 y.h.k) ∧ w'.cell? ⟨w3.heap.size, 5, none⟩ = some (.slice y.A y.len y.cap)) (by kernel_rfl) ?_ (fun hHeld => ?_)
     case refine_1 => exact ⟨R7ba.out.cell 0, R7ba.out.cell 1, R7ba.out.cell 2, R7ba.out.cell 3, R7ba.out.cell 4, R7ba.out.cell 5, R7bb.out.cell 0, R7bb.out.cell 1, R7bb.out.cell 2, R7bb.out.cell 3, R7bb.out.cell 4, R7bb.out.cell 5⟩
     refine tkW 0 ?_
     refine tkW 1 ?_
     refine tkW 7 ?_
     refine tkW 9 ?_
     refine tkW 10 ?_
     refine wpAnyH_ready (rs := [2]) (by kernel_rfl) (by simp) ?_
     refine AllReadyH.cons rfl (fun K hK => ?_) AllReadyH.nil
     go_simp
     (with_reducible refine (sum_r x _).mono ?_)
     rw [Hca.out]
     rintro e w8 ⟨rfl, HC8⟩
     have R8i0 := Lib.hid (R7i0.out.belowW HC8.out)
     have R8e0 := Lib.hid (R7e0.out.belowW HC8.out)
     have R8i1 := Lib.hid (R7i1.out.belowW HC8.out)
     have R8e1 := Lib.hid (R7e1.out.belowW HC8.out)
     have R8bx := Lib.hid (R7bx.out.belowW HC8.out)
     have R8ba := Lib.hid (R7ba.out.belowW HC8.out)
     have R8bb := Lib.hid (R7bb.out.belowW HC8.out)
     have HR8 := Lib.hid (HR7.out.trans (HC8.out.mono HR7.out.size))
     go_wp2_with fail
     clear hHeld
     refine hK.out _ _ ?_ (fun hHeld => ?_)
     case refine_1 => exact ⟨R8ba.out.cell 0, R8ba.out.cell 1, R8ba.out.cell 2, R8ba.out.cell 3, R8ba.out.cell 4, R8ba.out.cell 5, R8bb.out.cell 0, R8bb.out.cell 1, R8bb.out.cell 2, R8bb.out.cell 3, R8bb.out.cell 4, R8bb.out.cell 5⟩
     clear hK K
     try simp only [qa, qb, qc]
     refine tkW 3 ?_
     refine tkV 4 ?_
     refine tkW 5 ?_
     refine wpAnyH_ready (rs := [6]) (by kernel_rfl) (by simp) ?_
     refine AllReadyH.cons rfl (fun K hK => ?_) AllReadyH.nil
     go_simp
     (with_reducible refine (wrap_r S1 true _ la HT1.out hla9).mono ?_)
     rintro e w9 ⟨S3, rfl, HS3, HC9⟩
     have R9i0 := Lib.hid (R8i0.out.belowW HC9.out)
     have R9e0 := Lib.hid (R8e0.out.belowW HC9.out)
     have R9i1 := Lib.hid (R8i1.out.belowW HC9.out)
     have R9e1 := Lib.hid (R8e1.out.belowW HC9.out)
     have R9bx := Lib.hid (R8bx.out.belowW HC9.out)
     have R9ba := Lib.hid (R8ba.out.belowW HC9.out)
     have R9bb := Lib.hid (R8bb.out.belowW HC9.out)
     have HR9 := Lib.hid (HR8.out.trans (HC9.out.mono HR8.out.size))
     have hS3 : S3.size = (par true la).length := strp_size HS3.out
     go_wp2_with fail
     clear hHeld
     refine hK.out _ _ ?_ (fun hHeld => ?_)
     case refine_1 => exact ⟨R9ba.out.cell 0, R9ba.out.cell 1, R9ba.out.cell 2, R9ba.out.cell 3, R9ba.out.cell 4, R9ba.out.cell 5, R9bb.out.cell 0, R9bb.out.cell 1, R9bb.out.cell 2, R9bb.out.cell 3, R9bb.out.cell 4, R9bb.out.cell 5⟩
     clear hK K
     try simp only [qa, qb, qc]
     refine tkW 8 ?_
     refine wpAnyH_ready (rs := [11]) (by kernel_rfl) (by simp) ?_
     refine AllReadyH.cons rfl (fun K hK => ?_) AllReadyH.nil
     go_simp
     (with_reducible refine (sum_r y _).mono ?_)
     rw [Hds.out]
     rintro e w10 ⟨rfl, HC10⟩
     have R10i0 := Lib.hid (R9i0.out.belowW HC10.out)
     have R10e0 := Lib.hid (R9e0.out.belowW HC10.out)
     have R10i1 := Lib.hid (R9i1.out.belowW HC10.out)
     have R10e1 := Lib.hid (R9e1.out.belowW HC10.out)
     have R10bx := Lib.hid (R9bx.out.belowW HC10.out)
     have R10ba := Lib.hid (R9ba.out.belowW HC10.out)
     have R10bb := Lib.hid (R9bb.out.belowW HC10.out)
     have HR10 := Lib.hid (HR9.out.trans (HC10.out.mono HR9.out.size))
     go_wp2_with fail
     clear hHeld
     refine hK.out _ _ ?_ (fun hHeld => ?_)
     case refine_1 => exact ⟨R10ba.out.cell 0, R10ba.out.cell 1, R10ba.out.cell 2, R10ba.out.cell 3, R10ba.out.cell 4, R10ba.out.cell 5, R10bb.out.cell 0, R10bb.out.cell 1, R10bb.out.cell 2, R10bb.out.cell 3, R10bb.out.cell 4, R10bb.out.cell 5⟩
     clear hK K
     try simp only [qa, qb, qc]
     refine tkW 12 ?_
     refine tkW 13 ?_
     refine wpAnyH_ready (rs := [14]) (by kernel_rfl) (by simp) ?_
     refine AllReadyH.cons rfl (fun K hK => ?_) AllReadyH.nil
     go_simp
     (with_reducible refine (prod_r y _).mono ?_)
     rw [Hdp.out]
     rintro e w11 ⟨rfl, HC11⟩
     have R11i0 := Lib.hid (R10i0.out.belowW HC11.out)
     have R11e0 := Lib.hid (R10e0.out.belowW HC11.out)
     have R11i1 := Lib.hid (R10i1.out.belowW HC11.out)
     have R11e1 := Lib.hid (R10e1.out.belowW HC11.out)
     have R11bx := Lib.hid (R10bx.out.belowW HC11.out)
     have R11ba := Lib.hid (R10ba.out.belowW HC11.out)
     have R11bb := Lib.hid (R10bb.out.belowW HC11.out)
     have HR11 := Lib.hid (HR10.out.trans (HC11.out.mono HR10.out.size))
     go_wp2_with fail
     clear hHeld
     refine hK.out _ _ ?_ (fun hHeld => ?_)
     case refine_1 => exact ⟨R11ba.out.cell 0, R11ba.out.cell 1, R11ba.out.cell 2, R11ba.out.cell 3, R11ba.out.cell 4, R11ba.out.cell 5, R11bb.out.cell 0, R11bb.out.cell 1, R11bb.out.cell 2, R11bb.out.cell 3, R11bb.out.cell 4, R11bb.out.cell 5⟩
     clear hK K
     try simp only [qa, qb, qc]
     refine tkW 15 ?_
     refine tkW 16 ?_
     refine tkW 17 ?_
     refine wpAnyH_ready (rs := [18]) (by kernel_rfl) (by simp) ?_
     refine AllReadyH.cons rfl (fun K hK => ?_) AllReadyH.nil
     go_simp
     (with_reducible refine (brok_r y _).mono ?_)
     rw [Hdb.out]
     rintro e w12 ⟨rfl, HC12⟩
     have R12i0 := Lib.hid (R11i0.out.belowW HC12.out)
     have R12e0 := Lib.hid (R11e0.out.belowW HC12.out)
     have R12i1 := Lib.hid (R11i1.out.belowW HC12.out)
     have R12e1 := Lib.hid (R11e1.out.belowW HC12.out)
     have R12bx := Lib.hid (R11bx.out.belowW HC12.out)
     have R12ba := Lib.hid (R11ba.out.belowW HC12.out)
     have R12bb := Lib.hid (R11bb.out.belowW HC12.out)
     have HR12 := Lib.hid (HR11.out.trans (HC12.out.mono HR11.out.size))
     go_wp2_with fail
     clear hHeld
     refine hK.out _ _ ?_ (fun hHeld => ?_)
     case refine_1 => exact ⟨R12ba.out.cell 0, R12ba.out.cell 1, R12ba.out.cell 2, R12ba.out.cell 3, R12ba.out.cell 4, R12ba.out.cell 5, R12bb.out.cell 0, R12bb.out.cell 1, R12bb.out.cell 2, R12bb.out.cell 3, R12bb.out.cell 4, R12bb.out.cell 5⟩
     clear hK K
     try simp only [qa, qb, qc]
     refine tkW 19 ?_
     refine wpAnyH_ready (rs := [20]) (by kernel_rfl) (by simp) ?_
     refine AllReadyH.cons rfl (fun K hK => ?_) AllReadyH.nil
     go_simp
     (with_reducible refine (wrap_r S2 false _ lb HT2.out hlb9).mono ?_)
     rintro e w13 ⟨S4, rfl, HS4, HC13⟩
     have R13i0 := Lib.hid (R12i0.out.belowW HC13.out)
     have R13e0 := Lib.hid (R12e0.out.belowW HC13.out)
     have R13i1 := Lib.hid (R12i1.out.belowW HC13.out)
     have R13e1 := Lib.hid (R12e1.out.belowW HC13.out)
     have R13bx := Lib.hid (R12bx.out.belowW HC13.out)
     have R13ba := Lib.hid (R12ba.out.belowW HC13.out)
     have R13bb := Lib.hid (R12bb.out.belowW HC13.out)
     have HR13 := Lib.hid (HR12.out.trans (HC13.out.mono HR12.out.size))
     have hS4 : S4.size = (par false lb).length := strp_size HS4.out
     go_wp2_with fail
     clear hHeld
     refine hK.out _ _ ?_ (fun hHeld => ?_)
     case refine_1 => exact ⟨R13ba.out.cell 0, R13ba.out.cell 1, R13ba.out.cell 2, R13ba.out.cell 3, R13ba.out.cell 4, R13ba.out.cell 5, R13bb.out.cell 0, R13bb.out.cell 1, R13bb.out.cell 2, R13bb.out.cell 3, R13bb.out.cell 4, R13bb.out.cell 5⟩
     clear hK K
     try simp only [qa, qb, qc]
     refine tkW 21 ?_
     refine tkW 22 ?_
     refine wpAnyH_done (by kernel_rfl) ?_ _
     have HL13 := Lib.hid (HL6.out.trans (HR13.out.mono HL6.out.size))
     go_wp2_with fail
     go_ret
     exact ⟨_, rfl, Lib.hid (by rw [data_app, data_app, HS3.out, HS4.out, HTX.out, List.append_assoc]), HL13⟩
    | true =>
     have HN1 := Lib.hid (show na = true by rw [HNA.out]; unfold need1; rw [ca]; rfl)
     rw [HN1.out] at c1 c2 HTX hpla
     have HN2 := Lib.hid (show nb = true by rw [HNB.out]; unfold need2; rw [ds, dp, db]; rfl)
     rw [HN2.out] at c2 HTX hplb
     have Hca := Lib.hid ca
     clear ca
     have Hds := Lib.hid ds
     clear ds
     have Hdp := Lib.hid dp
     clear dp
     have Hdb := Lib.hid db
     clear db
     have HR7 := Lib.hid (below_dr w6)
     have R7i0 := Lib.hid (F6i0.out.belowW HR7.out)
     have R7e0 := Lib.hid (F6e0.out.belowW HR7.out)
     have R7i1 := Lib.hid (F6i1.out.belowW HR7.out)
     have R7e1 := Lib.hid (F6e1.out.belowW HR7.out)
     have R7bx := Lib.hid (F6bx.out.belowW HR7.out)
     have R7ba := Lib.hid (F6ba.out.belowW HR7.out)
     have R7bb := Lib.hid (F6bb.out.belowW HR7.out)
     refine wp_region_held_drew (S := fun w' => w'.cell? ⟨w1.heap.size, 0, none⟩ = some (.int .i64 x.h.kind) ∧ w'.cell? ⟨w1.heap.size, 1, none⟩ = some (.int .i64 x.h.n) ∧ w'.cell? ⟨w1.heap.size, 2, none⟩ = some (.int .i64 x.h.d) ∧ w'.cell? ⟨w1.heap.size, 3, none⟩ = some (.string x.h.name) ∧ w'.cell? ⟨w1.heap.size, 4, none⟩ = some (.int .i64 x.h.k) ∧ w'.cell? ⟨w1.heap.size, 5, none⟩ = some (.slice x.A x.len x.cap) ∧ w'.cell? ⟨w3.heap.size, 0, none⟩ = some (.int .i64 y.h.kind) ∧ w'.cell? ⟨w3.heap.size, 1, none⟩ = some (.int .i64 y.h.n) ∧ w'.cell? ⟨w3.heap.size, 2, none⟩ = some (.int .i64 y.h.d) ∧ w'.cell? ⟨w3.heap.size, 3, none⟩ = some (.string y.h.name) ∧ w'.cell? ⟨w3.heap.size, 4, none⟩ = some (.int .i64 y.h.k) ∧ w'.cell? ⟨w3.heap.size, 5, none⟩ = some (.slice y.A y.len y.cap)) (by kernel_rfl) ?_ (fun hHeld => ?_)
     case refine_1 => exact ⟨R7ba.out.cell 0, R7ba.out.cell 1, R7ba.out.cell 2, R7ba.out.cell 3, R7ba.out.cell 4, R7ba.out.cell 5, R7bb.out.cell 0, R7bb.out.cell 1, R7bb.out.cell 2, R7bb.out.cell 3, R7bb.out.cell 4, R7bb.out.cell 5⟩
     refine tkW 0 ?_
     refine tkW 1 ?_
     refine tkW 7 ?_
     refine tkW 9 ?_
     refine tkW 10 ?_
     refine wpAnyH_ready (rs := [2]) (by kernel_rfl) (by simp) ?_
     refine AllReadyH.cons rfl (fun K hK => ?_) AllReadyH.nil
     go_simp
     (with_reducible refine (sum_r x _).mono ?_)
     rw [Hca.out]
     rintro e w8 ⟨rfl, HC8⟩
     have R8i0 := Lib.hid (R7i0.out.belowW HC8.out)
     have R8e0 := Lib.hid (R7e0.out.belowW HC8.out)
     have R8i1 := Lib.hid (R7i1.out.belowW HC8.out)
     have R8e1 := Lib.hid (R7e1.out.belowW HC8.out)
     have R8bx := Lib.hid (R7bx.out.belowW HC8.out)
     have R8ba := Lib.hid (R7ba.out.belowW HC8.out)
     have R8bb := Lib.hid (R7bb.out.belowW HC8.out)
     have HR8 := Lib.hid (HR7.out.trans (HC8.out.mono HR7.out.size))
     go_wp2_with fail
     clear hHeld
     refine hK.out _ _ ?_ (fun hHeld => ?_)
     case refine_1 => exact ⟨R8ba.out.cell 0, R8ba.out.cell 1, R8ba.out.cell 2, R8ba.out.cell 3, R8ba.out.cell 4, R8ba.out.cell 5, R8bb.out.cell 0, R8bb.out.cell 1, R8bb.out.cell 2, R8bb.out.cell 3, R8bb.out.cell 4, R8bb.out.cell 5⟩
     clear hK K
     try simp only [qa, qb, qc]
     refine tkW 3 ?_
     refine tkV 4 ?_
     refine tkW 5 ?_
     refine wpAnyH_ready (rs := [6]) (by kernel_rfl) (by simp) ?_
     refine AllReadyH.cons rfl (fun K hK => ?_) AllReadyH.nil
     go_simp
     (with_reducible refine (wrap_r S1 true _ la HT1.out hla9).mono ?_)
     rintro e w9 ⟨S3, rfl, HS3, HC9⟩
     have R9i0 := Lib.hid (R8i0.out.belowW HC9.out)
     have R9e0 := Lib.hid (R8e0.out.belowW HC9.out)
     have R9i1 := Lib.hid (R8i1.out.belowW HC9.out)
     have R9e1 := Lib.hid (R8e1.out.belowW HC9.out)
     have R9bx := Lib.hid (R8bx.out.belowW HC9.out)
     have R9ba := Lib.hid (R8ba.out.belowW HC9.out)
     have R9bb := Lib.hid (R8bb.out.belowW HC9.out)
     have HR9 := Lib.hid (HR8.out.trans (HC9.out.mono HR8.out.size))
     have hS3 : S3.size = (par true la).length := strp_size HS3.out
     go_wp2_with fail
     clear hHeld
     refine hK.out _ _ ?_ (fun hHeld => ?_)
     case refine_1 => exact ⟨R9ba.out.cell 0, R9ba.out.cell 1, R9ba.out.cell 2, R9ba.out.cell 3, R9ba.out.cell 4, R9ba.out.cell 5, R9bb.out.cell 0, R9bb.out.cell 1, R9bb.out.cell 2, R9bb.out.cell 3, R9bb.out.cell 4, R9bb.out.cell 5⟩
     clear hK K
     try simp only [qa, qb, qc]
     refine tkW 8 ?_
     refine wpAnyH_ready (rs := [11]) (by kernel_rfl) (by simp) ?_
     refine AllReadyH.cons rfl (fun K hK => ?_) AllReadyH.nil
     go_simp
     (with_reducible refine (sum_r y _).mono ?_)
     rw [Hds.out]
     rintro e w10 ⟨rfl, HC10⟩
     have R10i0 := Lib.hid (R9i0.out.belowW HC10.out)
     have R10e0 := Lib.hid (R9e0.out.belowW HC10.out)
     have R10i1 := Lib.hid (R9i1.out.belowW HC10.out)
     have R10e1 := Lib.hid (R9e1.out.belowW HC10.out)
     have R10bx := Lib.hid (R9bx.out.belowW HC10.out)
     have R10ba := Lib.hid (R9ba.out.belowW HC10.out)
     have R10bb := Lib.hid (R9bb.out.belowW HC10.out)
     have HR10 := Lib.hid (HR9.out.trans (HC10.out.mono HR9.out.size))
     go_wp2_with fail
     clear hHeld
     refine hK.out _ _ ?_ (fun hHeld => ?_)
     case refine_1 => exact ⟨R10ba.out.cell 0, R10ba.out.cell 1, R10ba.out.cell 2, R10ba.out.cell 3, R10ba.out.cell 4, R10ba.out.cell 5, R10bb.out.cell 0, R10bb.out.cell 1, R10bb.out.cell 2, R10bb.out.cell 3, R10bb.out.cell 4, R10bb.out.cell 5⟩
     clear hK K
     try simp only [qa, qb, qc]
     refine tkW 12 ?_
     refine tkW 13 ?_
     refine wpAnyH_ready (rs := [14]) (by kernel_rfl) (by simp) ?_
     refine AllReadyH.cons rfl (fun K hK => ?_) AllReadyH.nil
     go_simp
     (with_reducible refine (prod_r y _).mono ?_)
     rw [Hdp.out]
     rintro e w11 ⟨rfl, HC11⟩
     have R11i0 := Lib.hid (R10i0.out.belowW HC11.out)
     have R11e0 := Lib.hid (R10e0.out.belowW HC11.out)
     have R11i1 := Lib.hid (R10i1.out.belowW HC11.out)
     have R11e1 := Lib.hid (R10e1.out.belowW HC11.out)
     have R11bx := Lib.hid (R10bx.out.belowW HC11.out)
     have R11ba := Lib.hid (R10ba.out.belowW HC11.out)
     have R11bb := Lib.hid (R10bb.out.belowW HC11.out)
     have HR11 := Lib.hid (HR10.out.trans (HC11.out.mono HR10.out.size))
     go_wp2_with fail
     clear hHeld
     refine hK.out _ _ ?_ (fun hHeld => ?_)
     case refine_1 => exact ⟨R11ba.out.cell 0, R11ba.out.cell 1, R11ba.out.cell 2, R11ba.out.cell 3, R11ba.out.cell 4, R11ba.out.cell 5, R11bb.out.cell 0, R11bb.out.cell 1, R11bb.out.cell 2, R11bb.out.cell 3, R11bb.out.cell 4, R11bb.out.cell 5⟩
     clear hK K
     try simp only [qa, qb, qc]
     refine tkW 15 ?_
     refine tkW 16 ?_
     refine tkW 17 ?_
     refine wpAnyH_ready (rs := [18]) (by kernel_rfl) (by simp) ?_
     refine AllReadyH.cons rfl (fun K hK => ?_) AllReadyH.nil
     go_simp
     (with_reducible refine (brok_r y _).mono ?_)
     rw [Hdb.out]
     rintro e w12 ⟨rfl, HC12⟩
     have R12i0 := Lib.hid (R11i0.out.belowW HC12.out)
     have R12e0 := Lib.hid (R11e0.out.belowW HC12.out)
     have R12i1 := Lib.hid (R11i1.out.belowW HC12.out)
     have R12e1 := Lib.hid (R11e1.out.belowW HC12.out)
     have R12bx := Lib.hid (R11bx.out.belowW HC12.out)
     have R12ba := Lib.hid (R11ba.out.belowW HC12.out)
     have R12bb := Lib.hid (R11bb.out.belowW HC12.out)
     have HR12 := Lib.hid (HR11.out.trans (HC12.out.mono HR11.out.size))
     go_wp2_with fail
     clear hHeld
     refine hK.out _ _ ?_ (fun hHeld => ?_)
     case refine_1 => exact ⟨R12ba.out.cell 0, R12ba.out.cell 1, R12ba.out.cell 2, R12ba.out.cell 3, R12ba.out.cell 4, R12ba.out.cell 5, R12bb.out.cell 0, R12bb.out.cell 1, R12bb.out.cell 2, R12bb.out.cell 3, R12bb.out.cell 4, R12bb.out.cell 5⟩
     clear hK K
     try simp only [qa, qb, qc]
     refine tkW 19 ?_
     refine wpAnyH_ready (rs := [20]) (by kernel_rfl) (by simp) ?_
     refine AllReadyH.cons rfl (fun K hK => ?_) AllReadyH.nil
     go_simp
     (with_reducible refine (wrap_r S2 true _ lb HT2.out hlb9).mono ?_)
     rintro e w13 ⟨S4, rfl, HS4, HC13⟩
     have R13i0 := Lib.hid (R12i0.out.belowW HC13.out)
     have R13e0 := Lib.hid (R12e0.out.belowW HC13.out)
     have R13i1 := Lib.hid (R12i1.out.belowW HC13.out)
     have R13e1 := Lib.hid (R12e1.out.belowW HC13.out)
     have R13bx := Lib.hid (R12bx.out.belowW HC13.out)
     have R13ba := Lib.hid (R12ba.out.belowW HC13.out)
     have R13bb := Lib.hid (R12bb.out.belowW HC13.out)
     have HR13 := Lib.hid (HR12.out.trans (HC13.out.mono HR12.out.size))
     have hS4 : S4.size = (par true lb).length := strp_size HS4.out
     go_wp2_with fail
     clear hHeld
     refine hK.out _ _ ?_ (fun hHeld => ?_)
     case refine_1 => exact ⟨R13ba.out.cell 0, R13ba.out.cell 1, R13ba.out.cell 2, R13ba.out.cell 3, R13ba.out.cell 4, R13ba.out.cell 5, R13bb.out.cell 0, R13bb.out.cell 1, R13bb.out.cell 2, R13bb.out.cell 3, R13bb.out.cell 4, R13bb.out.cell 5⟩
     clear hK K
     try simp only [qa, qb, qc]
     refine tkW 21 ?_
     refine tkW 22 ?_
     refine wpAnyH_done (by kernel_rfl) ?_ _
     have HL13 := Lib.hid (HL6.out.trans (HR13.out.mono HL6.out.size))
     go_wp2_with fail
     go_ret
     exact ⟨_, rfl, Lib.hid (by rw [data_app, data_app, HS3.out, HS4.out, HTX.out, List.append_assoc]), HL13⟩
   | true =>
    have HN1 := Lib.hid (show na = true by rw [HNA.out]; unfold need1; rw [ca]; rfl)
    rw [HN1.out] at c1 c2 HTX hpla
    have HN2 := Lib.hid (show nb = true by rw [HNB.out]; unfold need2; rw [ds, dp]; rfl)
    rw [HN2.out] at c2 HTX hplb
    have Hca := Lib.hid ca
    clear ca
    have Hds := Lib.hid ds
    clear ds
    have Hdp := Lib.hid dp
    clear dp
    have HR7 := Lib.hid (below_dr w6)
    have R7i0 := Lib.hid (F6i0.out.belowW HR7.out)
    have R7e0 := Lib.hid (F6e0.out.belowW HR7.out)
    have R7i1 := Lib.hid (F6i1.out.belowW HR7.out)
    have R7e1 := Lib.hid (F6e1.out.belowW HR7.out)
    have R7bx := Lib.hid (F6bx.out.belowW HR7.out)
    have R7ba := Lib.hid (F6ba.out.belowW HR7.out)
    have R7bb := Lib.hid (F6bb.out.belowW HR7.out)
    refine wp_region_held_drew (S := fun w' => w'.cell? ⟨w1.heap.size, 0, none⟩ = some (.int .i64 x.h.kind) ∧ w'.cell? ⟨w1.heap.size, 1, none⟩ = some (.int .i64 x.h.n) ∧ w'.cell? ⟨w1.heap.size, 2, none⟩ = some (.int .i64 x.h.d) ∧ w'.cell? ⟨w1.heap.size, 3, none⟩ = some (.string x.h.name) ∧ w'.cell? ⟨w1.heap.size, 4, none⟩ = some (.int .i64 x.h.k) ∧ w'.cell? ⟨w1.heap.size, 5, none⟩ = some (.slice x.A x.len x.cap) ∧ w'.cell? ⟨w3.heap.size, 0, none⟩ = some (.int .i64 y.h.kind) ∧ w'.cell? ⟨w3.heap.size, 1, none⟩ = some (.int .i64 y.h.n) ∧ w'.cell? ⟨w3.heap.size, 2, none⟩ = some (.int .i64 y.h.d) ∧ w'.cell? ⟨w3.heap.size, 3, none⟩ = some (.string y.h.name) ∧ w'.cell? ⟨w3.heap.size, 4, none⟩ = some (.int .i64 y.h.k) ∧ w'.cell? ⟨w3.heap.size, 5, none⟩ = some (.slice y.A y.len y.cap)) (by kernel_rfl) ?_ (fun hHeld => ?_)
    case refine_1 => exact ⟨R7ba.out.cell 0, R7ba.out.cell 1, R7ba.out.cell 2, R7ba.out.cell 3, R7ba.out.cell 4, R7ba.out.cell 5, R7bb.out.cell 0, R7bb.out.cell 1, R7bb.out.cell 2, R7bb.out.cell 3, R7bb.out.cell 4, R7bb.out.cell 5⟩
    refine tkW 0 ?_
    refine tkW 1 ?_
    refine tkW 7 ?_
    refine tkW 9 ?_
    refine tkW 10 ?_
    refine wpAnyH_ready (rs := [2]) (by kernel_rfl) (by simp) ?_
    refine AllReadyH.cons rfl (fun K hK => ?_) AllReadyH.nil
    go_simp
    (with_reducible refine (sum_r x _).mono ?_)
    rw [Hca.out]
    rintro e w8 ⟨rfl, HC8⟩
    have R8i0 := Lib.hid (R7i0.out.belowW HC8.out)
    have R8e0 := Lib.hid (R7e0.out.belowW HC8.out)
    have R8i1 := Lib.hid (R7i1.out.belowW HC8.out)
    have R8e1 := Lib.hid (R7e1.out.belowW HC8.out)
    have R8bx := Lib.hid (R7bx.out.belowW HC8.out)
    have R8ba := Lib.hid (R7ba.out.belowW HC8.out)
    have R8bb := Lib.hid (R7bb.out.belowW HC8.out)
    have HR8 := Lib.hid (HR7.out.trans (HC8.out.mono HR7.out.size))
    go_wp2_with fail
    clear hHeld
    refine hK.out _ _ ?_ (fun hHeld => ?_)
    case refine_1 => exact ⟨R8ba.out.cell 0, R8ba.out.cell 1, R8ba.out.cell 2, R8ba.out.cell 3, R8ba.out.cell 4, R8ba.out.cell 5, R8bb.out.cell 0, R8bb.out.cell 1, R8bb.out.cell 2, R8bb.out.cell 3, R8bb.out.cell 4, R8bb.out.cell 5⟩
    clear hK K
    try simp only [qa, qb, qc]
    refine tkW 3 ?_
    refine tkV 4 ?_
    refine tkW 5 ?_
    refine wpAnyH_ready (rs := [6]) (by kernel_rfl) (by simp) ?_
    refine AllReadyH.cons rfl (fun K hK => ?_) AllReadyH.nil
    go_simp
    (with_reducible refine (wrap_r S1 true _ la HT1.out hla9).mono ?_)
    rintro e w9 ⟨S3, rfl, HS3, HC9⟩
    have R9i0 := Lib.hid (R8i0.out.belowW HC9.out)
    have R9e0 := Lib.hid (R8e0.out.belowW HC9.out)
    have R9i1 := Lib.hid (R8i1.out.belowW HC9.out)
    have R9e1 := Lib.hid (R8e1.out.belowW HC9.out)
    have R9bx := Lib.hid (R8bx.out.belowW HC9.out)
    have R9ba := Lib.hid (R8ba.out.belowW HC9.out)
    have R9bb := Lib.hid (R8bb.out.belowW HC9.out)
    have HR9 := Lib.hid (HR8.out.trans (HC9.out.mono HR8.out.size))
    have hS3 : S3.size = (par true la).length := strp_size HS3.out
    go_wp2_with fail
    clear hHeld
    refine hK.out _ _ ?_ (fun hHeld => ?_)
    case refine_1 => exact ⟨R9ba.out.cell 0, R9ba.out.cell 1, R9ba.out.cell 2, R9ba.out.cell 3, R9ba.out.cell 4, R9ba.out.cell 5, R9bb.out.cell 0, R9bb.out.cell 1, R9bb.out.cell 2, R9bb.out.cell 3, R9bb.out.cell 4, R9bb.out.cell 5⟩
    clear hK K
    try simp only [qa, qb, qc]
    refine tkW 8 ?_
    refine wpAnyH_ready (rs := [11]) (by kernel_rfl) (by simp) ?_
    refine AllReadyH.cons rfl (fun K hK => ?_) AllReadyH.nil
    go_simp
    (with_reducible refine (sum_r y _).mono ?_)
    rw [Hds.out]
    rintro e w10 ⟨rfl, HC10⟩
    have R10i0 := Lib.hid (R9i0.out.belowW HC10.out)
    have R10e0 := Lib.hid (R9e0.out.belowW HC10.out)
    have R10i1 := Lib.hid (R9i1.out.belowW HC10.out)
    have R10e1 := Lib.hid (R9e1.out.belowW HC10.out)
    have R10bx := Lib.hid (R9bx.out.belowW HC10.out)
    have R10ba := Lib.hid (R9ba.out.belowW HC10.out)
    have R10bb := Lib.hid (R9bb.out.belowW HC10.out)
    have HR10 := Lib.hid (HR9.out.trans (HC10.out.mono HR9.out.size))
    go_wp2_with fail
    clear hHeld
    refine hK.out _ _ ?_ (fun hHeld => ?_)
    case refine_1 => exact ⟨R10ba.out.cell 0, R10ba.out.cell 1, R10ba.out.cell 2, R10ba.out.cell 3, R10ba.out.cell 4, R10ba.out.cell 5, R10bb.out.cell 0, R10bb.out.cell 1, R10bb.out.cell 2, R10bb.out.cell 3, R10bb.out.cell 4, R10bb.out.cell 5⟩
    clear hK K
    try simp only [qa, qb, qc]
    refine tkW 12 ?_
    refine tkW 13 ?_
    refine wpAnyH_ready (rs := [14]) (by kernel_rfl) (by simp) ?_
    refine AllReadyH.cons rfl (fun K hK => ?_) AllReadyH.nil
    go_simp
    (with_reducible refine (prod_r y _).mono ?_)
    rw [Hdp.out]
    rintro e w11 ⟨rfl, HC11⟩
    have R11i0 := Lib.hid (R10i0.out.belowW HC11.out)
    have R11e0 := Lib.hid (R10e0.out.belowW HC11.out)
    have R11i1 := Lib.hid (R10i1.out.belowW HC11.out)
    have R11e1 := Lib.hid (R10e1.out.belowW HC11.out)
    have R11bx := Lib.hid (R10bx.out.belowW HC11.out)
    have R11ba := Lib.hid (R10ba.out.belowW HC11.out)
    have R11bb := Lib.hid (R10bb.out.belowW HC11.out)
    have HR11 := Lib.hid (HR10.out.trans (HC11.out.mono HR10.out.size))
    go_wp2_with fail
    clear hHeld
    refine hK.out _ _ ?_ (fun hHeld => ?_)
    case refine_1 => exact ⟨R11ba.out.cell 0, R11ba.out.cell 1, R11ba.out.cell 2, R11ba.out.cell 3, R11ba.out.cell 4, R11ba.out.cell 5, R11bb.out.cell 0, R11bb.out.cell 1, R11bb.out.cell 2, R11bb.out.cell 3, R11bb.out.cell 4, R11bb.out.cell 5⟩
    clear hK K
    try simp only [qa, qb, qc]
    refine tkW 15 ?_
    refine tkW 16 ?_
    refine tkV 17 ?_
    refine tkV 18 ?_
    refine tkW 19 ?_
    refine wpAnyH_ready (rs := [20]) (by kernel_rfl) (by simp) ?_
    refine AllReadyH.cons rfl (fun K hK => ?_) AllReadyH.nil
    go_simp
    (with_reducible refine (wrap_r S2 true _ lb HT2.out hlb9).mono ?_)
    rintro e w12 ⟨S4, rfl, HS4, HC12⟩
    have R12i0 := Lib.hid (R11i0.out.belowW HC12.out)
    have R12e0 := Lib.hid (R11e0.out.belowW HC12.out)
    have R12i1 := Lib.hid (R11i1.out.belowW HC12.out)
    have R12e1 := Lib.hid (R11e1.out.belowW HC12.out)
    have R12bx := Lib.hid (R11bx.out.belowW HC12.out)
    have R12ba := Lib.hid (R11ba.out.belowW HC12.out)
    have R12bb := Lib.hid (R11bb.out.belowW HC12.out)
    have HR12 := Lib.hid (HR11.out.trans (HC12.out.mono HR11.out.size))
    have hS4 : S4.size = (par true lb).length := strp_size HS4.out
    go_wp2_with fail
    clear hHeld
    refine hK.out _ _ ?_ (fun hHeld => ?_)
    case refine_1 => exact ⟨R12ba.out.cell 0, R12ba.out.cell 1, R12ba.out.cell 2, R12ba.out.cell 3, R12ba.out.cell 4, R12ba.out.cell 5, R12bb.out.cell 0, R12bb.out.cell 1, R12bb.out.cell 2, R12bb.out.cell 3, R12bb.out.cell 4, R12bb.out.cell 5⟩
    clear hK K
    try simp only [qa, qb, qc]
    refine tkW 21 ?_
    refine tkW 22 ?_
    refine wpAnyH_done (by kernel_rfl) ?_ _
    have HL12 := Lib.hid (HL6.out.trans (HR12.out.mono HL6.out.size))
    go_wp2_with fail
    go_ret
    exact ⟨_, rfl, Lib.hid (by rw [data_app, data_app, HS3.out, HS4.out, HTX.out, List.append_assoc]), HL12⟩
  | true =>
   have HN1 := Lib.hid (show na = true by rw [HNA.out]; unfold need1; rw [ca]; rfl)
   rw [HN1.out] at c1 c2 HTX hpla
   have HN2 := Lib.hid (show nb = true by rw [HNB.out]; unfold need2; rw [ds]; rfl)
   rw [HN2.out] at c2 HTX hplb
   have Hca := Lib.hid ca
   clear ca
   have Hds := Lib.hid ds
   clear ds
   have HR7 := Lib.hid (below_dr w6)
   have R7i0 := Lib.hid (F6i0.out.belowW HR7.out)
   have R7e0 := Lib.hid (F6e0.out.belowW HR7.out)
   have R7i1 := Lib.hid (F6i1.out.belowW HR7.out)
   have R7e1 := Lib.hid (F6e1.out.belowW HR7.out)
   have R7bx := Lib.hid (F6bx.out.belowW HR7.out)
   have R7ba := Lib.hid (F6ba.out.belowW HR7.out)
   have R7bb := Lib.hid (F6bb.out.belowW HR7.out)
   refine wp_region_held_drew (S := fun w' => w'.cell? ⟨w1.heap.size, 0, none⟩ = some (.int .i64 x.h.kind) ∧ w'.cell? ⟨w1.heap.size, 1, none⟩ = some (.int .i64 x.h.n) ∧ w'.cell? ⟨w1.heap.size, 2, none⟩ = some (.int .i64 x.h.d) ∧ w'.cell? ⟨w1.heap.size, 3, none⟩ = some (.string x.h.name) ∧ w'.cell? ⟨w1.heap.size, 4, none⟩ = some (.int .i64 x.h.k) ∧ w'.cell? ⟨w1.heap.size, 5, none⟩ = some (.slice x.A x.len x.cap) ∧ w'.cell? ⟨w3.heap.size, 0, none⟩ = some (.int .i64 y.h.kind) ∧ w'.cell? ⟨w3.heap.size, 1, none⟩ = some (.int .i64 y.h.n) ∧ w'.cell? ⟨w3.heap.size, 2, none⟩ = some (.int .i64 y.h.d) ∧ w'.cell? ⟨w3.heap.size, 3, none⟩ = some (.string y.h.name) ∧ w'.cell? ⟨w3.heap.size, 4, none⟩ = some (.int .i64 y.h.k) ∧ w'.cell? ⟨w3.heap.size, 5, none⟩ = some (.slice y.A y.len y.cap)) (by kernel_rfl) ?_ (fun hHeld => ?_)
   case refine_1 => exact ⟨R7ba.out.cell 0, R7ba.out.cell 1, R7ba.out.cell 2, R7ba.out.cell 3, R7ba.out.cell 4, R7ba.out.cell 5, R7bb.out.cell 0, R7bb.out.cell 1, R7bb.out.cell 2, R7bb.out.cell 3, R7bb.out.cell 4, R7bb.out.cell 5⟩
   refine tkW 0 ?_
   refine tkW 1 ?_
   refine tkW 7 ?_
   refine tkW 9 ?_
   refine tkW 10 ?_
   refine wpAnyH_ready (rs := [2]) (by kernel_rfl) (by simp) ?_
   refine AllReadyH.cons rfl (fun K hK => ?_) AllReadyH.nil
   go_simp
   (with_reducible refine (sum_r x _).mono ?_)
   rw [Hca.out]
   rintro e w8 ⟨rfl, HC8⟩
   have R8i0 := Lib.hid (R7i0.out.belowW HC8.out)
   have R8e0 := Lib.hid (R7e0.out.belowW HC8.out)
   have R8i1 := Lib.hid (R7i1.out.belowW HC8.out)
   have R8e1 := Lib.hid (R7e1.out.belowW HC8.out)
   have R8bx := Lib.hid (R7bx.out.belowW HC8.out)
   have R8ba := Lib.hid (R7ba.out.belowW HC8.out)
   have R8bb := Lib.hid (R7bb.out.belowW HC8.out)
   have HR8 := Lib.hid (HR7.out.trans (HC8.out.mono HR7.out.size))
   go_wp2_with fail
   clear hHeld
   refine hK.out _ _ ?_ (fun hHeld => ?_)
   case refine_1 => exact ⟨R8ba.out.cell 0, R8ba.out.cell 1, R8ba.out.cell 2, R8ba.out.cell 3, R8ba.out.cell 4, R8ba.out.cell 5, R8bb.out.cell 0, R8bb.out.cell 1, R8bb.out.cell 2, R8bb.out.cell 3, R8bb.out.cell 4, R8bb.out.cell 5⟩
   clear hK K
   try simp only [qa, qb, qc]
   refine tkW 3 ?_
   refine tkV 4 ?_
   refine tkW 5 ?_
   refine wpAnyH_ready (rs := [6]) (by kernel_rfl) (by simp) ?_
   refine AllReadyH.cons rfl (fun K hK => ?_) AllReadyH.nil
   go_simp
   (with_reducible refine (wrap_r S1 true _ la HT1.out hla9).mono ?_)
   rintro e w9 ⟨S3, rfl, HS3, HC9⟩
   have R9i0 := Lib.hid (R8i0.out.belowW HC9.out)
   have R9e0 := Lib.hid (R8e0.out.belowW HC9.out)
   have R9i1 := Lib.hid (R8i1.out.belowW HC9.out)
   have R9e1 := Lib.hid (R8e1.out.belowW HC9.out)
   have R9bx := Lib.hid (R8bx.out.belowW HC9.out)
   have R9ba := Lib.hid (R8ba.out.belowW HC9.out)
   have R9bb := Lib.hid (R8bb.out.belowW HC9.out)
   have HR9 := Lib.hid (HR8.out.trans (HC9.out.mono HR8.out.size))
   have hS3 : S3.size = (par true la).length := strp_size HS3.out
   go_wp2_with fail
   clear hHeld
   refine hK.out _ _ ?_ (fun hHeld => ?_)
   case refine_1 => exact ⟨R9ba.out.cell 0, R9ba.out.cell 1, R9ba.out.cell 2, R9ba.out.cell 3, R9ba.out.cell 4, R9ba.out.cell 5, R9bb.out.cell 0, R9bb.out.cell 1, R9bb.out.cell 2, R9bb.out.cell 3, R9bb.out.cell 4, R9bb.out.cell 5⟩
   clear hK K
   try simp only [qa, qb, qc]
   refine tkW 8 ?_
   refine wpAnyH_ready (rs := [11]) (by kernel_rfl) (by simp) ?_
   refine AllReadyH.cons rfl (fun K hK => ?_) AllReadyH.nil
   go_simp
   (with_reducible refine (sum_r y _).mono ?_)
   rw [Hds.out]
   rintro e w10 ⟨rfl, HC10⟩
   have R10i0 := Lib.hid (R9i0.out.belowW HC10.out)
   have R10e0 := Lib.hid (R9e0.out.belowW HC10.out)
   have R10i1 := Lib.hid (R9i1.out.belowW HC10.out)
   have R10e1 := Lib.hid (R9e1.out.belowW HC10.out)
   have R10bx := Lib.hid (R9bx.out.belowW HC10.out)
   have R10ba := Lib.hid (R9ba.out.belowW HC10.out)
   have R10bb := Lib.hid (R9bb.out.belowW HC10.out)
   have HR10 := Lib.hid (HR9.out.trans (HC10.out.mono HR9.out.size))
   go_wp2_with fail
   clear hHeld
   refine hK.out _ _ ?_ (fun hHeld => ?_)
   case refine_1 => exact ⟨R10ba.out.cell 0, R10ba.out.cell 1, R10ba.out.cell 2, R10ba.out.cell 3, R10ba.out.cell 4, R10ba.out.cell 5, R10bb.out.cell 0, R10bb.out.cell 1, R10bb.out.cell 2, R10bb.out.cell 3, R10bb.out.cell 4, R10bb.out.cell 5⟩
   clear hK K
   try simp only [qa, qb, qc]
   refine tkW 12 ?_
   refine tkV 13 ?_
   refine tkV 14 ?_
   refine tkW 15 ?_
   refine tkW 16 ?_
   refine tkV 17 ?_
   refine tkV 18 ?_
   refine tkW 19 ?_
   refine wpAnyH_ready (rs := [20]) (by kernel_rfl) (by simp) ?_
   refine AllReadyH.cons rfl (fun K hK => ?_) AllReadyH.nil
   go_simp
   (with_reducible refine (wrap_r S2 true _ lb HT2.out hlb9).mono ?_)
   rintro e w11 ⟨S4, rfl, HS4, HC11⟩
   have R11i0 := Lib.hid (R10i0.out.belowW HC11.out)
   have R11e0 := Lib.hid (R10e0.out.belowW HC11.out)
   have R11i1 := Lib.hid (R10i1.out.belowW HC11.out)
   have R11e1 := Lib.hid (R10e1.out.belowW HC11.out)
   have R11bx := Lib.hid (R10bx.out.belowW HC11.out)
   have R11ba := Lib.hid (R10ba.out.belowW HC11.out)
   have R11bb := Lib.hid (R10bb.out.belowW HC11.out)
   have HR11 := Lib.hid (HR10.out.trans (HC11.out.mono HR10.out.size))
   have hS4 : S4.size = (par true lb).length := strp_size HS4.out
   go_wp2_with fail
   clear hHeld
   refine hK.out _ _ ?_ (fun hHeld => ?_)
   case refine_1 => exact ⟨R11ba.out.cell 0, R11ba.out.cell 1, R11ba.out.cell 2, R11ba.out.cell 3, R11ba.out.cell 4, R11ba.out.cell 5, R11bb.out.cell 0, R11bb.out.cell 1, R11bb.out.cell 2, R11bb.out.cell 3, R11bb.out.cell 4, R11bb.out.cell 5⟩
   clear hK K
   try simp only [qa, qb, qc]
   refine tkW 21 ?_
   refine tkW 22 ?_
   refine wpAnyH_done (by kernel_rfl) ?_ _
   have HL11 := Lib.hid (HL6.out.trans (HR11.out.mono HL6.out.size))
   go_wp2_with fail
   go_ret
   exact ⟨_, rfl, Lib.hid (by rw [data_app, data_app, HS3.out, HS4.out, HTX.out, List.append_assoc]), HL11⟩
end Go.Proofs.YtoogeihbhhcpaaaGreatDoor
