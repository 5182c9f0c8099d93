/-
  The walk of the reference's text of an expression.
-/
import Derived.Test.YtoogeihbhhcpaaaGreatDoorFmR
import Derived.Test.YtoogeihbhhcpaaaGreatDoorFrP
set_option linter.unusedVariables false
namespace Go.Proofs.YtoogeihbhhcpaaaGreatDoor
open Go.RowKit Go.Fl Go.Fl.Nm Go.Fl.Fm Go.Fl.Rt
open List renaming setIfInBounds_toArray → qa, set_cons_zero → qb, set_cons_succ → qc, getElem_toArray → qd, getElem_cons_zero → qe, getElem_cons_succ → qf

set_option maxHeartbeats 8000000 in
set_option maxRecDepth 100000 in
theorem text_k6 (f : Nat) (ih : TextAt f) (T : TE) (v : Nd) (w : World) (hin : InE w T v) (hg : good nameP (f + 1) T) (hl : (txt (f + 1) T).length ≤ 20000) (hk : v.h.kind = 6) :
    Calls Tryz.prog 27 #[v.val] w (StrP (txt (f + 1) T) w) := by
 have hnd := hg.1
 rw [hin.hd, hin.length] at hnd
 have hlen : v.len = 2 := by rcases node_kinds hnd with h | h | h | h | h | h <;> omega
 have hl2 : T.l.length = 2 := by rw [hin.length]; exact hlen
 obtain ⟨T1, T2, hT⟩ := list2 hl2
 have hTa : T.a = T1 := by unfold TE.a; rw [hT]; rfl
 have hTb : T.b = T2 := by unfold TE.b; rw [hT]; rfl
 have hga : good nameP f T.a := hg.2 _ (by rw [hTa, hT]; exact List.mem_cons_self ..)
 have hgb : good nameP f T.b := hg.2 _ (by rw [hTb, hT]; exact List.mem_cons_of_mem _ (List.mem_cons_self ..))
 have HGA := Lib.hid hga
 have HGB := Lib.hid hgb
 have IH := Lib.hid ih
 have hTk : T.h.kind = 6 := by rw [hin.hd]; exact hk
 obtain ⟨b, o, x, y, hA, hx, hy, ex, ey⟩ := hin.two hlen
 have hxh : T.a.h = x.h := hx.hd
 have hyh : T.b.h = y.h := hy.hd
 have HTX := Lib.hid (show txt (f + 1) T = par (need1 6 x.h y.h) (txt f T.a) ++ ([32, 47, 32] ++ par (need2 6 y.h) (txt f T.b)) by
   show (if _ then _ else _) = _
   rw [hTk, if_neg (by decide), if_neg (by decide), if_pos (by decide), hxh, hyh]
   rfl)
 have HX := Lib.hid hx
 have HY := Lib.hid hy
 have EX := Lib.hid ex
 have EY := Lib.hid ey
 obtain ⟨la, hla⟩ : ∃ z, z = txt f T.a := ⟨_, rfl⟩
 obtain ⟨lb, hlb⟩ : ∃ z, z = txt f T.b := ⟨_, rfl⟩
 obtain ⟨na, hna⟩ : ∃ z, z = need1 6 x.h y.h := ⟨_, rfl⟩
 obtain ⟨nb, hnb⟩ : ∃ z, z = need2 6 y.h := ⟨_, rfl⟩
 obtain ⟨L, hL⟩ : ∃ z, z = txt (f + 1) T := ⟨_, rfl⟩
 rw [← hla, ← hlb, ← hna, ← hnb, ← hL] at HTX
 rw [← hL] at hl ⊢
 have hlen3 : (par na la).length + 3 + (par nb lb).length ≤ 20000 := by
   have h := congrArg List.length HTX.out
   rw [List.length_append, List.length_append] at h
   simp only [List.length_cons, List.length_nil] at h
   omega
 have hpla := (par_len na la).1
 have hplb := (par_len nb lb).1
 have c1 : ¬ (9223372036854775807 < (par na la).length + 3) := by omega
 have c2 : ¬ (9223372036854775807 < (par na la).length + 3 + (par nb lb).length) := by omega
 have HLA := Lib.hid (show (txt f T.a).length ≤ 20000 by rw [← hla]; omega)
 have HLB := Lib.hid (show (txt f T.b).length ≤ 20000 by rw [← hlb]; omega)
 have hla9 : la.length ≤ 20000 := by omega
 have hlb9 : lb.length ≤ 20000 := by omega
 have HNA := Lib.hid hna
 have HNB := Lib.hid hnb
 have HQA := Lib.hid hla
 have HQB := Lib.hid hlb
 clear hla hlb hna hnb hL hin hg hl ih hx hy ex ey hga hgb hT hTa hTb hl2 hnd hTk hxh hyh
 obtain ⟨⟨kd, n, d, nm, k⟩, A, len, cap⟩ := v
 simp only at hk hA hlen
 subst hk hA hlen
 simp only [Nd.val]
 go_enter Tryz.func27, Tryz.ntmps27
 go_upto_region 1 with (fail)
 obtain ⟨w1, hw⟩ : ∃ z9 : World, z9 = w.alloc (.cells #[.int .i64 6, .int .i64 n, .int .i64 d, .string nm, .int .i64 k, .slice (some ⟨b, o, none⟩) 2 cap] 51) := ⟨_, rfl⟩
 have HB1 := Lib.hid (show Below w.heap.size w w1 by rw [hw]; exact below_box _ _)
 have F1bx := Lib.hid (show Blk w1 w.heap.size 51 #[.int .i64 6, .int .i64 n, .int .i64 d, .string nm, .int .i64 k, .slice (some ⟨b, o, none⟩) 2 cap] by rw [hw]; exact Blk.new _ _ _)
 rw [← hw]
 clear hw
 have F1i0 := Lib.hid (HX.out.belowW HB1.out)
 have F1e0 := Lib.hid (EX.out.belowW HB1.out)
 have F1i1 := Lib.hid (HY.out.belowW HB1.out)
 have F1e1 := Lib.hid (EY.out.belowW HB1.out)
 obtain ⟨pb0, pb1, pb2, pb3, pb4, pb5⟩ := F1bx.out.cs6
 have el0 : w1.cell? ⟨b, o, none⟩ = some (.int .i64 x.h.kind) := F1e0.out.c0
 have el1 : w1.cell? ⟨b, o + 1, none⟩ = some (.int .i64 x.h.n) := F1e0.out.c1
 have el2 : w1.cell? ⟨b, o + 2, none⟩ = some (.int .i64 x.h.d) := F1e0.out.c2
 have el3 : w1.cell? ⟨b, o + 3, none⟩ = some (.string x.h.name) := F1e0.out.c3
 have el4 : w1.cell? ⟨b, o + 4, none⟩ = some (.int .i64 x.h.k) := F1e0.out.c4
 have el5 : w1.cell? ⟨b, o + 5, none⟩ = some (.slice x.A x.len x.cap) := F1e0.out.c5
 go_upto_region 7 with (fail)
 clear pb0 pb1 pb2 pb3 pb4 pb5 el0 el1 el2 el3 el4 el5
 obtain ⟨w2, hw⟩ : ∃ z9 : World, z9 = w1.alloc (.cells #[.int .i64 x.h.kind, .int .i64 x.h.n, .int .i64 x.h.d, .string x.h.name, .int .i64 x.h.k, .slice x.A x.len x.cap] 51) := ⟨_, rfl⟩
 have HB2 := Lib.hid (show Below w1.heap.size w1 w2 by rw [hw]; exact below_box _ _)
 have F2ba := Lib.hid (show Blk w2 w1.heap.size 51 #[.int .i64 x.h.kind, .int .i64 x.h.n, .int .i64 x.h.d, .string x.h.name, .int .i64 x.h.k, .slice x.A x.len x.cap] by rw [hw]; exact Blk.new _ _ _)
 rw [← hw]
 clear hw
 have F2i0 := Lib.hid (F1i0.out.belowW HB2.out)
 have F2e0 := Lib.hid (F1e0.out.belowW HB2.out)
 have F2i1 := Lib.hid (F1i1.out.belowW HB2.out)
 have F2e1 := Lib.hid (F1e1.out.belowW HB2.out)
 have F2bx := Lib.hid (F1bx.out.belowW HB2.out)
 have HL2 := Lib.hid (HB1.out.trans (HB2.out.mono HB1.out.size))
 obtain ⟨pb0, pb1, pb2, pb3, pb4, pb5⟩ := F2bx.out.cs6
 obtain ⟨qa0, qa1, qa2, qa3, qa4, qa5⟩ := F2ba.out.cs6
 go_wp2_with fail
 refine (tx_go IH.out T.a x w2 F2i0.out HGA.out HLA.out).mono ?_
 rintro e w3 ⟨S1, rfl, HS1, HB3⟩
 clear pb0 pb1 pb2 pb3 pb4 pb5 qa0 qa1 qa2 qa3 qa4 qa5
 have F3i0 := Lib.hid (F2i0.out.belowW HB3.out)
 have F3e0 := Lib.hid (F2e0.out.belowW HB3.out)
 have F3i1 := Lib.hid (F2i1.out.belowW HB3.out)
 have F3e1 := Lib.hid (F2e1.out.belowW HB3.out)
 have F3bx := Lib.hid (F2bx.out.belowW HB3.out)
 have F3ba := Lib.hid (F2ba.out.belowW HB3.out)
 have HL3 := Lib.hid (HL2.out.trans (HB3.out.mono HL2.out.size))
 have hS1 : S1.size = la.length := by rw [strp_size HS1.out, HQA.out]
 have HT1 := Lib.hid (show S1.data.toList = la from HS1.out.trans HQA.out.symm)
 obtain ⟨pb0, pb1, pb2, pb3, pb4, pb5⟩ := F3bx.out.cs6
 obtain ⟨qa0, qa1, qa2, qa3, qa4, qa5⟩ := F3ba.out.cs6
 clear pb0 pb1 pb2 pb3 pb4 pb5 qa0 qa1 qa2 qa3 qa4 qa5
 obtain ⟨pb0, pb1, pb2, pb3, pb4, pb5⟩ := F3bx.out.cs6
 obtain ⟨qa0, qa1, qa2, qa3, qa4, qa5⟩ := F3ba.out.cs6
 have el0 : w3.cell? ⟨b, o + 6, none⟩ = some (.int .i64 y.h.kind) := F3e1.out.c0
 have el1 : w3.cell? ⟨b, o + 6 + 1, none⟩ = some (.int .i64 y.h.n) := F3e1.out.c1
 have el2 : w3.cell? ⟨b, o + 6 + 2, none⟩ = some (.int .i64 y.h.d) := F3e1.out.c2
 have el3 : w3.cell? ⟨b, o + 6 + 3, none⟩ = some (.string y.h.name) := F3e1.out.c3
 have el4 : w3.cell? ⟨b, o + 6 + 4, none⟩ = some (.int .i64 y.h.k) := F3e1.out.c4
 have el5 : w3.cell? ⟨b, o + 6 + 5, none⟩ = some (.slice y.A y.len y.cap) := F3e1.out.c5
 go_upto_region 19 with (fail)
 clear pb0 pb1 pb2 pb3 pb4 pb5 qa0 qa1 qa2 qa3 qa4 qa5 el0 el1 el2 el3 el4 el5
 obtain ⟨w4, hw⟩ : ∃ z9 : World, z9 = w3.alloc (.cells #[.int .i64 y.h.kind, .int .i64 y.h.n, .int .i64 y.h.d, .string y.h.name, .int .i64 y.h.k, .slice y.A y.len y.cap] 51) := ⟨_, rfl⟩
 have HB4 := Lib.hid (show Below w3.heap.size w3 w4 by rw [hw]; exact below_box _ _)
 have F4bb := Lib.hid (show Blk w4 w3.heap.size 51 #[.int .i64 y.h.kind, .int .i64 y.h.n, .int .i64 y.h.d, .string y.h.name, .int .i64 y.h.k, .slice y.A y.len y.cap] by rw [hw]; exact Blk.new _ _ _)
 rw [← hw]
 clear hw
 have F4i0 := Lib.hid (F3i0.out.belowW HB4.out)
 have F4e0 := Lib.hid (F3e0.out.belowW HB4.out)
 have F4i1 := Lib.hid (F3i1.out.belowW HB4.out)
 have F4e1 := Lib.hid (F3e1.out.belowW HB4.out)
 have F4bx := Lib.hid (F3bx.out.belowW HB4.out)
 have F4ba := Lib.hid (F3ba.out.belowW HB4.out)
 have HL4 := Lib.hid (HL3.out.trans (HB4.out.mono HL3.out.size))
 obtain ⟨pb0, pb1, pb2, pb3, pb4, pb5⟩ := F4bx.out.cs6
 obtain ⟨qa0, qa1, qa2, qa3, qa4, qa5⟩ := F4ba.out.cs6
 obtain ⟨qb0, qb1, qb2, qb3, qb4, qb5⟩ := F4bb.out.cs6
 go_wp2_with fail
 refine (tx_go IH.out T.b y w4 F4i1.out HGB.out HLB.out).mono ?_
 rintro e w5 ⟨S2, rfl, HS2, HB5⟩
 clear pb0 pb1 pb2 pb3 pb4 pb5 qa0 qa1 qa2 qa3 qa4 qa5 qb0 qb1 qb2 qb3 qb4 qb5
 have F5i0 := Lib.hid (F4i0.out.belowW HB5.out)
 have F5e0 := Lib.hid (F4e0.out.belowW HB5.out)
 have F5i1 := Lib.hid (F4i1.out.belowW HB5.out)
 have F5e1 := Lib.hid (F4e1.out.belowW HB5.out)
 have F5bx := Lib.hid (F4bx.out.belowW HB5.out)
 have F5ba := Lib.hid (F4ba.out.belowW HB5.out)
 have F5bb := Lib.hid (F4bb.out.belowW HB5.out)
 have HL5 := Lib.hid (HL4.out.trans (HB5.out.mono HL4.out.size))
 have hS2 : S2.size = lb.length := by rw [strp_size HS2.out, HQB.out]
 have HT2 := Lib.hid (show S2.data.toList = lb from HS2.out.trans HQB.out.symm)
 obtain ⟨pb0, pb1, pb2, pb3, pb4, pb5⟩ := F5bx.out.cs6
 obtain ⟨qa0, qa1, qa2, qa3, qa4, qa5⟩ := F5ba.out.cs6
 obtain ⟨qb0, qb1, qb2, qb3, qb4, qb5⟩ := F5bb.out.cs6
 go_wp2_with fail
 refine (sum_r ⟨⟨6, n, d, nm, k⟩, some ⟨b, o, none⟩, 2, cap⟩ w5).mono ?_
 rw [show sumK (Nd.mk ⟨6, n, d, nm, k⟩ (some ⟨b, o, none⟩) 2 cap).h.kind = false from rfl]
 rintro e w6 ⟨rfl, HB6⟩
 clear pb0 pb1 pb2 pb3 pb4 pb5 qa0 qa1 qa2 qa3 qa4 qa5 qb0 qb1 qb2 qb3 qb4 qb5
 have F6i0 := Lib.hid (F5i0.out.belowW HB6.out)
 have F6e0 := Lib.hid (F5e0.out.belowW HB6.out)
 have F6i1 := Lib.hid (F5i1.out.belowW HB6.out)
 have F6e1 := Lib.hid (F5e1.out.belowW HB6.out)
 have F6bx := Lib.hid (F5bx.out.belowW HB6.out)
 have F6ba := Lib.hid (F5ba.out.belowW HB6.out)
 have F6bb := Lib.hid (F5bb.out.belowW HB6.out)
 have HL6 := Lib.hid (HL5.out.trans (HB6.out.mono HL5.out.size))
 obtain ⟨pb0, pb1, pb2, pb3, pb4, pb5⟩ := F6bx.out.cs6
 obtain ⟨qa0, qa1, qa2, qa3, qa4, qa5⟩ := F6ba.out.cs6
 obtain ⟨qb0, qb1, qb2, qb3, qb4, qb5⟩ := F6bb.out.cs6
 go_upto_region 29 with (fail)
 go_cut [10] (fun s10 wx => s10 = .bool (whl x.h && (whl y.h && decide (0 ≤ y.h.n))) ∧ Hid (Below w6.heap.size w6 wx))
 case first =>
  cases k1 : (x.h.kind == 1) with
  | false =>
   have hI : (whl x.h && (whl y.h && decide (0 ≤ y.h.n))) = false := by unfold whl; rw [k1]; rfl
   have HI0 := Lib.hid hI
   clear hI
   go_wp2_with fail
   go_meet
   exact ⟨by rw [HI0.out], Lib.hid (Below.refl _ _)⟩
  | true =>
   cases d1 : (x.h.d == 1) with
   | false =>
    have hI : (whl x.h && (whl y.h && decide (0 ≤ y.h.n))) = false := by unfold whl; rw [k1, d1]; rfl
    have HI0 := Lib.hid hI
    clear hI
    go_wp2_with fail
    go_meet
    exact ⟨by rw [HI0.out], Lib.hid (Below.refl _ _)⟩
   | true =>
    obtain ⟨I, hI⟩ : ∃ z, (whl y.h && decide (0 ≤ y.h.n)) = z := ⟨_, rfl⟩
    have HI := Lib.hid hI
    have hI2 : (whl x.h && (whl y.h && decide (0 ≤ y.h.n))) = I := by rw [hI]; unfold whl; rw [k1, d1]; rfl
    have HI0 := Lib.hid hI2
    clear hI hI2
    go_wp2_with fail
    refine (whl_r y w6).mono ?_
    rw [HI.out]
    rintro e w7 ⟨rfl, HB7⟩
    clear pb0 pb1 pb2 pb3 pb4 pb5 qa0 qa1 qa2 qa3 qa4 qa5 qb0 qb1 qb2 qb3 qb4 qb5
    have F7i0 := Lib.hid (F6i0.out.belowW HB7.out)
    have F7e0 := Lib.hid (F6e0.out.belowW HB7.out)
    have F7i1 := Lib.hid (F6i1.out.belowW HB7.out)
    have F7e1 := Lib.hid (F6e1.out.belowW HB7.out)
    have F7bx := Lib.hid (F6bx.out.belowW HB7.out)
    have F7ba := Lib.hid (F6ba.out.belowW HB7.out)
    have F7bb := Lib.hid (F6bb.out.belowW HB7.out)
    go_wp2_with fail
    go_meet
    exact ⟨by rw [HI0.out], HB7⟩
 case rest =>
  obtain ⟨rfl, HBC⟩ := hcut
  obtain ⟨w70, hw⟩ : ∃ z9 : World, z9 = wc := ⟨_, rfl⟩
  rw [← hw] at HBC ⊢
  clear hw
  clear pb0 pb1 pb2 pb3 pb4 pb5 qa0 qa1 qa2 qa3 qa4 qa5 qb0 qb1 qb2 qb3 qb4 qb5
  have F70i0 := Lib.hid (F6i0.out.belowW HBC.out)
  have F70e0 := Lib.hid (F6e0.out.belowW HBC.out)
  have F70i1 := Lib.hid (F6i1.out.belowW HBC.out)
  have F70e1 := Lib.hid (F6e1.out.belowW HBC.out)
  have F70bx := Lib.hid (F6bx.out.belowW HBC.out)
  have F70ba := Lib.hid (F6ba.out.belowW HBC.out)
  have F70bb := Lib.hid (F6bb.out.belowW HBC.out)
  have HL70 := Lib.hid (HL6.out.trans (HBC.out.mono HL6.out.size))
  obtain ⟨I, hI⟩ : ∃ z, (whl x.h && (whl y.h && decide (0 ≤ y.h.n))) = z := ⟨_, rfl⟩
  rw [hI]
  have HI := Lib.hid hI
  clear hI
  go_upto_region 30 with (fail)
  cases ca : sumK x.h.kind with
  | false =>
   cases ds : sumK y.h.kind with
   | false =>
    cases dp : prodK y.h.kind with
    | false =>
     cases db : brok y.h with
     | false =>
      have HN1 := Lib.hid (show na = I by rw [HNA.out]; unfold need1; rw [ca, ← HI.out]; show (false || ((true && whl x.h && whl y.h) && decide (0 ≤ y.h.n))) = _; rw [Bool.true_and, Bool.false_or, Bool.and_assoc])
      rw [HN1.out] at c1 c2 HTX hpla
      have HN2 := Lib.hid (show nb = false by rw [HNB.out]; unfold need2; rw [ds, dp, db]; rfl)
      rw [HN2.out] at c2 HTX hplb
      have Hca := Lib.hid ca
      clear ca
      have Hds := Lib.hid ds
      clear ds
      have Hdp := Lib.hid dp
      clear dp
      have Hdb := Lib.hid db
      clear db
      have HR71 := Lib.hid (below_dr w70)
      have R71i0 := Lib.hid (F70i0.out.belowW HR71.out)
      have R71e0 := Lib.hid (F70e0.out.belowW HR71.out)
      have R71i1 := Lib.hid (F70i1.out.belowW HR71.out)
      have R71e1 := Lib.hid (F70e1.out.belowW HR71.out)
      have R71bx := Lib.hid (F70bx.out.belowW HR71.out)
      have R71ba := Lib.hid (F70ba.out.belowW HR71.out)
      have R71bb := Lib.hid (F70bb.out.belowW HR71.out)
      refine wp_region_held_drew (S := fun w' => w'.cell? ⟨w1.heap.size, 0, none⟩ = some (.int .i64 x.h.kind) ∧ w'.cell? ⟨w1.heap.size, 1, none⟩ = some (.int .i64 x.h.n) ∧ w'.cell? ⟨w1.heap.size, 2, none⟩ = some (.int .i64 x.h.d) ∧ w'.cell? ⟨w1.heap.size, 3, none⟩ = some (.string x.h.name) ∧ w'.cell? ⟨w1.heap.size, 4, none⟩ = some (.int .i64 x.h.k) ∧ w'.cell? ⟨w1.heap.size, 5, none⟩ = some (.slice x.A x.len x.cap) ∧ w'.cell? ⟨w3.heap.size, 0, none⟩ = some (.int .i64 y.h.kind) ∧ w'.cell? ⟨w3.heap.size, 1, none⟩ = some (.int .i64 y.h.n) ∧ w'.cell? ⟨w3.heap.size, 2, none⟩ = some (.int .i64 y.h.d) ∧ w'.cell? ⟨w3.heap.size, 3, none⟩ = some (.string y.h.name) ∧ w'.cell? ⟨w3.heap.size, 4, none⟩ = some (.int .i64 y.h.k) ∧ w'.cell? ⟨w3.heap.size, 5, none⟩ = some (.slice y.A y.len y.cap)) (by kernel_rfl) ?_ (fun hHeld => ?_)
      case refine_1 => exact ⟨R71ba.out.cell 0, R71ba.out.cell 1, R71ba.out.cell 2, R71ba.out.cell 3, R71ba.out.cell 4, R71ba.out.cell 5, R71bb.out.cell 0, R71bb.out.cell 1, R71bb.out.cell 2, R71bb.out.cell 3, R71bb.out.cell 4, R71bb.out.cell 5⟩
      refine tkW 0 ?_
      refine tkW 1 ?_
      refine tkW 7 ?_
      refine tkW 9 ?_
      refine tkW 10 ?_
      refine wpAnyH_ready (rs := [2]) (by kernel_rfl) (by simp) ?_
      refine AllReadyH.cons rfl (fun K hK => ?_) AllReadyH.nil
      go_simp
      (with_reducible refine (sum_r x _).mono ?_)
      rw [Hca.out]
      rintro e w72 ⟨rfl, HC72⟩
      have R72i0 := Lib.hid (R71i0.out.belowW HC72.out)
      have R72e0 := Lib.hid (R71e0.out.belowW HC72.out)
      have R72i1 := Lib.hid (R71i1.out.belowW HC72.out)
      have R72e1 := Lib.hid (R71e1.out.belowW HC72.out)
      have R72bx := Lib.hid (R71bx.out.belowW HC72.out)
      have R72ba := Lib.hid (R71ba.out.belowW HC72.out)
      have R72bb := Lib.hid (R71bb.out.belowW HC72.out)
      have HR72 := Lib.hid (HR71.out.trans (HC72.out.mono HR71.out.size))
      go_wp2_with fail
      clear hHeld
      refine hK.out _ _ ?_ (fun hHeld => ?_)
      case refine_1 => exact ⟨R72ba.out.cell 0, R72ba.out.cell 1, R72ba.out.cell 2, R72ba.out.cell 3, R72ba.out.cell 4, R72ba.out.cell 5, R72bb.out.cell 0, R72bb.out.cell 1, R72bb.out.cell 2, R72bb.out.cell 3, R72bb.out.cell 4, R72bb.out.cell 5⟩
      clear hK K
      try simp only [qa, qb, qc]
      refine tkW 3 ?_
      refine tkW 4 ?_
      refine tkW 5 ?_
      refine wpAnyH_ready (rs := [6]) (by kernel_rfl) (by simp) ?_
      refine AllReadyH.cons rfl (fun K hK => ?_) AllReadyH.nil
      go_simp
      (with_reducible refine (wrap_r S1 I _ la HT1.out hla9).mono ?_)
      rintro e w73 ⟨S3, rfl, HS3, HC73⟩
      have R73i0 := Lib.hid (R72i0.out.belowW HC73.out)
      have R73e0 := Lib.hid (R72e0.out.belowW HC73.out)
      have R73i1 := Lib.hid (R72i1.out.belowW HC73.out)
      have R73e1 := Lib.hid (R72e1.out.belowW HC73.out)
      have R73bx := Lib.hid (R72bx.out.belowW HC73.out)
      have R73ba := Lib.hid (R72ba.out.belowW HC73.out)
      have R73bb := Lib.hid (R72bb.out.belowW HC73.out)
      have HR73 := Lib.hid (HR72.out.trans (HC73.out.mono HR72.out.size))
      have hS3 : S3.size = (par I la).length := strp_size HS3.out
      go_wp2_with fail
      clear hHeld
      refine hK.out _ _ ?_ (fun hHeld => ?_)
      case refine_1 => exact ⟨R73ba.out.cell 0, R73ba.out.cell 1, R73ba.out.cell 2, R73ba.out.cell 3, R73ba.out.cell 4, R73ba.out.cell 5, R73bb.out.cell 0, R73bb.out.cell 1, R73bb.out.cell 2, R73bb.out.cell 3, R73bb.out.cell 4, R73bb.out.cell 5⟩
      clear hK K
      try simp only [qa, qb, qc]
      refine tkW 8 ?_
      refine wpAnyH_ready (rs := [11]) (by kernel_rfl) (by simp) ?_
      refine AllReadyH.cons rfl (fun K hK => ?_) AllReadyH.nil
      go_simp
      (with_reducible refine (sum_r y _).mono ?_)
      rw [Hds.out]
      rintro e w74 ⟨rfl, HC74⟩
      have R74i0 := Lib.hid (R73i0.out.belowW HC74.out)
      have R74e0 := Lib.hid (R73e0.out.belowW HC74.out)
      have R74i1 := Lib.hid (R73i1.out.belowW HC74.out)
      have R74e1 := Lib.hid (R73e1.out.belowW HC74.out)
      have R74bx := Lib.hid (R73bx.out.belowW HC74.out)
      have R74ba := Lib.hid (R73ba.out.belowW HC74.out)
      have R74bb := Lib.hid (R73bb.out.belowW HC74.out)
      have HR74 := Lib.hid (HR73.out.trans (HC74.out.mono HR73.out.size))
      go_wp2_with fail
      clear hHeld
      refine hK.out _ _ ?_ (fun hHeld => ?_)
      case refine_1 => exact ⟨R74ba.out.cell 0, R74ba.out.cell 1, R74ba.out.cell 2, R74ba.out.cell 3, R74ba.out.cell 4, R74ba.out.cell 5, R74bb.out.cell 0, R74bb.out.cell 1, R74bb.out.cell 2, R74bb.out.cell 3, R74bb.out.cell 4, R74bb.out.cell 5⟩
      clear hK K
      try simp only [qa, qb, qc]
      refine tkW 12 ?_
      refine tkW 13 ?_
      refine wpAnyH_ready (rs := [14]) (by kernel_rfl) (by simp) ?_
      refine AllReadyH.cons rfl (fun K hK => ?_) AllReadyH.nil
      go_simp
      (with_reducible refine (prod_r y _).mono ?_)
      rw [Hdp.out]
      rintro e w75 ⟨rfl, HC75⟩
      have R75i0 := Lib.hid (R74i0.out.belowW HC75.out)
      have R75e0 := Lib.hid (R74e0.out.belowW HC75.out)
      have R75i1 := Lib.hid (R74i1.out.belowW HC75.out)
      have R75e1 := Lib.hid (R74e1.out.belowW HC75.out)
      have R75bx := Lib.hid (R74bx.out.belowW HC75.out)
      have R75ba := Lib.hid (R74ba.out.belowW HC75.out)
      have R75bb := Lib.hid (R74bb.out.belowW HC75.out)
      have HR75 := Lib.hid (HR74.out.trans (HC75.out.mono HR74.out.size))
      go_wp2_with fail
      clear hHeld
      refine hK.out _ _ ?_ (fun hHeld => ?_)
      case refine_1 => exact ⟨R75ba.out.cell 0, R75ba.out.cell 1, R75ba.out.cell 2, R75ba.out.cell 3, R75ba.out.cell 4, R75ba.out.cell 5, R75bb.out.cell 0, R75bb.out.cell 1, R75bb.out.cell 2, R75bb.out.cell 3, R75bb.out.cell 4, R75bb.out.cell 5⟩
      clear hK K
      try simp only [qa, qb, qc]
      refine tkW 15 ?_
      refine tkW 16 ?_
      refine tkW 17 ?_
      refine wpAnyH_ready (rs := [18]) (by kernel_rfl) (by simp) ?_
      refine AllReadyH.cons rfl (fun K hK => ?_) AllReadyH.nil
      go_simp
      (with_reducible refine (brok_r y _).mono ?_)
      rw [Hdb.out]
      rintro e w76 ⟨rfl, HC76⟩
      have R76i0 := Lib.hid (R75i0.out.belowW HC76.out)
      have R76e0 := Lib.hid (R75e0.out.belowW HC76.out)
      have R76i1 := Lib.hid (R75i1.out.belowW HC76.out)
      have R76e1 := Lib.hid (R75e1.out.belowW HC76.out)
      have R76bx := Lib.hid (R75bx.out.belowW HC76.out)
      have R76ba := Lib.hid (R75ba.out.belowW HC76.out)
      have R76bb := Lib.hid (R75bb.out.belowW HC76.out)
      have HR76 := Lib.hid (HR75.out.trans (HC76.out.mono HR75.out.size))
      go_wp2_with fail
      clear hHeld
      refine hK.out _ _ ?_ (fun hHeld => ?_)
      case refine_1 => exact ⟨R76ba.out.cell 0, R76ba.out.cell 1, R76ba.out.cell 2, R76ba.out.cell 3, R76ba.out.cell 4, R76ba.out.cell 5, R76bb.out.cell 0, R76bb.out.cell 1, R76bb.out.cell 2, R76bb.out.cell 3, R76bb.out.cell 4, R76bb.out.cell 5⟩
      clear hK K
      try simp only [qa, qb, qc]
      refine tkW 19 ?_
      refine wpAnyH_ready (rs := [20]) (by kernel_rfl) (by simp) ?_
      refine AllReadyH.cons rfl (fun K hK => ?_) AllReadyH.nil
      go_simp
      (with_reducible refine (wrap_r S2 false _ lb HT2.out hlb9).mono ?_)
      rintro e w77 ⟨S4, rfl, HS4, HC77⟩
      have R77i0 := Lib.hid (R76i0.out.belowW HC77.out)
      have R77e0 := Lib.hid (R76e0.out.belowW HC77.out)
      have R77i1 := Lib.hid (R76i1.out.belowW HC77.out)
      have R77e1 := Lib.hid (R76e1.out.belowW HC77.out)
      have R77bx := Lib.hid (R76bx.out.belowW HC77.out)
      have R77ba := Lib.hid (R76ba.out.belowW HC77.out)
      have R77bb := Lib.hid (R76bb.out.belowW HC77.out)
      have HR77 := Lib.hid (HR76.out.trans (HC77.out.mono HR76.out.size))
      have hS4 : S4.size = (par false lb).length := strp_size HS4.out
      go_wp2_with fail
      clear hHeld
      refine hK.out _ _ ?_ (fun hHeld => ?_)
      case refine_1 => exact ⟨R77ba.out.cell 0, R77ba.out.cell 1, R77ba.out.cell 2, R77ba.out.cell 3, R77ba.out.cell 4, R77ba.out.cell 5, R77bb.out.cell 0, R77bb.out.cell 1, R77bb.out.cell 2, R77bb.out.cell 3, R77bb.out.cell 4, R77bb.out.cell 5⟩
      clear hK K
      try simp only [qa, qb, qc]
      refine tkW 21 ?_
      refine tkW 22 ?_
      refine wpAnyH_done (by kernel_rfl) ?_ _
      have HL77 := Lib.hid (HL70.out.trans (HR77.out.mono HL70.out.size))
      go_wp2_with fail
      go_ret
      exact ⟨_, rfl, Lib.hid (by rw [data_app, data_app, HS3.out, HS4.out, HTX.out, List.append_assoc]), HL77⟩
     | true =>
      have HN1 := Lib.hid (show na = I by rw [HNA.out]; unfold need1; rw [ca, ← HI.out]; show (false || ((true && whl x.h && whl y.h) && decide (0 ≤ y.h.n))) = _; rw [Bool.true_and, Bool.false_or, Bool.and_assoc])
      rw [HN1.out] at c1 c2 HTX hpla
      have HN2 := Lib.hid (show nb = true by rw [HNB.out]; unfold need2; rw [ds, dp, db]; rfl)
      rw [HN2.out] at c2 HTX hplb
      have Hca := Lib.hid ca
      clear ca
      have Hds := Lib.hid ds
      clear ds
      have Hdp := Lib.hid dp
      clear dp
      have Hdb := Lib.hid db
      clear db
      have HR71 := Lib.hid (below_dr w70)
      have R71i0 := Lib.hid (F70i0.out.belowW HR71.out)
      have R71e0 := Lib.hid (F70e0.out.belowW HR71.out)
      have R71i1 := Lib.hid (F70i1.out.belowW HR71.out)
      have R71e1 := Lib.hid (F70e1.out.belowW HR71.out)
      have R71bx := Lib.hid (F70bx.out.belowW HR71.out)
      have R71ba := Lib.hid (F70ba.out.belowW HR71.out)
      have R71bb := Lib.hid (F70bb.out.belowW HR71.out)
      refine wp_region_held_drew (S := fun w' => w'.cell? ⟨w1.heap.size, 0, none⟩ = some (.int .i64 x.h.kind) ∧ w'.cell? ⟨w1.heap.size, 1, none⟩ = some (.int .i64 x.h.n) ∧ w'.cell? ⟨w1.heap.size, 2, none⟩ = some (.int .i64 x.h.d) ∧ w'.cell? ⟨w1.heap.size, 3, none⟩ = some (.string x.h.name) ∧ w'.cell? ⟨w1.heap.size, 4, none⟩ = some (.int .i64 x.h.k) ∧ w'.cell? ⟨w1.heap.size, 5, none⟩ = some (.slice x.A x.len x.cap) ∧ w'.cell? ⟨w3.heap.size, 0, none⟩ = some (.int .i64 y.h.kind) ∧ w'.cell? ⟨w3.heap.size, 1, none⟩ = some (.int .i64 y.h.n) ∧ w'.cell? ⟨w3.heap.size, 2, none⟩ = some (.int .i64 y.h.d) ∧ w'.cell? ⟨w3.heap.size, 3, none⟩ = some (.string y.h.name) ∧ w'.cell? ⟨w3.heap.size, 4, none⟩ = some (.int .i64 y.h.k) ∧ w'.cell? ⟨w3.heap.size, 5, none⟩ = some (.slice y.A y.len y.cap)) (by kernel_rfl) ?_ (fun hHeld => ?_)
      case refine_1 => exact ⟨R71ba.out.cell 0, R71ba.out.cell 1, R71ba.out.cell 2, R71ba.out.cell 3, R71ba.out.cell 4, R71ba.out.cell 5, R71bb.out.cell 0, R71bb.out.cell 1, R71bb.out.cell 2, R71bb.out.cell 3, R71bb.out.cell 4, R71bb.out.cell 5⟩
      refine tkW 0 ?_
      refine tkW 1 ?_
      refine tkW 7 ?_
      refine tkW 9 ?_
      refine tkW 10 ?_
      refine wpAnyH_ready (rs := [2]) (by kernel_rfl) (by simp) ?_
      refine AllReadyH.cons rfl (fun K hK => ?_) AllReadyH.nil
      go_simp
      (with_reducible refine (sum_r x _).mono ?_)
      rw [Hca.out]
      rintro e w72 ⟨rfl, HC72⟩
      have R72i0 := Lib.hid (R71i0.out.belowW HC72.out)
      have R72e0 := Lib.hid (R71e0.out.belowW HC72.out)
      have R72i1 := Lib.hid (R71i1.out.belowW HC72.out)
      have R72e1 := Lib.hid (R71e1.out.belowW HC72.out)
      have R72bx := Lib.hid (R71bx.out.belowW HC72.out)
      have R72ba := Lib.hid (R71ba.out.belowW HC72.out)
      have R72bb := Lib.hid (R71bb.out.belowW HC72.out)
      have HR72 := Lib.hid (HR71.out.trans (HC72.out.mono HR71.out.size))
      go_wp2_with fail
      clear hHeld
      refine hK.out _ _ ?_ (fun hHeld => ?_)
      case refine_1 => exact ⟨R72ba.out.cell 0, R72ba.out.cell 1, R72ba.out.cell 2, R72ba.out.cell 3, R72ba.out.cell 4, R72ba.out.cell 5, R72bb.out.cell 0, R72bb.out.cell 1, R72bb.out.cell 2, R72bb.out.cell 3, R72bb.out.cell 4, R72bb.out.cell 5⟩
      clear hK K
      try simp only [qa, qb, qc]
      refine tkW 3 ?_
      refine tkW 4 ?_
      refine tkW 5 ?_
      refine wpAnyH_ready (rs := [6]) (by kernel_rfl) (by simp) ?_
      refine AllReadyH.cons rfl (fun K hK => ?_) AllReadyH.nil
      go_simp
      (with_reducible refine (wrap_r S1 I _ la HT1.out hla9).mono ?_)
      rintro e w73 ⟨S3, rfl, HS3, HC73⟩
      have R73i0 := Lib.hid (R72i0.out.belowW HC73.out)
      have R73e0 := Lib.hid (R72e0.out.belowW HC73.out)
      have R73i1 := Lib.hid (R72i1.out.belowW HC73.out)
      have R73e1 := Lib.hid (R72e1.out.belowW HC73.out)
      have R73bx := Lib.hid (R72bx.out.belowW HC73.out)
      have R73ba := Lib.hid (R72ba.out.belowW HC73.out)
      have R73bb := Lib.hid (R72bb.out.belowW HC73.out)
      have HR73 := Lib.hid (HR72.out.trans (HC73.out.mono HR72.out.size))
      have hS3 : S3.size = (par I la).length := strp_size HS3.out
      go_wp2_with fail
      clear hHeld
      refine hK.out _ _ ?_ (fun hHeld => ?_)
      case refine_1 => exact ⟨R73ba.out.cell 0, R73ba.out.cell 1, R73ba.out.cell 2, R73ba.out.cell 3, R73ba.out.cell 4, R73ba.out.cell 5, R73bb.out.cell 0, R73bb.out.cell 1, R73bb.out.cell 2, R73bb.out.cell 3, R73bb.out.cell 4, R73bb.out.cell 5⟩
      clear hK K
      try simp only [qa, qb, qc]
      refine tkW 8 ?_
      refine wpAnyH_ready (rs := [11]) (by kernel_rfl) (by simp) ?_
      refine AllReadyH.cons rfl (fun K hK => ?_) AllReadyH.nil
      go_simp
      (with_reducible refine (sum_r y _).mono ?_)
      rw [Hds.out]
      rintro e w74 ⟨rfl, HC74⟩
      have R74i0 := Lib.hid (R73i0.out.belowW HC74.out)
      have R74e0 := Lib.hid (R73e0.out.belowW HC74.out)
      have R74i1 := Lib.hid (R73i1.out.belowW HC74.out)
      have R74e1 := Lib.hid (R73e1.out.belowW HC74.out)
      have R74bx := Lib.hid (R73bx.out.belowW HC74.out)
      have R74ba := Lib.hid (R73ba.out.belowW HC74.out)
      have R74bb := Lib.hid (R73bb.out.belowW HC74.out)
      have HR74 := Lib.hid (HR73.out.trans (HC74.out.mono HR73.out.size))
      go_wp2_with fail
      clear hHeld
      refine hK.out _ _ ?_ (fun hHeld => ?_)
      case refine_1 => exact ⟨R74ba.out.cell 0, R74ba.out.cell 1, R74ba.out.cell 2, R74ba.out.cell 3, R74ba.out.cell 4, R74ba.out.cell 5, R74bb.out.cell 0, R74bb.out.cell 1, R74bb.out.cell 2, R74bb.out.cell 3, R74bb.out.cell 4, R74bb.out.cell 5⟩
      clear hK K
      try simp only [qa, qb, qc]
      refine tkW 12 ?_
      refine tkW 13 ?_
      refine wpAnyH_ready (rs := [14]) (by kernel_rfl) (by simp) ?_
      refine AllReadyH.cons rfl (fun K hK => ?_) AllReadyH.nil
      go_simp
      (with_reducible refine (prod_r y _).mono ?_)
      rw [Hdp.out]
      rintro e w75 ⟨rfl, HC75⟩
      have R75i0 := Lib.hid (R74i0.out.belowW HC75.out)
      have R75e0 := Lib.hid (R74e0.out.belowW HC75.out)
      have R75i1 := Lib.hid (R74i1.out.belowW HC75.out)
      have R75e1 := Lib.hid (R74e1.out.belowW HC75.out)
      have R75bx := Lib.hid (R74bx.out.belowW HC75.out)
      have R75ba := Lib.hid (R74ba.out.belowW HC75.out)
      have R75bb := Lib.hid (R74bb.out.belowW HC75.out)
      have HR75 := Lib.hid (HR74.out.trans (HC75.out.mono HR74.out.size))
      go_wp2_with fail
      clear hHeld
      refine hK.out _ _ ?_ (fun hHeld => ?_)
      case refine_1 => exact ⟨R75ba.out.cell 0, R75ba.out.cell 1, R75ba.out.cell 2, R75ba.out.cell 3, R75ba.out.cell 4, R75ba.out.cell 5, R75bb.out.cell 0, R75bb.out.cell 1, R75bb.out.cell 2, R75bb.out.cell 3, R75bb.out.cell 4, R75bb.out.cell 5⟩
      clear hK K
      try simp only [qa, qb, qc]
      refine tkW 15 ?_
      refine tkW 16 ?_
      refine tkW 17 ?_
      refine wpAnyH_ready (rs := [18]) (by kernel_rfl) (by simp) ?_
      refine AllReadyH.cons rfl (fun K hK => ?_) AllReadyH.nil
      go_simp
      (with_reducible refine (brok_r y _).mono ?_)
      rw [Hdb.out]
      rintro e w76 ⟨rfl, HC76⟩
      have R76i0 := Lib.hid (R75i0.out.belowW HC76.out)
      have R76e0 := Lib.hid (R75e0.out.belowW HC76.out)
      have R76i1 := Lib.hid (R75i1.out.belowW HC76.out)
      have R76e1 := Lib.hid (R75e1.out.belowW HC76.out)
      have R76bx := Lib.hid (R75bx.out.belowW HC76.out)
      have R76ba := Lib.hid (R75ba.out.belowW HC76.out)
      have R76bb := Lib.hid (R75bb.out.belowW HC76.out)
      have HR76 := Lib.hid (HR75.out.trans (HC76.out.mono HR75.out.size))
      go_wp2_with fail
      clear hHeld
      refine hK.out _ _ ?_ (fun hHeld => ?_)
      case refine_1 => exact ⟨R76ba.out.cell 0, R76ba.out.cell 1, R76ba.out.cell 2, R76ba.out.cell 3, R76ba.out.cell 4, R76ba.out.cell 5, R76bb.out.cell 0, R76bb.out.cell 1, R76bb.out.cell 2, R76bb.out.cell 3, R76bb.out.cell 4, R76bb.out.cell 5⟩
      clear hK K
      try simp only [qa, qb, qc]
      refine tkW 19 ?_
      refine wpAnyH_ready (rs := [20]) (by kernel_rfl) (by simp) ?_
      refine AllReadyH.cons rfl (fun K hK => ?_) AllReadyH.nil
      go_simp
      (with_reducible refine (wrap_r S2 true _ lb HT2.out hlb9).mono ?_)
      rintro e w77 ⟨S4, rfl, HS4, HC77⟩
      have R77i0 := Lib.hid (R76i0.out.belowW HC77.out)
      have R77e0 := Lib.hid (R76e0.out.belowW HC77.out)
      have R77i1 := Lib.hid (R76i1.out.belowW HC77.out)
      have R77e1 := Lib.hid (R76e1.out.belowW HC77.out)
      have R77bx := Lib.hid (R76bx.out.belowW HC77.out)
      have R77ba := Lib.hid (R76ba.out.belowW HC77.out)
      have R77bb := Lib.hid (R76bb.out.belowW HC77.out)
      have HR77 := Lib.hid (HR76.out.trans (HC77.out.mono HR76.out.size))
      have hS4 : S4.size = (par true lb).length := strp_size HS4.out
      go_wp2_with fail
      clear hHeld
      refine hK.out _ _ ?_ (fun hHeld => ?_)
      case refine_1 => exact ⟨R77ba.out.cell 0, R77ba.out.cell 1, R77ba.out.cell 2, R77ba.out.cell 3, R77ba.out.cell 4, R77ba.out.cell 5, R77bb.out.cell 0, R77bb.out.cell 1, R77bb.out.cell 2, R77bb.out.cell 3, R77bb.out.cell 4, R77bb.out.cell 5⟩
      clear hK K
      try simp only [qa, qb, qc]
      refine tkW 21 ?_
      refine tkW 22 ?_
      refine wpAnyH_done (by kernel_rfl) ?_ _
      have HL77 := Lib.hid (HL70.out.trans (HR77.out.mono HL70.out.size))
      go_wp2_with fail
      go_ret
      exact ⟨_, rfl, Lib.hid (by rw [data_app, data_app, HS3.out, HS4.out, HTX.out, List.append_assoc]), HL77⟩
    | true =>
     have HN1 := Lib.hid (show na = I by rw [HNA.out]; unfold need1; rw [ca, ← HI.out]; show (false || ((true && whl x.h && whl y.h) && decide (0 ≤ y.h.n))) = _; rw [Bool.true_and, Bool.false_or, Bool.and_assoc])
     rw [HN1.out] at c1 c2 HTX hpla
     have HN2 := Lib.hid (show nb = true by rw [HNB.out]; unfold need2; rw [ds, dp]; rfl)
     rw [HN2.out] at c2 HTX hplb
     have Hca := Lib.hid ca
     clear ca
     have Hds := Lib.hid ds
     clear ds
     have Hdp := Lib.hid dp
     clear dp
     have HR71 := Lib.hid (below_dr w70)
     have R71i0 := Lib.hid (F70i0.out.belowW HR71.out)
     have R71e0 := Lib.hid (F70e0.out.belowW HR71.out)
     have R71i1 := Lib.hid (F70i1.out.belowW HR71.out)
     have R71e1 := Lib.hid (F70e1.out.belowW HR71.out)
     have R71bx := Lib.hid (F70bx.out.belowW HR71.out)
     have R71ba := Lib.hid (F70ba.out.belowW HR71.out)
     have R71bb := Lib.hid (F70bb.out.belowW HR71.out)
     refine wp_region_held_drew (S := fun w' => w'.cell? ⟨w1.heap.size, 0, none⟩ = some (.int .i64 x.h.kind) ∧ w'.cell? ⟨w1.heap.size, 1, none⟩ = some (.int .i64 x.h.n) ∧ w'.cell? ⟨w1.heap.size, 2, none⟩ = some (.int .i64 x.h.d) ∧ w'.cell? ⟨w1.heap.size, 3, none⟩ = some (.string x.h.name) ∧ w'.cell? ⟨w1.heap.size, 4, none⟩ = some (.int .i64 x.h.k) ∧ w'.cell? ⟨w1.heap.size, 5, none⟩ = some (.slice x.A x.len x.cap) ∧ w'.cell? ⟨w3.heap.size, 0, none⟩ = some (.int .i64 y.h.kind) ∧ w'.cell? ⟨w3.heap.size, 1, none⟩ = some (.int .i64 y.h.n) ∧ w'.cell? ⟨w3.heap.size, 2, none⟩ = some (.int .i64 y.h.d) ∧ w'.cell? ⟨w3.heap.size, 3, none⟩ = some (.string y.h.name) ∧ w'.cell? ⟨w3.heap.size, 4, none⟩ = some (.int .i64 y.h.k) ∧ w'.cell? ⟨w3.heap.size, 5, none⟩ = some (.slice y.A y.len y.cap)) (by kernel_rfl) ?_ (fun hHeld => ?_)
     case refine_1 => exact ⟨R71ba.out.cell 0, R71ba.out.cell 1, R71ba.out.cell 2, R71ba.out.cell 3, R71ba.out.cell 4, R71ba.out.cell 5, R71bb.out.cell 0, R71bb.out.cell 1, R71bb.out.cell 2, R71bb.out.cell 3, R71bb.out.cell 4, R71bb.out.cell 5⟩
     refine tkW 0 ?_
     refine tkW 1 ?_
     refine tkW 7 ?_
     refine tkW 9 ?_
     refine tkW 10 ?_
     refine wpAnyH_ready (rs := [2]) (by kernel_rfl) (by simp) ?_
     refine AllReadyH.cons rfl (fun K hK => ?_) AllReadyH.nil
     go_simp
     (with_reducible refine (sum_r x _).mono ?_)
     rw [Hca.out]
     rintro e w72 ⟨rfl, HC72⟩
     have R72i0 := Lib.hid (R71i0.out.belowW HC72.out)
     have R72e0 := Lib.hid (R71e0.out.belowW HC72.out)
     have R72i1 := Lib.hid (R71i1.out.belowW HC72.out)
     have R72e1 := Lib.hid (R71e1.out.belowW HC72.out)
     have R72bx := Lib.hid (R71bx.out.belowW HC72.out)
     have R72ba := Lib.hid (R71ba.out.belowW HC72.out)
     have R72bb := Lib.hid (R71bb.out.belowW HC72.out)
     have HR72 := Lib.hid (HR71.out.trans (HC72.out.mono HR71.out.size))
     go_wp2_with fail
     clear hHeld
     refine hK.out _ _ ?_ (fun hHeld => ?_)
     case refine_1 => exact ⟨R72ba.out.cell 0, R72ba.out.cell 1, R72ba.out.cell 2, R72ba.out.cell 3, R72ba.out.cell 4, R72ba.out.cell 5, R72bb.out.cell 0, R72bb.out.cell 1, R72bb.out.cell 2, R72bb.out.cell 3, R72bb.out.cell 4, R72bb.out.cell 5⟩
     clear hK K
     try simp only [qa, qb, qc]
     refine tkW 3 ?_
     refine tkW 4 ?_
     refine tkW 5 ?_
     refine wpAnyH_ready (rs := [6]) (by kernel_rfl) (by simp) ?_
     refine AllReadyH.cons rfl (fun K hK => ?_) AllReadyH.nil
     go_simp
     (with_reducible refine (wrap_r S1 I _ la HT1.out hla9).mono ?_)
     rintro e w73 ⟨S3, rfl, HS3, HC73⟩
     have R73i0 := Lib.hid (R72i0.out.belowW HC73.out)
     have R73e0 := Lib.hid (R72e0.out.belowW HC73.out)
     have R73i1 := Lib.hid (R72i1.out.belowW HC73.out)
     have R73e1 := Lib.hid (R72e1.out.belowW HC73.out)
     have R73bx := Lib.hid (R72bx.out.belowW HC73.out)
     have R73ba := Lib.hid (R72ba.out.belowW HC73.out)
     have R73bb := Lib.hid (R72bb.out.belowW HC73.out)
     have HR73 := Lib.hid (HR72.out.trans (HC73.out.mono HR72.out.size))
     have hS3 : S3.size = (par I la).length := strp_size HS3.out
     go_wp2_with fail
     clear hHeld
     refine hK.out _ _ ?_ (fun hHeld => ?_)
     case refine_1 => exact ⟨R73ba.out.cell 0, R73ba.out.cell 1, R73ba.out.cell 2, R73ba.out.cell 3, R73ba.out.cell 4, R73ba.out.cell 5, R73bb.out.cell 0, R73bb.out.cell 1, R73bb.out.cell 2, R73bb.out.cell 3, R73bb.out.cell 4, R73bb.out.cell 5⟩
     clear hK K
     try simp only [qa, qb, qc]
     refine tkW 8 ?_
     refine wpAnyH_ready (rs := [11]) (by kernel_rfl) (by simp) ?_
     refine AllReadyH.cons rfl (fun K hK => ?_) AllReadyH.nil
     go_simp
     (with_reducible refine (sum_r y _).mono ?_)
     rw [Hds.out]
     rintro e w74 ⟨rfl, HC74⟩
     have R74i0 := Lib.hid (R73i0.out.belowW HC74.out)
     have R74e0 := Lib.hid (R73e0.out.belowW HC74.out)
     have R74i1 := Lib.hid (R73i1.out.belowW HC74.out)
     have R74e1 := Lib.hid (R73e1.out.belowW HC74.out)
     have R74bx := Lib.hid (R73bx.out.belowW HC74.out)
     have R74ba := Lib.hid (R73ba.out.belowW HC74.out)
     have R74bb := Lib.hid (R73bb.out.belowW HC74.out)
     have HR74 := Lib.hid (HR73.out.trans (HC74.out.mono HR73.out.size))
     go_wp2_with fail
     clear hHeld
     refine hK.out _ _ ?_ (fun hHeld => ?_)
     case refine_1 => exact ⟨R74ba.out.cell 0, R74ba.out.cell 1, R74ba.out.cell 2, R74ba.out.cell 3, R74ba.out.cell 4, R74ba.out.cell 5, R74bb.out.cell 0, R74bb.out.cell 1, R74bb.out.cell 2, R74bb.out.cell 3, R74bb.out.cell 4, R74bb.out.cell 5⟩
     clear hK K
     try simp only [qa, qb, qc]
     refine tkW 12 ?_
     refine tkW 13 ?_
     refine wpAnyH_ready (rs := [14]) (by kernel_rfl) (by simp) ?_
     refine AllReadyH.cons rfl (fun K hK => ?_) AllReadyH.nil
     go_simp
     (with_reducible refine (prod_r y _).mono ?_)
     rw [Hdp.out]
     rintro e w75 ⟨rfl, HC75⟩
     have R75i0 := Lib.hid (R74i0.out.belowW HC75.out)
     have R75e0 := Lib.hid (R74e0.out.belowW HC75.out)
     have R75i1 := Lib.hid (R74i1.out.belowW HC75.out)
     have R75e1 := Lib.hid (R74e1.out.belowW HC75.out)
     have R75bx := Lib.hid (R74bx.out.belowW HC75.out)
     have R75ba := Lib.hid (R74ba.out.belowW HC75.out)
     have R75bb := Lib.hid (R74bb.out.belowW HC75.out)
     have HR75 := Lib.hid (HR74.out.trans (HC75.out.mono HR74.out.size))
     go_wp2_with fail
     clear hHeld
     refine hK.out _ _ ?_ (fun hHeld => ?_)
     case refine_1 => exact ⟨R75ba.out.cell 0, R75ba.out.cell 1, R75ba.out.cell 2, R75ba.out.cell 3, R75ba.out.cell 4, R75ba.out.cell 5, R75bb.out.cell 0, R75bb.out.cell 1, R75bb.out.cell 2, R75bb.out.cell 3, R75bb.out.cell 4, R75bb.out.cell 5⟩
     clear hK K
     try simp only [qa, qb, qc]
     refine tkW 15 ?_
     refine tkW 16 ?_
     refine tkV 17 ?_
     refine tkV 18 ?_
     refine tkW 19 ?_
     refine wpAnyH_ready (rs := [20]) (by kernel_rfl) (by simp) ?_
     refine AllReadyH.cons rfl (fun K hK => ?_) AllReadyH.nil
     go_simp
     (with_reducible refine (wrap_r S2 true _ lb HT2.out hlb9).mono ?_)
     rintro e w76 ⟨S4, rfl, HS4, HC76⟩
     have R76i0 := Lib.hid (R75i0.out.belowW HC76.out)
     have R76e0 := Lib.hid (R75e0.out.belowW HC76.out)
     have R76i1 := Lib.hid (R75i1.out.belowW HC76.out)
     have R76e1 := Lib.hid (R75e1.out.belowW HC76.out)
     have R76bx := Lib.hid (R75bx.out.belowW HC76.out)
     have R76ba := Lib.hid (R75ba.out.belowW HC76.out)
     have R76bb := Lib.hid (R75bb.out.belowW HC76.out)
     have HR76 := Lib.hid (HR75.out.trans (HC76.out.mono HR75.out.size))
     have hS4 : S4.size = (par true lb).length := strp_size HS4.out
     go_wp2_with fail
     clear hHeld
     refine hK.out _ _ ?_ (fun hHeld => ?_)
     case refine_1 => exact ⟨R76ba.out.cell 0, R76ba.out.cell 1, R76ba.out.cell 2, R76ba.out.cell 3, R76ba.out.cell 4, R76ba.out.cell 5, R76bb.out.cell 0, R76bb.out.cell 1, R76bb.out.cell 2, R76bb.out.cell 3, R76bb.out.cell 4, R76bb.out.cell 5⟩
     clear hK K
     try simp only [qa, qb, qc]
     refine tkW 21 ?_
     refine tkW 22 ?_
     refine wpAnyH_done (by kernel_rfl) ?_ _
     have HL76 := Lib.hid (HL70.out.trans (HR76.out.mono HL70.out.size))
     go_wp2_with fail
     go_ret
     exact ⟨_, rfl, Lib.hid (by rw [data_app, data_app, HS3.out, HS4.out, HTX.out, List.append_assoc]), HL76⟩
   | true =>
    have HN1 := Lib.hid (show na = I by rw [HNA.out]; unfold need1; rw [ca, ← HI.out]; show (false || ((true && whl x.h && whl y.h) && decide (0 ≤ y.h.n))) = _; rw [Bool.true_and, Bool.false_or, Bool.and_assoc])
    rw [HN1.out] at c1 c2 HTX hpla
    have HN2 := Lib.hid (show nb = true by rw [HNB.out]; unfold need2; rw [ds]; rfl)
    rw [HN2.out] at c2 HTX hplb
    have Hca := Lib.hid ca
    clear ca
    have Hds := Lib.hid ds
    clear ds
    have HR71 := Lib.hid (below_dr w70)
    have R71i0 := Lib.hid (F70i0.out.belowW HR71.out)
    have R71e0 := Lib.hid (F70e0.out.belowW HR71.out)
    have R71i1 := Lib.hid (F70i1.out.belowW HR71.out)
    have R71e1 := Lib.hid (F70e1.out.belowW HR71.out)
    have R71bx := Lib.hid (F70bx.out.belowW HR71.out)
    have R71ba := Lib.hid (F70ba.out.belowW HR71.out)
    have R71bb := Lib.hid (F70bb.out.belowW HR71.out)
    refine wp_region_held_drew (S := fun w' => w'.cell? ⟨w1.heap.size, 0, none⟩ = some (.int .i64 x.h.kind) ∧ w'.cell? ⟨w1.heap.size, 1, none⟩ = some (.int .i64 x.h.n) ∧ w'.cell? ⟨w1.heap.size, 2, none⟩ = some (.int .i64 x.h.d) ∧ w'.cell? ⟨w1.heap.size, 3, none⟩ = some (.string x.h.name) ∧ w'.cell? ⟨w1.heap.size, 4, none⟩ = some (.int .i64 x.h.k) ∧ w'.cell? ⟨w1.heap.size, 5, none⟩ = some (.slice x.A x.len x.cap) ∧ w'.cell? ⟨w3.heap.size, 0, none⟩ = some (.int .i64 y.h.kind) ∧ w'.cell? ⟨w3.heap.size, 1, none⟩ = some (.int .i64 y.h.n) ∧ w'.cell? ⟨w3.heap.size, 2, none⟩ = some (.int .i64 y.h.d) ∧ w'.cell? ⟨w3.heap.size, 3, none⟩ = some (.string y.h.name) ∧ w'.cell? ⟨w3.heap.size, 4, none⟩ = some (.int .i64 y.h.k) ∧ w'.cell? ⟨w3.heap.size, 5, none⟩ = some (.slice y.A y.len y.cap)) (by kernel_rfl) ?_ (fun hHeld => ?_)
    case refine_1 => exact ⟨R71ba.out.cell 0, R71ba.out.cell 1, R71ba.out.cell 2, R71ba.out.cell 3, R71ba.out.cell 4, R71ba.out.cell 5, R71bb.out.cell 0, R71bb.out.cell 1, R71bb.out.cell 2, R71bb.out.cell 3, R71bb.out.cell 4, R71bb.out.cell 5⟩
    refine tkW 0 ?_
    refine tkW 1 ?_
    refine tkW 7 ?_
    refine tkW 9 ?_
    refine tkW 10 ?_
    refine wpAnyH_ready (rs := [2]) (by kernel_rfl) (by simp) ?_
    refine AllReadyH.cons rfl (fun K hK => ?_) AllReadyH.nil
    go_simp
    (with_reducible refine (sum_r x _).mono ?_)
    rw [Hca.out]
    rintro e w72 ⟨rfl, HC72⟩
    have R72i0 := Lib.hid (R71i0.out.belowW HC72.out)
    have R72e0 := Lib.hid (R71e0.out.belowW HC72.out)
    have R72i1 := Lib.hid (R71i1.out.belowW HC72.out)
    have R72e1 := Lib.hid (R71e1.out.belowW HC72.out)
    have R72bx := Lib.hid (R71bx.out.belowW HC72.out)
    have R72ba := Lib.hid (R71ba.out.belowW HC72.out)
    have R72bb := Lib.hid (R71bb.out.belowW HC72.out)
    have HR72 := Lib.hid (HR71.out.trans (HC72.out.mono HR71.out.size))
    go_wp2_with fail
    clear hHeld
    refine hK.out _ _ ?_ (fun hHeld => ?_)
    case refine_1 => exact ⟨R72ba.out.cell 0, R72ba.out.cell 1, R72ba.out.cell 2, R72ba.out.cell 3, R72ba.out.cell 4, R72ba.out.cell 5, R72bb.out.cell 0, R72bb.out.cell 1, R72bb.out.cell 2, R72bb.out.cell 3, R72bb.out.cell 4, R72bb.out.cell 5⟩
    clear hK K
    try simp only [qa, qb, qc]
    refine tkW 3 ?_
    refine tkW 4 ?_
    refine tkW 5 ?_
    refine wpAnyH_ready (rs := [6]) (by kernel_rfl) (by simp) ?_
    refine AllReadyH.cons rfl (fun K hK => ?_) AllReadyH.nil
    go_simp
    (with_reducible refine (wrap_r S1 I _ la HT1.out hla9).mono ?_)
    rintro e w73 ⟨S3, rfl, HS3, HC73⟩
    have R73i0 := Lib.hid (R72i0.out.belowW HC73.out)
    have R73e0 := Lib.hid (R72e0.out.belowW HC73.out)
    have R73i1 := Lib.hid (R72i1.out.belowW HC73.out)
    have R73e1 := Lib.hid (R72e1.out.belowW HC73.out)
    have R73bx := Lib.hid (R72bx.out.belowW HC73.out)
    have R73ba := Lib.hid (R72ba.out.belowW HC73.out)
    have R73bb := Lib.hid (R72bb.out.belowW HC73.out)
    have HR73 := Lib.hid (HR72.out.trans (HC73.out.mono HR72.out.size))
    have hS3 : S3.size = (par I la).length := strp_size HS3.out
    go_wp2_with fail
    clear hHeld
    refine hK.out _ _ ?_ (fun hHeld => ?_)
    case refine_1 => exact ⟨R73ba.out.cell 0, R73ba.out.cell 1, R73ba.out.cell 2, R73ba.out.cell 3, R73ba.out.cell 4, R73ba.out.cell 5, R73bb.out.cell 0, R73bb.out.cell 1, R73bb.out.cell 2, R73bb.out.cell 3, R73bb.out.cell 4, R73bb.out.cell 5⟩
    clear hK K
    try simp only [qa, qb, qc]
    refine tkW 8 ?_
    refine wpAnyH_ready (rs := [11]) (by kernel_rfl) (by simp) ?_
    refine AllReadyH.cons rfl (fun K hK => ?_) AllReadyH.nil
    go_simp
    (with_reducible refine (sum_r y _).mono ?_)
    rw [Hds.out]
    rintro e w74 ⟨rfl, HC74⟩
    have R74i0 := Lib.hid (R73i0.out.belowW HC74.out)
    have R74e0 := Lib.hid (R73e0.out.belowW HC74.out)
    have R74i1 := Lib.hid (R73i1.out.belowW HC74.out)
    have R74e1 := Lib.hid (R73e1.out.belowW HC74.out)
    have R74bx := Lib.hid (R73bx.out.belowW HC74.out)
    have R74ba := Lib.hid (R73ba.out.belowW HC74.out)
    have R74bb := Lib.hid (R73bb.out.belowW HC74.out)
    have HR74 := Lib.hid (HR73.out.trans (HC74.out.mono HR73.out.size))
    go_wp2_with fail
    clear hHeld
    refine hK.out _ _ ?_ (fun hHeld => ?_)
    case refine_1 => exact ⟨R74ba.out.cell 0, R74ba.out.cell 1, R74ba.out.cell 2, R74ba.out.cell 3, R74ba.out.cell 4, R74ba.out.cell 5, R74bb.out.cell 0, R74bb.out.cell 1, R74bb.out.cell 2, R74bb.out.cell 3, R74bb.out.cell 4, R74bb.out.cell 5⟩
    clear hK K
    try simp only [qa, qb, qc]
    refine tkW 12 ?_
    refine tkV 13 ?_
    refine tkV 14 ?_
    refine tkW 15 ?_
    refine tkW 16 ?_
    refine tkV 17 ?_
    refine tkV 18 ?_
    refine tkW 19 ?_
    refine wpAnyH_ready (rs := [20]) (by kernel_rfl) (by simp) ?_
    refine AllReadyH.cons rfl (fun K hK => ?_) AllReadyH.nil
    go_simp
    (with_reducible refine (wrap_r S2 true _ lb HT2.out hlb9).mono ?_)
    rintro e w75 ⟨S4, rfl, HS4, HC75⟩
    have R75i0 := Lib.hid (R74i0.out.belowW HC75.out)
    have R75e0 := Lib.hid (R74e0.out.belowW HC75.out)
    have R75i1 := Lib.hid (R74i1.out.belowW HC75.out)
    have R75e1 := Lib.hid (R74e1.out.belowW HC75.out)
    have R75bx := Lib.hid (R74bx.out.belowW HC75.out)
    have R75ba := Lib.hid (R74ba.out.belowW HC75.out)
    have R75bb := Lib.hid (R74bb.out.belowW HC75.out)
    have HR75 := Lib.hid (HR74.out.trans (HC75.out.mono HR74.out.size))
    have hS4 : S4.size = (par true lb).length := strp_size HS4.out
    go_wp2_with fail
    clear hHeld
    refine hK.out _ _ ?_ (fun hHeld => ?_)
    case refine_1 => exact ⟨R75ba.out.cell 0, R75ba.out.cell 1, R75ba.out.cell 2, R75ba.out.cell 3, R75ba.out.cell 4, R75ba.out.cell 5, R75bb.out.cell 0, R75bb.out.cell 1, R75bb.out.cell 2, R75bb.out.cell 3, R75bb.out.cell 4, R75bb.out.cell 5⟩
    clear hK K
    try simp only [qa, qb, qc]
    refine tkW 21 ?_
    refine tkW 22 ?_
    refine wpAnyH_done (by kernel_rfl) ?_ _
    have HL75 := Lib.hid (HL70.out.trans (HR75.out.mono HL70.out.size))
    go_wp2_with fail
    go_ret
    exact ⟨_, rfl, Lib.hid (by rw [data_app, data_app, HS3.out, HS4.out, HTX.out, List.append_assoc]), HL75⟩
  | true =>
   cases ds : sumK y.h.kind with
   | false =>
    cases dp : prodK y.h.kind with
    | false =>
     cases db : brok y.h with
     | false =>
      have HN1 := Lib.hid (show na = true by rw [HNA.out]; unfold need1; rw [ca]; rfl)
      rw [HN1.out] at c1 c2 HTX hpla
      have HN2 := Lib.hid (show nb = false by rw [HNB.out]; unfold need2; rw [ds, dp, db]; rfl)
      rw [HN2.out] at c2 HTX hplb
      have Hca := Lib.hid ca
      clear ca
      have Hds := Lib.hid ds
      clear ds
      have Hdp := Lib.hid dp
      clear dp
      have Hdb := Lib.hid db
      clear db
      have HR71 := Lib.hid (below_dr w70)
      have R71i0 := Lib.hid (F70i0.out.belowW HR71.out)
      have R71e0 := Lib.hid (F70e0.out.belowW HR71.out)
      have R71i1 := Lib.hid (F70i1.out.belowW HR71.out)
      have R71e1 := Lib.hid (F70e1.out.belowW HR71.out)
      have R71bx := Lib.hid (F70bx.out.belowW HR71.out)
      have R71ba := Lib.hid (F70ba.out.belowW HR71.out)
      have R71bb := Lib.hid (F70bb.out.belowW HR71.out)
      refine wp_region_held_drew (S := fun w' => w'.cell? ⟨w1.heap.size, 0, none⟩ = some (.int .i64 x.h.kind) ∧ w'.cell? ⟨w1.heap.size, 1, none⟩ = some (.int .i64 x.h.n) ∧ w'.cell? ⟨w1.heap.size, 2, none⟩ = some (.int .i64 x.h.d) ∧ w'.cell? ⟨w1.heap.size, 3, none⟩ = some (.string x.h.name) ∧ w'.cell? ⟨w1.heap.size, 4, none⟩ = some (.int .i64 x.h.k) ∧ w'.cell? ⟨w1.heap.size, 5, none⟩ = some (.slice x.A x.len x.cap) ∧ w'.cell? ⟨w3.heap.size, 0, none⟩ = some (.int .i64 y.h.kind) ∧ w'.cell? ⟨w3.heap.size, 1, none⟩ = some (.int .i64 y.h.n) ∧ w'.cell? ⟨w3.heap.size, 2, none⟩ = some (.int .i64 y.h.d) ∧ w'.cell? ⟨w3.heap.size, 3, none⟩ = some (.string y.h.name) ∧ w'.cell? ⟨w3.heap.size, 4, none⟩ = some (.int .i64 y.h.k) ∧ w'.cell? ⟨w3.heap.size, 5, none⟩ = some (.slice y.A y.len y.cap)) (by kernel_rfl) ?_ (fun hHeld => ?_)
      case refine_1 => exact ⟨R71ba.out.cell 0, R71ba.out.cell 1, R71ba.out.cell 2, R71ba.out.cell 3, R71ba.out.cell 4, R71ba.out.cell 5, R71bb.out.cell 0, R71bb.out.cell 1, R71bb.out.cell 2, R71bb.out.cell 3, R71bb.out.cell 4, R71bb.out.cell 5⟩
      refine tkW 0 ?_
      refine tkW 1 ?_
      refine tkW 7 ?_
      refine tkW 9 ?_
      refine tkW 10 ?_
      refine wpAnyH_ready (rs := [2]) (by kernel_rfl) (by simp) ?_
      refine AllReadyH.cons rfl (fun K hK => ?_) AllReadyH.nil
      go_simp
      (with_reducible refine (sum_r x _).mono ?_)
      rw [Hca.out]
      rintro e w72 ⟨rfl, HC72⟩
      have R72i0 := Lib.hid (R71i0.out.belowW HC72.out)
      have R72e0 := Lib.hid (R71e0.out.belowW HC72.out)
      have R72i1 := Lib.hid (R71i1.out.belowW HC72.out)
      have R72e1 := Lib.hid (R71e1.out.belowW HC72.out)
      have R72bx := Lib.hid (R71bx.out.belowW HC72.out)
      have R72ba := Lib.hid (R71ba.out.belowW HC72.out)
      have R72bb := Lib.hid (R71bb.out.belowW HC72.out)
      have HR72 := Lib.hid (HR71.out.trans (HC72.out.mono HR71.out.size))
      go_wp2_with fail
      clear hHeld
      refine hK.out _ _ ?_ (fun hHeld => ?_)
      case refine_1 => exact ⟨R72ba.out.cell 0, R72ba.out.cell 1, R72ba.out.cell 2, R72ba.out.cell 3, R72ba.out.cell 4, R72ba.out.cell 5, R72bb.out.cell 0, R72bb.out.cell 1, R72bb.out.cell 2, R72bb.out.cell 3, R72bb.out.cell 4, R72bb.out.cell 5⟩
      clear hK K
      try simp only [qa, qb, qc]
      refine tkW 3 ?_
      refine tkV 4 ?_
      refine tkW 5 ?_
      refine wpAnyH_ready (rs := [6]) (by kernel_rfl) (by simp) ?_
      refine AllReadyH.cons rfl (fun K hK => ?_) AllReadyH.nil
      go_simp
      (with_reducible refine (wrap_r S1 true _ la HT1.out hla9).mono ?_)
      rintro e w73 ⟨S3, rfl, HS3, HC73⟩
      have R73i0 := Lib.hid (R72i0.out.belowW HC73.out)
      have R73e0 := Lib.hid (R72e0.out.belowW HC73.out)
      have R73i1 := Lib.hid (R72i1.out.belowW HC73.out)
      have R73e1 := Lib.hid (R72e1.out.belowW HC73.out)
      have R73bx := Lib.hid (R72bx.out.belowW HC73.out)
      have R73ba := Lib.hid (R72ba.out.belowW HC73.out)
      have R73bb := Lib.hid (R72bb.out.belowW HC73.out)
      have HR73 := Lib.hid (HR72.out.trans (HC73.out.mono HR72.out.size))
      have hS3 : S3.size = (par true la).length := strp_size HS3.out
      go_wp2_with fail
      clear hHeld
      refine hK.out _ _ ?_ (fun hHeld => ?_)
      case refine_1 => exact ⟨R73ba.out.cell 0, R73ba.out.cell 1, R73ba.out.cell 2, R73ba.out.cell 3, R73ba.out.cell 4, R73ba.out.cell 5, R73bb.out.cell 0, R73bb.out.cell 1, R73bb.out.cell 2, R73bb.out.cell 3, R73bb.out.cell 4, R73bb.out.cell 5⟩
      clear hK K
      try simp only [qa, qb, qc]
      refine tkW 8 ?_
      refine wpAnyH_ready (rs := [11]) (by kernel_rfl) (by simp) ?_
      refine AllReadyH.cons rfl (fun K hK => ?_) AllReadyH.nil
      go_simp
      (with_reducible refine (sum_r y _).mono ?_)
      rw [Hds.out]
      rintro e w74 ⟨rfl, HC74⟩
      have R74i0 := Lib.hid (R73i0.out.belowW HC74.out)
      have R74e0 := Lib.hid (R73e0.out.belowW HC74.out)
      have R74i1 := Lib.hid (R73i1.out.belowW HC74.out)
      have R74e1 := Lib.hid (R73e1.out.belowW HC74.out)
      have R74bx := Lib.hid (R73bx.out.belowW HC74.out)
      have R74ba := Lib.hid (R73ba.out.belowW HC74.out)
      have R74bb := Lib.hid (R73bb.out.belowW HC74.out)
      have HR74 := Lib.hid (HR73.out.trans (HC74.out.mono HR73.out.size))
      go_wp2_with fail
      clear hHeld
      refine hK.out _ _ ?_ (fun hHeld => ?_)
      case refine_1 => exact ⟨R74ba.out.cell 0, R74ba.out.cell 1, R74ba.out.cell 2, R74ba.out.cell 3, R74ba.out.cell 4, R74ba.out.cell 5, R74bb.out.cell 0, R74bb.out.cell 1, R74bb.out.cell 2, R74bb.out.cell 3, R74bb.out.cell 4, R74bb.out.cell 5⟩
      clear hK K
      try simp only [qa, qb, qc]
      refine tkW 12 ?_
      refine tkW 13 ?_
      refine wpAnyH_ready (rs := [14]) (by kernel_rfl) (by simp) ?_
      refine AllReadyH.cons rfl (fun K hK => ?_) AllReadyH.nil
      go_simp
      (with_reducible refine (prod_r y _).mono ?_)
      rw [Hdp.out]
      rintro e w75 ⟨rfl, HC75⟩
      have R75i0 := Lib.hid (R74i0.out.belowW HC75.out)
      have R75e0 := Lib.hid (R74e0.out.belowW HC75.out)
      have R75i1 := Lib.hid (R74i1.out.belowW HC75.out)
      have R75e1 := Lib.hid (R74e1.out.belowW HC75.out)
      have R75bx := Lib.hid (R74bx.out.belowW HC75.out)
      have R75ba := Lib.hid (R74ba.out.belowW HC75.out)
      have R75bb := Lib.hid (R74bb.out.belowW HC75.out)
      have HR75 := Lib.hid (HR74.out.trans (HC75.out.mono HR74.out.size))
      go_wp2_with fail
      clear hHeld
      refine hK.out _ _ ?_ (fun hHeld => ?_)
      case refine_1 => exact ⟨R75ba.out.cell 0, R75ba.out.cell 1, R75ba.out.cell 2, R75ba.out.cell 3, R75ba.out.cell 4, R75ba.out.cell 5, R75bb.out.cell 0, R75bb.out.cell 1, R75bb.out.cell 2, R75bb.out.cell 3, R75bb.out.cell 4, R75bb.out.cell 5⟩
      clear hK K
      try simp only [qa, qb, qc]
      refine tkW 15 ?_
      refine tkW 16 ?_
      refine tkW 17 ?_
      refine wpAnyH_ready (rs := [18]) (by kernel_rfl) (by simp) ?_
      refine AllReadyH.cons rfl (fun K hK => ?_) AllReadyH.nil
      go_simp
      (with_reducible refine (brok_r y _).mono ?_)
      rw [Hdb.out]
      rintro e w76 ⟨rfl, HC76⟩
      have R76i0 := Lib.hid (R75i0.out.belowW HC76.out)
      have R76e0 := Lib.hid (R75e0.out.belowW HC76.out)
      have R76i1 := Lib.hid (R75i1.out.belowW HC76.out)
      have R76e1 := Lib.hid (R75e1.out.belowW HC76.out)
      have R76bx := Lib.hid (R75bx.out.belowW HC76.out)
      have R76ba := Lib.hid (R75ba.out.belowW HC76.out)
      have R76bb := Lib.hid (R75bb.out.belowW HC76.out)
      have HR76 := Lib.hid (HR75.out.trans (HC76.out.mono HR75.out.size))
      go_wp2_with fail
      clear hHeld
      refine hK.out _ _ ?_ (fun hHeld => ?_)
      case refine_1 => exact ⟨R76ba.out.cell 0, R76ba.out.cell 1, R76ba.out.cell 2, R76ba.out.cell 3, R76ba.out.cell 4, R76ba.out.cell 5, R76bb.out.cell 0, R76bb.out.cell 1, R76bb.out.cell 2, R76bb.out.cell 3, R76bb.out.cell 4, R76bb.out.cell 5⟩
      clear hK K
      try simp only [qa, qb, qc]
      refine tkW 19 ?_
      refine wpAnyH_ready (rs := [20]) (by kernel_rfl) (by simp) ?_
      refine AllReadyH.cons rfl (fun K hK => ?_) AllReadyH.nil
      go_simp
      (with_reducible refine (wrap_r S2 false _ lb HT2.out hlb9).mono ?_)
      rintro e w77 ⟨S4, rfl, HS4, HC77⟩
      have R77i0 := Lib.hid (R76i0.out.belowW HC77.out)
      have R77e0 := Lib.hid (R76e0.out.belowW HC77.out)
      have R77i1 := Lib.hid (R76i1.out.belowW HC77.out)
      have R77e1 := Lib.hid (R76e1.out.belowW HC77.out)
      have R77bx := Lib.hid (R76bx.out.belowW HC77.out)
      have R77ba := Lib.hid (R76ba.out.belowW HC77.out)
      have R77bb := Lib.hid (R76bb.out.belowW HC77.out)
      have HR77 := Lib.hid (HR76.out.trans (HC77.out.mono HR76.out.size))
      have hS4 : S4.size = (par false lb).length := strp_size HS4.out
      go_wp2_with fail
      clear hHeld
      refine hK.out _ _ ?_ (fun hHeld => ?_)
      case refine_1 => exact ⟨R77ba.out.cell 0, R77ba.out.cell 1, R77ba.out.cell 2, R77ba.out.cell 3, R77ba.out.cell 4, R77ba.out.cell 5, R77bb.out.cell 0, R77bb.out.cell 1, R77bb.out.cell 2, R77bb.out.cell 3, R77bb.out.cell 4, R77bb.out.cell 5⟩
      clear hK K
      try simp only [qa, qb, qc]
      refine tkW 21 ?_
      refine tkW 22 ?_
      refine wpAnyH_done (by kernel_rfl) ?_ _
      have HL77 := Lib.hid (HL70.out.trans (HR77.out.mono HL70.out.size))
      go_wp2_with fail
      go_ret
      exact ⟨_, rfl, Lib.hid (by rw [data_app, data_app, HS3.out, HS4.out, HTX.out, List.append_assoc]), HL77⟩
     | true =>
      have HN1 := Lib.hid (show na = true by rw [HNA.out]; unfold need1; rw [ca]; rfl)
      rw [HN1.out] at c1 c2 HTX hpla
      have HN2 := Lib.hid (show nb = true by rw [HNB.out]; unfold need2; rw [ds, dp, db]; rfl)
      rw [HN2.out] at c2 HTX hplb
      have Hca := Lib.hid ca
      clear ca
      have Hds := Lib.hid ds
      clear ds
      have Hdp := Lib.hid dp
      clear dp
      have Hdb := Lib.hid db
      clear db
      have HR71 := Lib.hid (below_dr w70)
      have R71i0 := Lib.hid (F70i0.out.belowW HR71.out)
      have R71e0 := Lib.hid (F70e0.out.belowW HR71.out)
      have R71i1 := Lib.hid (F70i1.out.belowW HR71.out)
      have R71e1 := Lib.hid (F70e1.out.belowW HR71.out)
      have R71bx := Lib.hid (F70bx.out.belowW HR71.out)
      have R71ba := Lib.hid (F70ba.out.belowW HR71.out)
      have R71bb := Lib.hid (F70bb.out.belowW HR71.out)
      refine wp_region_held_drew (S := fun w' => w'.cell? ⟨w1.heap.size, 0, none⟩ = some (.int .i64 x.h.kind) ∧ w'.cell? ⟨w1.heap.size, 1, none⟩ = some (.int .i64 x.h.n) ∧ w'.cell? ⟨w1.heap.size, 2, none⟩ = some (.int .i64 x.h.d) ∧ w'.cell? ⟨w1.heap.size, 3, none⟩ = some (.string x.h.name) ∧ w'.cell? ⟨w1.heap.size, 4, none⟩ = some (.int .i64 x.h.k) ∧ w'.cell? ⟨w1.heap.size, 5, none⟩ = some (.slice x.A x.len x.cap) ∧ w'.cell? ⟨w3.heap.size, 0, none⟩ = some (.int .i64 y.h.kind) ∧ w'.cell? ⟨w3.heap.size, 1, none⟩ = some (.int .i64 y.h.n) ∧ w'.cell? ⟨w3.heap.size, 2, none⟩ = some (.int .i64 y.h.d) ∧ w'.cell? ⟨w3.heap.size, 3, none⟩ = some (.string y.h.name) ∧ w'.cell? ⟨w3.heap.size, 4, none⟩ = some (.int .i64 y.h.k) ∧ w'.cell? ⟨w3.heap.size, 5, none⟩ = some (.slice y.A y.len y.cap)) (by kernel_rfl) ?_ (fun hHeld => ?_)
      case refine_1 => exact ⟨R71ba.out.cell 0, R71ba.out.cell 1, R71ba.out.cell 2, R71ba.out.cell 3, R71ba.out.cell 4, R71ba.out.cell 5, R71bb.out.cell 0, R71bb.out.cell 1, R71bb.out.cell 2, R71bb.out.cell 3, R71bb.out.cell 4, R71bb.out.cell 5⟩
      refine tkW 0 ?_
      refine tkW 1 ?_
      refine tkW 7 ?_
      refine tkW 9 ?_
      refine tkW 10 ?_
      refine wpAnyH_ready (rs := [2]) (by kernel_rfl) (by simp) ?_
      refine AllReadyH.cons rfl (fun K hK => ?_) AllReadyH.nil
      go_simp
      (with_reducible refine (sum_r x _).mono ?_)
      rw [Hca.out]
      rintro e w72 ⟨rfl, HC72⟩
      have R72i0 := Lib.hid (R71i0.out.belowW HC72.out)
      have R72e0 := Lib.hid (R71e0.out.belowW HC72.out)
      have R72i1 := Lib.hid (R71i1.out.belowW HC72.out)
      have R72e1 := Lib.hid (R71e1.out.belowW HC72.out)
      have R72bx := Lib.hid (R71bx.out.belowW HC72.out)
      have R72ba := Lib.hid (R71ba.out.belowW HC72.out)
      have R72bb := Lib.hid (R71bb.out.belowW HC72.out)
      have HR72 := Lib.hid (HR71.out.trans (HC72.out.mono HR71.out.size))
      go_wp2_with fail
      clear hHeld
      refine hK.out _ _ ?_ (fun hHeld => ?_)
      case refine_1 => exact ⟨R72ba.out.cell 0, R72ba.out.cell 1, R72ba.out.cell 2, R72ba.out.cell 3, R72ba.out.cell 4, R72ba.out.cell 5, R72bb.out.cell 0, R72bb.out.cell 1, R72bb.out.cell 2, R72bb.out.cell 3, R72bb.out.cell 4, R72bb.out.cell 5⟩
      clear hK K
      try simp only [qa, qb, qc]
      refine tkW 3 ?_
      refine tkV 4 ?_
      refine tkW 5 ?_
      refine wpAnyH_ready (rs := [6]) (by kernel_rfl) (by simp) ?_
      refine AllReadyH.cons rfl (fun K hK => ?_) AllReadyH.nil
      go_simp
      (with_reducible refine (wrap_r S1 true _ la HT1.out hla9).mono ?_)
      rintro e w73 ⟨S3, rfl, HS3, HC73⟩
      have R73i0 := Lib.hid (R72i0.out.belowW HC73.out)
      have R73e0 := Lib.hid (R72e0.out.belowW HC73.out)
      have R73i1 := Lib.hid (R72i1.out.belowW HC73.out)
      have R73e1 := Lib.hid (R72e1.out.belowW HC73.out)
      have R73bx := Lib.hid (R72bx.out.belowW HC73.out)
      have R73ba := Lib.hid (R72ba.out.belowW HC73.out)
      have R73bb := Lib.hid (R72bb.out.belowW HC73.out)
      have HR73 := Lib.hid (HR72.out.trans (HC73.out.mono HR72.out.size))
      have hS3 : S3.size = (par true la).length := strp_size HS3.out
      go_wp2_with fail
      clear hHeld
      refine hK.out _ _ ?_ (fun hHeld => ?_)
      case refine_1 => exact ⟨R73ba.out.cell 0, R73ba.out.cell 1, R73ba.out.cell 2, R73ba.out.cell 3, R73ba.out.cell 4, R73ba.out.cell 5, R73bb.out.cell 0, R73bb.out.cell 1, R73bb.out.cell 2, R73bb.out.cell 3, R73bb.out.cell 4, R73bb.out.cell 5⟩
      clear hK K
      try simp only [qa, qb, qc]
      refine tkW 8 ?_
      refine wpAnyH_ready (rs := [11]) (by kernel_rfl) (by simp) ?_
      refine AllReadyH.cons rfl (fun K hK => ?_) AllReadyH.nil
      go_simp
      (with_reducible refine (sum_r y _).mono ?_)
      rw [Hds.out]
      rintro e w74 ⟨rfl, HC74⟩
      have R74i0 := Lib.hid (R73i0.out.belowW HC74.out)
      have R74e0 := Lib.hid (R73e0.out.belowW HC74.out)
      have R74i1 := Lib.hid (R73i1.out.belowW HC74.out)
      have R74e1 := Lib.hid (R73e1.out.belowW HC74.out)
      have R74bx := Lib.hid (R73bx.out.belowW HC74.out)
      have R74ba := Lib.hid (R73ba.out.belowW HC74.out)
      have R74bb := Lib.hid (R73bb.out.belowW HC74.out)
      have HR74 := Lib.hid (HR73.out.trans (HC74.out.mono HR73.out.size))
      go_wp2_with fail
      clear hHeld
      refine hK.out _ _ ?_ (fun hHeld => ?_)
      case refine_1 => exact ⟨R74ba.out.cell 0, R74ba.out.cell 1, R74ba.out.cell 2, R74ba.out.cell 3, R74ba.out.cell 4, R74ba.out.cell 5, R74bb.out.cell 0, R74bb.out.cell 1, R74bb.out.cell 2, R74bb.out.cell 3, R74bb.out.cell 4, R74bb.out.cell 5⟩
      clear hK K
      try simp only [qa, qb, qc]
      refine tkW 12 ?_
      refine tkW 13 ?_
      refine wpAnyH_ready (rs := [14]) (by kernel_rfl) (by simp) ?_
      refine AllReadyH.cons rfl (fun K hK => ?_) AllReadyH.nil
      go_simp
      (with_reducible refine (prod_r y _).mono ?_)
      rw [Hdp.out]
      rintro e w75 ⟨rfl, HC75⟩
      have R75i0 := Lib.hid (R74i0.out.belowW HC75.out)
      have R75e0 := Lib.hid (R74e0.out.belowW HC75.out)
      have R75i1 := Lib.hid (R74i1.out.belowW HC75.out)
      have R75e1 := Lib.hid (R74e1.out.belowW HC75.out)
      have R75bx := Lib.hid (R74bx.out.belowW HC75.out)
      have R75ba := Lib.hid (R74ba.out.belowW HC75.out)
      have R75bb := Lib.hid (R74bb.out.belowW HC75.out)
      have HR75 := Lib.hid (HR74.out.trans (HC75.out.mono HR74.out.size))
      go_wp2_with fail
      clear hHeld
      refine hK.out _ _ ?_ (fun hHeld => ?_)
      case refine_1 => exact ⟨R75ba.out.cell 0, R75ba.out.cell 1, R75ba.out.cell 2, R75ba.out.cell 3, R75ba.out.cell 4, R75ba.out.cell 5, R75bb.out.cell 0, R75bb.out.cell 1, R75bb.out.cell 2, R75bb.out.cell 3, R75bb.out.cell 4, R75bb.out.cell 5⟩
      clear hK K
      try simp only [qa, qb, qc]
      refine tkW 15 ?_
      refine tkW 16 ?_
      refine tkW 17 ?_
      refine wpAnyH_ready (rs := [18]) (by kernel_rfl) (by simp) ?_
      refine AllReadyH.cons rfl (fun K hK => ?_) AllReadyH.nil
      go_simp
      (with_reducible refine (brok_r y _).mono ?_)
      rw [Hdb.out]
      rintro e w76 ⟨rfl, HC76⟩
      have R76i0 := Lib.hid (R75i0.out.belowW HC76.out)
      have R76e0 := Lib.hid (R75e0.out.belowW HC76.out)
      have R76i1 := Lib.hid (R75i1.out.belowW HC76.out)
      have R76e1 := Lib.hid (R75e1.out.belowW HC76.out)
      have R76bx := Lib.hid (R75bx.out.belowW HC76.out)
      have R76ba := Lib.hid (R75ba.out.belowW HC76.out)
      have R76bb := Lib.hid (R75bb.out.belowW HC76.out)
      have HR76 := Lib.hid (HR75.out.trans (HC76.out.mono HR75.out.size))
      go_wp2_with fail
      clear hHeld
      refine hK.out _ _ ?_ (fun hHeld => ?_)
      case refine_1 => exact ⟨R76ba.out.cell 0, R76ba.out.cell 1, R76ba.out.cell 2, R76ba.out.cell 3, R76ba.out.cell 4, R76ba.out.cell 5, R76bb.out.cell 0, R76bb.out.cell 1, R76bb.out.cell 2, R76bb.out.cell 3, R76bb.out.cell 4, R76bb.out.cell 5⟩
      clear hK K
      try simp only [qa, qb, qc]
      refine tkW 19 ?_
      refine wpAnyH_ready (rs := [20]) (by kernel_rfl) (by simp) ?_
      refine AllReadyH.cons rfl (fun K hK => ?_) AllReadyH.nil
      go_simp
      (with_reducible refine (wrap_r S2 true _ lb HT2.out hlb9).mono ?_)
      rintro e w77 ⟨S4, rfl, HS4, HC77⟩
      have R77i0 := Lib.hid (R76i0.out.belowW HC77.out)
      have R77e0 := Lib.hid (R76e0.out.belowW HC77.out)
      have R77i1 := Lib.hid (R76i1.out.belowW HC77.out)
      have R77e1 := Lib.hid (R76e1.out.belowW HC77.out)
      have R77bx := Lib.hid (R76bx.out.belowW HC77.out)
      have R77ba := Lib.hid (R76ba.out.belowW HC77.out)
      have R77bb := Lib.hid (R76bb.out.belowW HC77.out)
      have HR77 := Lib.hid (HR76.out.trans (HC77.out.mono HR76.out.size))
      have hS4 : S4.size = (par true lb).length := strp_size HS4.out
      go_wp2_with fail
      clear hHeld
      refine hK.out _ _ ?_ (fun hHeld => ?_)
      case refine_1 => exact ⟨R77ba.out.cell 0, R77ba.out.cell 1, R77ba.out.cell 2, R77ba.out.cell 3, R77ba.out.cell 4, R77ba.out.cell 5, R77bb.out.cell 0, R77bb.out.cell 1, R77bb.out.cell 2, R77bb.out.cell 3, R77bb.out.cell 4, R77bb.out.cell 5⟩
      clear hK K
      try simp only [qa, qb, qc]
      refine tkW 21 ?_
      refine tkW 22 ?_
      refine wpAnyH_done (by kernel_rfl) ?_ _
      have HL77 := Lib.hid (HL70.out.trans (HR77.out.mono HL70.out.size))
      go_wp2_with fail
      go_ret
      exact ⟨_, rfl, Lib.hid (by rw [data_app, data_app, HS3.out, HS4.out, HTX.out, List.append_assoc]), HL77⟩
    | true =>
     have HN1 := Lib.hid (show na = true by rw [HNA.out]; unfold need1; rw [ca]; rfl)
     rw [HN1.out] at c1 c2 HTX hpla
     have HN2 := Lib.hid (show nb = true by rw [HNB.out]; unfold need2; rw [ds, dp]; rfl)
     rw [HN2.out] at c2 HTX hplb
     have Hca := Lib.hid ca
     clear ca
     have Hds := Lib.hid ds
     clear ds
     have Hdp := Lib.hid dp
     clear dp
     have HR71 := Lib.hid (below_dr w70)
     have R71i0 := Lib.hid (F70i0.out.belowW HR71.out)
     have R71e0 := Lib.hid (F70e0.out.belowW HR71.out)
     have R71i1 := Lib.hid (F70i1.out.belowW HR71.out)
     have R71e1 := Lib.hid (F70e1.out.belowW HR71.out)
     have R71bx := Lib.hid (F70bx.out.belowW HR71.out)
     have R71ba := Lib.hid (F70ba.out.belowW HR71.out)
     have R71bb := Lib.hid (F70bb.out.belowW HR71.out)
     refine wp_region_held_drew (S := fun w' => w'.cell? ⟨w1.heap.size, 0, none⟩ = some (.int .i64 x.h.kind) ∧ w'.cell? ⟨w1.heap.size, 1, none⟩ = some (.int .i64 x.h.n) ∧ w'.cell? ⟨w1.heap.size, 2, none⟩ = some (.int .i64 x.h.d) ∧ w'.cell? ⟨w1.heap.size, 3, none⟩ = some (.string x.h.name) ∧ w'.cell? ⟨w1.heap.size, 4, none⟩ = some (.int .i64 x.h.k) ∧ w'.cell? ⟨w1.heap.size, 5, none⟩ = some (.slice x.A x.len x.cap) ∧ w'.cell? ⟨w3.heap.size, 0, none⟩ = some (.int .i64 y.h.kind) ∧ w'.cell? ⟨w3.heap.size, 1, none⟩ = some (.int .i64 y.h.n) ∧ w'.cell? ⟨w3.heap.size, 2, none⟩ = some (.int .i64 y.h.d) ∧ w'.cell? ⟨w3.heap.size, 3, none⟩ = some (.string y.h.name) ∧ w'.cell? ⟨w3.heap.size, 4, none⟩ = some (.int .i64 y.h.k) ∧ w'.cell? ⟨w3.heap.size, 5, none⟩ = some (.slice y.A y.len y.cap)) (by kernel_rfl) ?_ (fun hHeld => ?_)
     case refine_1 => exact ⟨R71ba.out.cell 0, R71ba.out.cell 1, R71ba.out.cell 2, R71ba.out.cell 3, R71ba.out.cell 4, R71ba.out.cell 5, R71bb.out.cell 0, R71bb.out.cell 1, R71bb.out.cell 2, R71bb.out.cell 3, R71bb.out.cell 4, R71bb.out.cell 5⟩
     refine tkW 0 ?_
     refine tkW 1 ?_
     refine tkW 7 ?_
     refine tkW 9 ?_
     refine tkW 10 ?_
     refine wpAnyH_ready (rs := [2]) (by kernel_rfl) (by simp) ?_
     refine AllReadyH.cons rfl (fun K hK => ?_) AllReadyH.nil
     go_simp
     (with_reducible refine (sum_r x _).mono ?_)
     rw [Hca.out]
     rintro e w72 ⟨rfl, HC72⟩
     have R72i0 := Lib.hid (R71i0.out.belowW HC72.out)
     have R72e0 := Lib.hid (R71e0.out.belowW HC72.out)
     have R72i1 := Lib.hid (R71i1.out.belowW HC72.out)
     have R72e1 := Lib.hid (R71e1.out.belowW HC72.out)
     have R72bx := Lib.hid (R71bx.out.belowW HC72.out)
     have R72ba := Lib.hid (R71ba.out.belowW HC72.out)
     have R72bb := Lib.hid (R71bb.out.belowW HC72.out)
     have HR72 := Lib.hid (HR71.out.trans (HC72.out.mono HR71.out.size))
     go_wp2_with fail
     clear hHeld
     refine hK.out _ _ ?_ (fun hHeld => ?_)
     case refine_1 => exact ⟨R72ba.out.cell 0, R72ba.out.cell 1, R72ba.out.cell 2, R72ba.out.cell 3, R72ba.out.cell 4, R72ba.out.cell 5, R72bb.out.cell 0, R72bb.out.cell 1, R72bb.out.cell 2, R72bb.out.cell 3, R72bb.out.cell 4, R72bb.out.cell 5⟩
     clear hK K
     try simp only [qa, qb, qc]
     refine tkW 3 ?_
     refine tkV 4 ?_
     refine tkW 5 ?_
     refine wpAnyH_ready (rs := [6]) (by kernel_rfl) (by simp) ?_
     refine AllReadyH.cons rfl (fun K hK => ?_) AllReadyH.nil
     go_simp
     (with_reducible refine (wrap_r S1 true _ la HT1.out hla9).mono ?_)
     rintro e w73 ⟨S3, rfl, HS3, HC73⟩
     have R73i0 := Lib.hid (R72i0.out.belowW HC73.out)
     have R73e0 := Lib.hid (R72e0.out.belowW HC73.out)
     have R73i1 := Lib.hid (R72i1.out.belowW HC73.out)
     have R73e1 := Lib.hid (R72e1.out.belowW HC73.out)
     have R73bx := Lib.hid (R72bx.out.belowW HC73.out)
     have R73ba := Lib.hid (R72ba.out.belowW HC73.out)
     have R73bb := Lib.hid (R72bb.out.belowW HC73.out)
     have HR73 := Lib.hid (HR72.out.trans (HC73.out.mono HR72.out.size))
     have hS3 : S3.size = (par true la).length := strp_size HS3.out
     go_wp2_with fail
     clear hHeld
     refine hK.out _ _ ?_ (fun hHeld => ?_)
     case refine_1 => exact ⟨R73ba.out.cell 0, R73ba.out.cell 1, R73ba.out.cell 2, R73ba.out.cell 3, R73ba.out.cell 4, R73ba.out.cell 5, R73bb.out.cell 0, R73bb.out.cell 1, R73bb.out.cell 2, R73bb.out.cell 3, R73bb.out.cell 4, R73bb.out.cell 5⟩
     clear hK K
     try simp only [qa, qb, qc]
     refine tkW 8 ?_
     refine wpAnyH_ready (rs := [11]) (by kernel_rfl) (by simp) ?_
     refine AllReadyH.cons rfl (fun K hK => ?_) AllReadyH.nil
     go_simp
     (with_reducible refine (sum_r y _).mono ?_)
     rw [Hds.out]
     rintro e w74 ⟨rfl, HC74⟩
     have R74i0 := Lib.hid (R73i0.out.belowW HC74.out)
     have R74e0 := Lib.hid (R73e0.out.belowW HC74.out)
     have R74i1 := Lib.hid (R73i1.out.belowW HC74.out)
     have R74e1 := Lib.hid (R73e1.out.belowW HC74.out)
     have R74bx := Lib.hid (R73bx.out.belowW HC74.out)
     have R74ba := Lib.hid (R73ba.out.belowW HC74.out)
     have R74bb := Lib.hid (R73bb.out.belowW HC74.out)
     have HR74 := Lib.hid (HR73.out.trans (HC74.out.mono HR73.out.size))
     go_wp2_with fail
     clear hHeld
     refine hK.out _ _ ?_ (fun hHeld => ?_)
     case refine_1 => exact ⟨R74ba.out.cell 0, R74ba.out.cell 1, R74ba.out.cell 2, R74ba.out.cell 3, R74ba.out.cell 4, R74ba.out.cell 5, R74bb.out.cell 0, R74bb.out.cell 1, R74bb.out.cell 2, R74bb.out.cell 3, R74bb.out.cell 4, R74bb.out.cell 5⟩
     clear hK K
     try simp only [qa, qb, qc]
     refine tkW 12 ?_
     refine tkW 13 ?_
     refine wpAnyH_ready (rs := [14]) (by kernel_rfl) (by simp) ?_
     refine AllReadyH.cons rfl (fun K hK => ?_) AllReadyH.nil
     go_simp
     (with_reducible refine (prod_r y _).mono ?_)
     rw [Hdp.out]
     rintro e w75 ⟨rfl, HC75⟩
     have R75i0 := Lib.hid (R74i0.out.belowW HC75.out)
     have R75e0 := Lib.hid (R74e0.out.belowW HC75.out)
     have R75i1 := Lib.hid (R74i1.out.belowW HC75.out)
     have R75e1 := Lib.hid (R74e1.out.belowW HC75.out)
     have R75bx := Lib.hid (R74bx.out.belowW HC75.out)
     have R75ba := Lib.hid (R74ba.out.belowW HC75.out)
     have R75bb := Lib.hid (R74bb.out.belowW HC75.out)
     have HR75 := Lib.hid (HR74.out.trans (HC75.out.mono HR74.out.size))
     go_wp2_with fail
     clear hHeld
     refine hK.out _ _ ?_ (fun hHeld => ?_)
     case refine_1 => exact ⟨R75ba.out.cell 0, R75ba.out.cell 1, R75ba.out.cell 2, R75ba.out.cell 3, R75ba.out.cell 4, R75ba.out.cell 5, R75bb.out.cell 0, R75bb.out.cell 1, R75bb.out.cell 2, R75bb.out.cell 3, R75bb.out.cell 4, R75bb.out.cell 5⟩
     clear hK K
     try simp only [qa, qb, qc]
     refine tkW 15 ?_
     refine tkW 16 ?_
     refine tkV 17 ?_
     refine tkV 18 ?_
     refine tkW 19 ?_
     refine wpAnyH_ready (rs := [20]) (by kernel_rfl) (by simp) ?_
     refine AllReadyH.cons rfl (fun K hK => ?_) AllReadyH.nil
     go_simp
     (with_reducible refine (wrap_r S2 true _ lb HT2.out hlb9).mono ?_)
     rintro e w76 ⟨S4, rfl, HS4, HC76⟩
     have R76i0 := Lib.hid (R75i0.out.belowW HC76.out)
     have R76e0 := Lib.hid (R75e0.out.belowW HC76.out)
     have R76i1 := Lib.hid (R75i1.out.belowW HC76.out)
     have R76e1 := Lib.hid (R75e1.out.belowW HC76.out)
     have R76bx := Lib.hid (R75bx.out.belowW HC76.out)
     have R76ba := Lib.hid (R75ba.out.belowW HC76.out)
     have R76bb := Lib.hid (R75bb.out.belowW HC76.out)
     have HR76 := Lib.hid (HR75.out.trans (HC76.out.mono HR75.out.size))
     have hS4 : S4.size = (par true lb).length := strp_size HS4.out
     go_wp2_with fail
     clear hHeld
     refine hK.out _ _ ?_ (fun hHeld => ?_)
     case refine_1 => exact ⟨R76ba.out.cell 0, R76ba.out.cell 1, R76ba.out.cell 2, R76ba.out.cell 3, R76ba.out.cell 4, R76ba.out.cell 5, R76bb.out.cell 0, R76bb.out.cell 1, R76bb.out.cell 2, R76bb.out.cell 3, R76bb.out.cell 4, R76bb.out.cell 5⟩
     clear hK K
     try simp only [qa, qb, qc]
     refine tkW 21 ?_
     refine tkW 22 ?_
     refine wpAnyH_done (by kernel_rfl) ?_ _
     have HL76 := Lib.hid (HL70.out.trans (HR76.out.mono HL70.out.size))
     go_wp2_with fail
     go_ret
     exact ⟨_, rfl, Lib.hid (by rw [data_app, data_app, HS3.out, HS4.out, HTX.out, List.append_assoc]), HL76⟩
   | true =>
    have HN1 := Lib.hid (show na = true by rw [HNA.out]; unfold need1; rw [ca]; rfl)
    rw [HN1.out] at c1 c2 HTX hpla
    have HN2 := Lib.hid (show nb = true by rw [HNB.out]; unfold need2; rw [ds]; rfl)
    rw [HN2.out] at c2 HTX hplb
    have Hca := Lib.hid ca
    clear ca
    have Hds := Lib.hid ds
    clear ds
    have HR71 := Lib.hid (below_dr w70)
    have R71i0 := Lib.hid (F70i0.out.belowW HR71.out)
    have R71e0 := Lib.hid (F70e0.out.belowW HR71.out)
    have R71i1 := Lib.hid (F70i1.out.belowW HR71.out)
    have R71e1 := Lib.hid (F70e1.out.belowW HR71.out)
    have R71bx := Lib.hid (F70bx.out.belowW HR71.out)
    have R71ba := Lib.hid (F70ba.out.belowW HR71.out)
    have R71bb := Lib.hid (F70bb.out.belowW HR71.out)
    refine wp_region_held_drew (S := fun w' => w'.cell? ⟨w1.heap.size, 0, none⟩ = some (.int .i64 x.h.kind) ∧ w'.cell? ⟨w1.heap.size, 1, none⟩ = some (.int .i64 x.h.n) ∧ w'.cell? ⟨w1.heap.size, 2, none⟩ = some (.int .i64 x.h.d) ∧ w'.cell? ⟨w1.heap.size, 3, none⟩ = some (.string x.h.name) ∧ w'.cell? ⟨w1.heap.size, 4, none⟩ = some (.int .i64 x.h.k) ∧ w'.cell? ⟨w1.heap.size, 5, none⟩ = some (.slice x.A x.len x.cap) ∧ w'.cell? ⟨w3.heap.size, 0, none⟩ = some (.int .i64 y.h.kind) ∧ w'.cell? ⟨w3.heap.size, 1, none⟩ = some (.int .i64 y.h.n) ∧ w'.cell? ⟨w3.heap.size, 2, none⟩ = some (.int .i64 y.h.d) ∧ w'.cell? ⟨w3.heap.size, 3, none⟩ = some (.string y.h.name) ∧ w'.cell? ⟨w3.heap.size, 4, none⟩ = some (.int .i64 y.h.k) ∧ w'.cell? ⟨w3.heap.size, 5, none⟩ = some (.slice y.A y.len y.cap)) (by kernel_rfl) ?_ (fun hHeld => ?_)
    case refine_1 => exact ⟨R71ba.out.cell 0, R71ba.out.cell 1, R71ba.out.cell 2, R71ba.out.cell 3, R71ba.out.cell 4, R71ba.out.cell 5, R71bb.out.cell 0, R71bb.out.cell 1, R71bb.out.cell 2, R71bb.out.cell 3, R71bb.out.cell 4, R71bb.out.cell 5⟩
    refine tkW 0 ?_
    refine tkW 1 ?_
    refine tkW 7 ?_
    refine tkW 9 ?_
    refine tkW 10 ?_
    refine wpAnyH_ready (rs := [2]) (by kernel_rfl) (by simp) ?_
    refine AllReadyH.cons rfl (fun K hK => ?_) AllReadyH.nil
    go_simp
    (with_reducible refine (sum_r x _).mono ?_)
    rw [Hca.out]
    rintro e w72 ⟨rfl, HC72⟩
    have R72i0 := Lib.hid (R71i0.out.belowW HC72.out)
    have R72e0 := Lib.hid (R71e0.out.belowW HC72.out)
    have R72i1 := Lib.hid (R71i1.out.belowW HC72.out)
    have R72e1 := Lib.hid (R71e1.out.belowW HC72.out)
    have R72bx := Lib.hid (R71bx.out.belowW HC72.out)
    have R72ba := Lib.hid (R71ba.out.belowW HC72.out)
    have R72bb := Lib.hid (R71bb.out.belowW HC72.out)
    have HR72 := Lib.hid (HR71.out.trans (HC72.out.mono HR71.out.size))
    go_wp2_with fail
    clear hHeld
    refine hK.out _ _ ?_ (fun hHeld => ?_)
    case refine_1 => exact ⟨R72ba.out.cell 0, R72ba.out.cell 1, R72ba.out.cell 2, R72ba.out.cell 3, R72ba.out.cell 4, R72ba.out.cell 5, R72bb.out.cell 0, R72bb.out.cell 1, R72bb.out.cell 2, R72bb.out.cell 3, R72bb.out.cell 4, R72bb.out.cell 5⟩
    clear hK K
    try simp only [qa, qb, qc]
    refine tkW 3 ?_
    refine tkV 4 ?_
    refine tkW 5 ?_
    refine wpAnyH_ready (rs := [6]) (by kernel_rfl) (by simp) ?_
    refine AllReadyH.cons rfl (fun K hK => ?_) AllReadyH.nil
    go_simp
    (with_reducible refine (wrap_r S1 true _ la HT1.out hla9).mono ?_)
    rintro e w73 ⟨S3, rfl, HS3, HC73⟩
    have R73i0 := Lib.hid (R72i0.out.belowW HC73.out)
    have R73e0 := Lib.hid (R72e0.out.belowW HC73.out)
    have R73i1 := Lib.hid (R72i1.out.belowW HC73.out)
    have R73e1 := Lib.hid (R72e1.out.belowW HC73.out)
    have R73bx := Lib.hid (R72bx.out.belowW HC73.out)
    have R73ba := Lib.hid (R72ba.out.belowW HC73.out)
    have R73bb := Lib.hid (R72bb.out.belowW HC73.out)
    have HR73 := Lib.hid (HR72.out.trans (HC73.out.mono HR72.out.size))
    have hS3 : S3.size = (par true la).length := strp_size HS3.out
    go_wp2_with fail
    clear hHeld
    refine hK.out _ _ ?_ (fun hHeld => ?_)
    case refine_1 => exact ⟨R73ba.out.cell 0, R73ba.out.cell 1, R73ba.out.cell 2, R73ba.out.cell 3, R73ba.out.cell 4, R73ba.out.cell 5, R73bb.out.cell 0, R73bb.out.cell 1, R73bb.out.cell 2, R73bb.out.cell 3, R73bb.out.cell 4, R73bb.out.cell 5⟩
    clear hK K
    try simp only [qa, qb, qc]
    refine tkW 8 ?_
    refine wpAnyH_ready (rs := [11]) (by kernel_rfl) (by simp) ?_
    refine AllReadyH.cons rfl (fun K hK => ?_) AllReadyH.nil
    go_simp
    (with_reducible refine (sum_r y _).mono ?_)
    rw [Hds.out]
    rintro e w74 ⟨rfl, HC74⟩
    have R74i0 := Lib.hid (R73i0.out.belowW HC74.out)
    have R74e0 := Lib.hid (R73e0.out.belowW HC74.out)
    have R74i1 := Lib.hid (R73i1.out.belowW HC74.out)
    have R74e1 := Lib.hid (R73e1.out.belowW HC74.out)
    have R74bx := Lib.hid (R73bx.out.belowW HC74.out)
    have R74ba := Lib.hid (R73ba.out.belowW HC74.out)
    have R74bb := Lib.hid (R73bb.out.belowW HC74.out)
    have HR74 := Lib.hid (HR73.out.trans (HC74.out.mono HR73.out.size))
    go_wp2_with fail
    clear hHeld
    refine hK.out _ _ ?_ (fun hHeld => ?_)
    case refine_1 => exact ⟨R74ba.out.cell 0, R74ba.out.cell 1, R74ba.out.cell 2, R74ba.out.cell 3, R74ba.out.cell 4, R74ba.out.cell 5, R74bb.out.cell 0, R74bb.out.cell 1, R74bb.out.cell 2, R74bb.out.cell 3, R74bb.out.cell 4, R74bb.out.cell 5⟩
    clear hK K
    try simp only [qa, qb, qc]
    refine tkW 12 ?_
    refine tkV 13 ?_
    refine tkV 14 ?_
    refine tkW 15 ?_
    refine tkW 16 ?_
    refine tkV 17 ?_
    refine tkV 18 ?_
    refine tkW 19 ?_
    refine wpAnyH_ready (rs := [20]) (by kernel_rfl) (by simp) ?_
    refine AllReadyH.cons rfl (fun K hK => ?_) AllReadyH.nil
    go_simp
    (with_reducible refine (wrap_r S2 true _ lb HT2.out hlb9).mono ?_)
    rintro e w75 ⟨S4, rfl, HS4, HC75⟩
    have R75i0 := Lib.hid (R74i0.out.belowW HC75.out)
    have R75e0 := Lib.hid (R74e0.out.belowW HC75.out)
    have R75i1 := Lib.hid (R74i1.out.belowW HC75.out)
    have R75e1 := Lib.hid (R74e1.out.belowW HC75.out)
    have R75bx := Lib.hid (R74bx.out.belowW HC75.out)
    have R75ba := Lib.hid (R74ba.out.belowW HC75.out)
    have R75bb := Lib.hid (R74bb.out.belowW HC75.out)
    have HR75 := Lib.hid (HR74.out.trans (HC75.out.mono HR74.out.size))
    have hS4 : S4.size = (par true lb).length := strp_size HS4.out
    go_wp2_with fail
    clear hHeld
    refine hK.out _ _ ?_ (fun hHeld => ?_)
    case refine_1 => exact ⟨R75ba.out.cell 0, R75ba.out.cell 1, R75ba.out.cell 2, R75ba.out.cell 3, R75ba.out.cell 4, R75ba.out.cell 5, R75bb.out.cell 0, R75bb.out.cell 1, R75bb.out.cell 2, R75bb.out.cell 3, R75bb.out.cell 4, R75bb.out.cell 5⟩
    clear hK K
    try simp only [qa, qb, qc]
    refine tkW 21 ?_
    refine tkW 22 ?_
    refine wpAnyH_done (by kernel_rfl) ?_ _
    have HL75 := Lib.hid (HL70.out.trans (HR75.out.mono HL70.out.size))
    go_wp2_with fail
    go_ret
    exact ⟨_, rfl, Lib.hid (by rw [data_app, data_app, HS3.out, HS4.out, HTX.out, List.append_assoc]), HL75⟩
end Go.Proofs.YtoogeihbhhcpaaaGreatDoor
