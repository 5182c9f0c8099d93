/-
  The walk of the reference's text of an expression.
-/
import Derived.Test.YtoogeihbhhcpaaaGreatDoorFmQ
import Derived.Test.YtoogeihbhhcpaaaGreatDoorFrP
set_option linter.unusedVariables false
namespace Go.Proofs.YtoogeihbhhcpaaaGreatDoor
open Go.RowKit Go.Fl Go.Fl.Nm Go.Fl.Fm Go.Fl.Rt
open List (setIfInBounds_toArray set_cons_zero set_cons_succ getElem_toArray getElem_cons_zero getElem_cons_succ)
/-- The contract of the reference's text at so many levels. -/
def TextAt (f : Nat) : Prop := ∀ (T : TE) (v : Nd) (w : World), InE w T v → good nameP f T → (txt f T).length ≤ 20000 → Calls Tryz.prog 27 #[v.val] w (StrP (txt f T) w)
theorem tx_go {f : Nat} (h : TextAt f) (T : TE) (v : Nd) (w : World) (h1 : InE w T v) (h2 : good nameP f T) (h3 : (txt f T).length ≤ 20000) : Calls Tryz.prog 27 #[v.val] w (StrP (txt f T) w) := h T v w h1 h2 h3

set_option maxHeartbeats 8000000 in
set_option maxRecDepth 100000 in
theorem text_k1 (f : Nat) (ih : TextAt f) (T : TE) (v : Nd) (w : World) (hin : InE w T v) (hg : good nameP (f + 1) T) (hl : (txt (f + 1) T).length ≤ 20000) (hk : v.h.kind = 1) :
    Calls Tryz.prog 27 #[v.val] w (StrP (txt (f + 1) T) w) := by
  have hnd := hg.1
  rw [hin.hd, hin.length] at hnd
  have hv : valid v.h.n v.h.d := by rcases node_kinds hnd with h | h | h | h | h | h <;> first | exact h.2.2 | omega
  have hTX := Lib.hid (show txt (f + 1) T = textR v.h.n v.h.d by
    show (if _ then _ else _) = _
    rw [hin.hd, if_pos hk])
  rw [hTX.out]
  have HV := Lib.hid hv
  clear hin hg hl ih hnd hv hTX
  obtain ⟨⟨kd, n, d, nm, k⟩, A, len, cap⟩ := v
  simp only at hk HV
  subst hk
  simp only [Nd.val]
  go_enter Tryz.func27, Tryz.ntmps27
  go_wp2_with fail
  refine (number_r15 n d _ HV.out).mono ?_
  rintro e w2 ⟨S, rfl, HS, HB⟩
  go_wp2_with fail
  go_ret
  exact ⟨S, rfl, HS, Lib.hid ((below_box w _).trans (HB.out.mono (below_box w _).size))⟩

set_option maxHeartbeats 8000000 in
set_option maxRecDepth 100000 in
theorem text_k2 (f : Nat) (ih : TextAt f) (T : TE) (v : Nd) (w : World) (hin : InE w T v) (hg : good nameP (f + 1) T) (hl : (txt (f + 1) T).length ≤ 20000) (hk : v.h.kind = 2) :
    Calls Tryz.prog 27 #[v.val] w (StrP (txt (f + 1) T) w) := by
  have hTX := Lib.hid (show txt (f + 1) T = v.h.name.data.toList by
    show (if _ then _ else _) = _
    rw [hin.hd, hk, if_neg (by decide), if_pos rfl])
  rw [hTX.out]
  clear hin hg hl ih hTX
  obtain ⟨⟨kd, n, d, nm, k⟩, A, len, cap⟩ := v
  simp only at hk
  subst hk
  simp only [Nd.val]
  go_enter Tryz.func27, Tryz.ntmps27
  go_wp2_with fail
  go_ret
  exact ⟨nm, rfl, Lib.hid rfl, Lib.hid (below_box w _)⟩

set_option maxHeartbeats 8000000 in
set_option maxRecDepth 100000 in
theorem text_fn (f : Nat) (ih : TextAt f) (T : TE) (v : Nd) (w : World) (hin : InE w T v) (hg : good nameP (f + 1) T) (hl : (txt (f + 1) T).length ≤ 20000) (hk : 9 ≤ v.h.kind ∧ v.h.kind ≤ 13) :
    Calls Tryz.prog 27 #[v.val] w (StrP (txt (f + 1) T) w) := by
 have hnd := hg.1
 rw [hin.hd, hin.length] at hnd
 have hlen : v.len = 1 := by rcases node_kinds hnd with h | h | h | h | h | h <;> omega
 have hl1 : T.l.length = 1 := by rw [hin.length]; exact hlen
 obtain ⟨T1, hT⟩ := list1 hl1
 have hTa : T.a = T1 := by unfold TE.a; rw [hT]; rfl
 have hga : good nameP f T.a := hg.2 _ (by rw [hTa, hT]; exact List.mem_cons_self ..)
 have HGA := Lib.hid hga
 have IH := Lib.hid ih
 have hTk : T.h.kind = v.h.kind := by rw [hin.hd]
 have hTn : T.h.k = v.h.k := by rw [hin.hd]
 have HOK := Lib.hid hin.ok
 obtain ⟨b, o, x, hA, hx, ex⟩ := hin.one hlen
 have hxh : T.a.h = x.h := hx.hd
 have HTX := Lib.hid (show txt (f + 1) T = fnK v.h.kind ++ (40 :: (txt f T.a ++ [41])) by
   show (if _ then _ else _) = _
   rw [hTk, if_neg (by omega), if_neg (by omega), if_neg (by omega), if_neg (by omega), if_neg (by omega)])
 have HX := Lib.hid hx
 have EX := Lib.hid ex
 obtain ⟨la, hla⟩ : ∃ z, z = txt f T.a := ⟨_, rfl⟩
 obtain ⟨L, hL⟩ : ∃ z, z = txt (f + 1) T := ⟨_, rfl⟩
 rw [← hla, ← hL] at HTX
 rw [← hL] at hl ⊢
 have hf4 : (fnK v.h.kind).length ≤ 4 := fnK_len _
 have hlen3 : la.length ≤ 20000 := by
   have h := congrArg List.length HTX.out
   rw [List.length_append, List.length_cons, List.length_append] at h
   omega
 have HLA := Lib.hid (show (txt f T.a).length ≤ 20000 by rw [← hla]; omega)
 have HQA := Lib.hid hla
 clear hla hL hin hg hl ih hx ex hga hT hTa hl1 hnd hTk hTn hxh
 obtain ⟨⟨kd, n, d, nm, k⟩, A, len, cap⟩ := v
 simp only at hk hA hlen HOK HTX
 subst hA hlen
 simp only at hf4
 have k1 : (kd == 1) = false := by rw [beq_eq_false_iff_ne]; omega
 have k2 : (kd == 2) = false := by rw [beq_eq_false_iff_ne]; omega
 have k3 : (kd == 3) = false := by rw [beq_eq_false_iff_ne]; omega
 have k4 : (kd == 4) = false := by rw [beq_eq_false_iff_ne]; omega
 have k5 : (kd == 5) = false := by rw [beq_eq_false_iff_ne]; omega
 have k6 : (kd == 6) = false := by rw [beq_eq_false_iff_ne]; omega
 have k7 : (kd == 7) = false := by rw [beq_eq_false_iff_ne]; omega
 have k8 : (kd == 8) = false := by rw [beq_eq_false_iff_ne]; omega
 simp only [Nd.val]
 go_enter Tryz.func27, Tryz.ntmps27
 go_upto_region 1 with (fail)
 obtain ⟨w1, hw⟩ : ∃ z9 : World, z9 = w.alloc (.cells #[.int .i64 kd, .int .i64 n, .int .i64 d, .string nm, .int .i64 k, .slice (some ⟨b, o, none⟩) 1 cap] 51) := ⟨_, rfl⟩
 have HB1 := Lib.hid (show Below w.heap.size w w1 by rw [hw]; exact below_box _ _)
 have F1bx := Lib.hid (show Blk w1 w.heap.size 51 #[.int .i64 kd, .int .i64 n, .int .i64 d, .string nm, .int .i64 k, .slice (some ⟨b, o, none⟩) 1 cap] by rw [hw]; exact Blk.new _ _ _)
 rw [← hw]
 clear hw
 have F1i0 := Lib.hid (HX.out.belowW HB1.out)
 have F1e0 := Lib.hid (EX.out.belowW HB1.out)
 obtain ⟨pb0, pb1, pb2, pb3, pb4, pb5⟩ := F1bx.out.cs6
 have el0 : w1.cell? ⟨b, o, none⟩ = some (.int .i64 x.h.kind) := F1e0.out.c0
 have el1 : w1.cell? ⟨b, o + 1, none⟩ = some (.int .i64 x.h.n) := F1e0.out.c1
 have el2 : w1.cell? ⟨b, o + 2, none⟩ = some (.int .i64 x.h.d) := F1e0.out.c2
 have el3 : w1.cell? ⟨b, o + 3, none⟩ = some (.string x.h.name) := F1e0.out.c3
 have el4 : w1.cell? ⟨b, o + 4, none⟩ = some (.int .i64 x.h.k) := F1e0.out.c4
 have el5 : w1.cell? ⟨b, o + 5, none⟩ = some (.slice x.A x.len x.cap) := F1e0.out.c5
 go_upto_region 7 with (fail)
 clear pb0 pb1 pb2 pb3 pb4 pb5 el0 el1 el2 el3 el4 el5
 obtain ⟨w2, hw⟩ : ∃ z9 : World, z9 = w1.alloc (.cells #[.int .i64 x.h.kind, .int .i64 x.h.n, .int .i64 x.h.d, .string x.h.name, .int .i64 x.h.k, .slice x.A x.len x.cap] 51) := ⟨_, rfl⟩
 have HB2 := Lib.hid (show Below w1.heap.size w1 w2 by rw [hw]; exact below_box _ _)
 have F2ba := Lib.hid (show Blk w2 w1.heap.size 51 #[.int .i64 x.h.kind, .int .i64 x.h.n, .int .i64 x.h.d, .string x.h.name, .int .i64 x.h.k, .slice x.A x.len x.cap] by rw [hw]; exact Blk.new _ _ _)
 rw [← hw]
 clear hw
 have F2i0 := Lib.hid (F1i0.out.belowW HB2.out)
 have F2e0 := Lib.hid (F1e0.out.belowW HB2.out)
 have F2bx := Lib.hid (F1bx.out.belowW HB2.out)
 have HL2 := Lib.hid (HB1.out.trans (HB2.out.mono HB1.out.size))
 obtain ⟨pb0, pb1, pb2, pb3, pb4, pb5⟩ := F2bx.out.cs6
 obtain ⟨qa0, qa1, qa2, qa3, qa4, qa5⟩ := F2ba.out.cs6
 go_wp2_with fail
 refine (tx_go IH.out T.a x w2 F2i0.out HGA.out HLA.out).mono ?_
 rintro e w3 ⟨S1, rfl, HS1, HB3⟩
 clear pb0 pb1 pb2 pb3 pb4 pb5 qa0 qa1 qa2 qa3 qa4 qa5
 have F3i0 := Lib.hid (F2i0.out.belowW HB3.out)
 have F3e0 := Lib.hid (F2e0.out.belowW HB3.out)
 have F3bx := Lib.hid (F2bx.out.belowW HB3.out)
 have F3ba := Lib.hid (F2ba.out.belowW HB3.out)
 have HL3 := Lib.hid (HL2.out.trans (HB3.out.mono HL2.out.size))
 have hS1 : S1.size = la.length := by rw [strp_size HS1.out, HQA.out]
 have HT1 := Lib.hid (show S1.data.toList = la from HS1.out.trans HQA.out.symm)
 obtain ⟨pb0, pb1, pb2, pb3, pb4, pb5⟩ := F3bx.out.cs6
 obtain ⟨qa0, qa1, qa2, qa3, qa4, qa5⟩ := F3ba.out.cs6
 go_wp2_with fail
 refine (name_r kd w3 hk).mono ?_
 rintro e w4 ⟨S2, rfl, HS2, HB4⟩
 clear pb0 pb1 pb2 pb3 pb4 pb5 qa0 qa1 qa2 qa3 qa4 qa5
 have F4i0 := Lib.hid (F3i0.out.belowW HB4.out)
 have F4e0 := Lib.hid (F3e0.out.belowW HB4.out)
 have F4bx := Lib.hid (F3bx.out.belowW HB4.out)
 have F4ba := Lib.hid (F3ba.out.belowW HB4.out)
 have HL4 := Lib.hid (HL3.out.trans (HB4.out.mono HL3.out.size))
 have hS2 : S2.size ≤ 4 := by rw [strp_size HS2.out]; exact hf4
 have c1 : ¬ (9223372036854775807 < S2.size + 1) := by omega
 have c2 : ¬ (9223372036854775807 < S2.size + 1 + la.length) := by omega
 have c3 : ¬ (9223372036854775807 < S2.size + 1 + la.length + 1) := by omega
 obtain ⟨pb0, pb1, pb2, pb3, pb4, pb5⟩ := F4bx.out.cs6
 obtain ⟨qa0, qa1, qa2, qa3, qa4, qa5⟩ := F4ba.out.cs6
 go_wp2_with fail
 go_ret
 exact ⟨_, rfl, Lib.hid (by rw [data_app, data_app, data_app, HS2.out, HT1.out, HTX.out, List.append_assoc, List.append_assoc]; rfl), HL4⟩

set_option maxHeartbeats 8000000 in
set_option maxRecDepth 100000 in
theorem text_k3 (f : Nat) (ih : TextAt f) (T : TE) (v : Nd) (w : World) (hin : InE w T v) (hg : good nameP (f + 1) T) (hl : (txt (f + 1) T).length ≤ 20000) (hk : v.h.kind = 3) :
    Calls Tryz.prog 27 #[v.val] w (StrP (txt (f + 1) T) w) := by
 have hnd := hg.1
 rw [hin.hd, hin.length] at hnd
 have hlen : v.len = 2 := by rcases node_kinds hnd with h | h | h | h | h | h <;> omega
 have hl2 : T.l.length = 2 := by rw [hin.length]; exact hlen
 obtain ⟨T1, T2, hT⟩ := list2 hl2
 have hTa : T.a = T1 := by unfold TE.a; rw [hT]; rfl
 have hTb : T.b = T2 := by unfold TE.b; rw [hT]; rfl
 have hga : good nameP f T.a := hg.2 _ (by rw [hTa, hT]; exact List.mem_cons_self ..)
 have hgb : good nameP f T.b := hg.2 _ (by rw [hTb, hT]; exact List.mem_cons_of_mem _ (List.mem_cons_self ..))
 have HGA := Lib.hid hga
 have HGB := Lib.hid hgb
 have IH := Lib.hid ih
 have hTk : T.h.kind = 3 := by rw [hin.hd]; exact hk
 obtain ⟨b, o, x, y, hA, hx, hy, ex, ey⟩ := hin.two hlen
 have hxh : T.a.h = x.h := hx.hd
 have hyh : T.b.h = y.h := hy.hd
 have HTX := Lib.hid (show txt (f + 1) T = par (need1 3 x.h y.h) (txt f T.a) ++ ([32, 43, 32] ++ par (need2 3 y.h) (txt f T.b)) by
   show (if _ then _ else _) = _
   rw [hTk, if_neg (by decide), if_neg (by decide), if_pos (by decide), hxh, hyh]
   rfl)
 have HX := Lib.hid hx
 have HY := Lib.hid hy
 have EX := Lib.hid ex
 have EY := Lib.hid ey
 obtain ⟨la, hla⟩ : ∃ z, z = txt f T.a := ⟨_, rfl⟩
 obtain ⟨lb, hlb⟩ : ∃ z, z = txt f T.b := ⟨_, rfl⟩
 obtain ⟨na, hna⟩ : ∃ z, z = need1 3 x.h y.h := ⟨_, rfl⟩
 obtain ⟨nb, hnb⟩ : ∃ z, z = need2 3 y.h := ⟨_, rfl⟩
 obtain ⟨L, hL⟩ : ∃ z, z = txt (f + 1) T := ⟨_, rfl⟩
 rw [← hla, ← hlb, ← hna, ← hnb, ← hL] at HTX
 rw [← hL] at hl ⊢
 have hlen3 : (par na la).length + 3 + (par nb lb).length ≤ 20000 := by
   have h := congrArg List.length HTX.out
   rw [List.length_append, List.length_append] at h
   simp only [List.length_cons, List.length_nil] at h
   omega
 have hpla := (par_len na la).1
 have hplb := (par_len nb lb).1
 have c1 : ¬ (9223372036854775807 < (par na la).length + 3) := by omega
 have c2 : ¬ (9223372036854775807 < (par na la).length + 3 + (par nb lb).length) := by omega
 have HLA := Lib.hid (show (txt f T.a).length ≤ 20000 by rw [← hla]; omega)
 have HLB := Lib.hid (show (txt f T.b).length ≤ 20000 by rw [← hlb]; omega)
 have hla9 : la.length ≤ 20000 := by omega
 have hlb9 : lb.length ≤ 20000 := by omega
 have HNA := Lib.hid hna
 have HNB := Lib.hid hnb
 have HQA := Lib.hid hla
 have HQB := Lib.hid hlb
 clear hla hlb hna hnb hL hin hg hl ih hx hy ex ey hga hgb hT hTa hTb hl2 hnd hTk hxh hyh
 obtain ⟨⟨kd, n, d, nm, k⟩, A, len, cap⟩ := v
 simp only at hk hA hlen
 subst hk hA hlen
 simp only [Nd.val]
 have hna0 : na = false := HNA.out
 rw [hna0] at HTX c1 c2 hpla hlen3
 have e1 : (par false la).length = la.length := rfl
 rw [e1] at c1 c2
 have e2 : par false la = la := rfl
 rw [e2] at HTX
 clear hna0 e1 e2
 go_enter Tryz.func27, Tryz.ntmps27
 go_upto_region 1 with (fail)
 obtain ⟨w1, hw⟩ : ∃ z9 : World, z9 = w.alloc (.cells #[.int .i64 3, .int .i64 n, .int .i64 d, .string nm, .int .i64 k, .slice (some ⟨b, o, none⟩) 2 cap] 51) := ⟨_, rfl⟩
 have HB1 := Lib.hid (show Below w.heap.size w w1 by rw [hw]; exact below_box _ _)
 have F1bx := Lib.hid (show Blk w1 w.heap.size 51 #[.int .i64 3, .int .i64 n, .int .i64 d, .string nm, .int .i64 k, .slice (some ⟨b, o, none⟩) 2 cap] by rw [hw]; exact Blk.new _ _ _)
 rw [← hw]
 clear hw
 have F1i0 := Lib.hid (HX.out.belowW HB1.out)
 have F1e0 := Lib.hid (EX.out.belowW HB1.out)
 have F1i1 := Lib.hid (HY.out.belowW HB1.out)
 have F1e1 := Lib.hid (EY.out.belowW HB1.out)
 obtain ⟨pb0, pb1, pb2, pb3, pb4, pb5⟩ := F1bx.out.cs6
 have el0 : w1.cell? ⟨b, o, none⟩ = some (.int .i64 x.h.kind) := F1e0.out.c0
 have el1 : w1.cell? ⟨b, o + 1, none⟩ = some (.int .i64 x.h.n) := F1e0.out.c1
 have el2 : w1.cell? ⟨b, o + 2, none⟩ = some (.int .i64 x.h.d) := F1e0.out.c2
 have el3 : w1.cell? ⟨b, o + 3, none⟩ = some (.string x.h.name) := F1e0.out.c3
 have el4 : w1.cell? ⟨b, o + 4, none⟩ = some (.int .i64 x.h.k) := F1e0.out.c4
 have el5 : w1.cell? ⟨b, o + 5, none⟩ = some (.slice x.A x.len x.cap) := F1e0.out.c5
 go_upto_region 7 with (fail)
 clear pb0 pb1 pb2 pb3 pb4 pb5 el0 el1 el2 el3 el4 el5
 obtain ⟨w2, hw⟩ : ∃ z9 : World, z9 = w1.alloc (.cells #[.int .i64 x.h.kind, .int .i64 x.h.n, .int .i64 x.h.d, .string x.h.name, .int .i64 x.h.k, .slice x.A x.len x.cap] 51) := ⟨_, rfl⟩
 have HB2 := Lib.hid (show Below w1.heap.size w1 w2 by rw [hw]; exact below_box _ _)
 have F2ba := Lib.hid (show Blk w2 w1.heap.size 51 #[.int .i64 x.h.kind, .int .i64 x.h.n, .int .i64 x.h.d, .string x.h.name, .int .i64 x.h.k, .slice x.A x.len x.cap] by rw [hw]; exact Blk.new _ _ _)
 rw [← hw]
 clear hw
 have F2i0 := Lib.hid (F1i0.out.belowW HB2.out)
 have F2e0 := Lib.hid (F1e0.out.belowW HB2.out)
 have F2i1 := Lib.hid (F1i1.out.belowW HB2.out)
 have F2e1 := Lib.hid (F1e1.out.belowW HB2.out)
 have F2bx := Lib.hid (F1bx.out.belowW HB2.out)
 have HL2 := Lib.hid (HB1.out.trans (HB2.out.mono HB1.out.size))
 obtain ⟨pb0, pb1, pb2, pb3, pb4, pb5⟩ := F2bx.out.cs6
 obtain ⟨qa0, qa1, qa2, qa3, qa4, qa5⟩ := F2ba.out.cs6
 go_wp2_with fail
 refine (tx_go IH.out T.a x w2 F2i0.out HGA.out HLA.out).mono ?_
 rintro e w3 ⟨S1, rfl, HS1, HB3⟩
 clear pb0 pb1 pb2 pb3 pb4 pb5 qa0 qa1 qa2 qa3 qa4 qa5
 have F3i0 := Lib.hid (F2i0.out.belowW HB3.out)
 have F3e0 := Lib.hid (F2e0.out.belowW HB3.out)
 have F3i1 := Lib.hid (F2i1.out.belowW HB3.out)
 have F3e1 := Lib.hid (F2e1.out.belowW HB3.out)
 have F3bx := Lib.hid (F2bx.out.belowW HB3.out)
 have F3ba := Lib.hid (F2ba.out.belowW HB3.out)
 have HL3 := Lib.hid (HL2.out.trans (HB3.out.mono HL2.out.size))
 have hS1 : S1.size = la.length := by rw [strp_size HS1.out, HQA.out]
 have HT1 := Lib.hid (show S1.data.toList = la from HS1.out.trans HQA.out.symm)
 obtain ⟨pb0, pb1, pb2, pb3, pb4, pb5⟩ := F3bx.out.cs6
 obtain ⟨qa0, qa1, qa2, qa3, qa4, qa5⟩ := F3ba.out.cs6
 clear pb0 pb1 pb2 pb3 pb4 pb5 qa0 qa1 qa2 qa3 qa4 qa5
 obtain ⟨pb0, pb1, pb2, pb3, pb4, pb5⟩ := F3bx.out.cs6
 obtain ⟨qa0, qa1, qa2, qa3, qa4, qa5⟩ := F3ba.out.cs6
 have el0 : w3.cell? ⟨b, o + 6, none⟩ = some (.int .i64 y.h.kind) := F3e1.out.c0
 have el1 : w3.cell? ⟨b, o + 6 + 1, none⟩ = some (.int .i64 y.h.n) := F3e1.out.c1
 have el2 : w3.cell? ⟨b, o + 6 + 2, none⟩ = some (.int .i64 y.h.d) := F3e1.out.c2
 have el3 : w3.cell? ⟨b, o + 6 + 3, none⟩ = some (.string y.h.name) := F3e1.out.c3
 have el4 : w3.cell? ⟨b, o + 6 + 4, none⟩ = some (.int .i64 y.h.k) := F3e1.out.c4
 have el5 : w3.cell? ⟨b, o + 6 + 5, none⟩ = some (.slice y.A y.len y.cap) := F3e1.out.c5
 go_upto_region 19 with (fail)
 clear pb0 pb1 pb2 pb3 pb4 pb5 qa0 qa1 qa2 qa3 qa4 qa5 el0 el1 el2 el3 el4 el5
 obtain ⟨w4, hw⟩ : ∃ z9 : World, z9 = w3.alloc (.cells #[.int .i64 y.h.kind, .int .i64 y.h.n, .int .i64 y.h.d, .string y.h.name, .int .i64 y.h.k, .slice y.A y.len y.cap] 51) := ⟨_, rfl⟩
 have HB4 := Lib.hid (show Below w3.heap.size w3 w4 by rw [hw]; exact below_box _ _)
 have F4bb := Lib.hid (show Blk w4 w3.heap.size 51 #[.int .i64 y.h.kind, .int .i64 y.h.n, .int .i64 y.h.d, .string y.h.name, .int .i64 y.h.k, .slice y.A y.len y.cap] by rw [hw]; exact Blk.new _ _ _)
 rw [← hw]
 clear hw
 have F4i0 := Lib.hid (F3i0.out.belowW HB4.out)
 have F4e0 := Lib.hid (F3e0.out.belowW HB4.out)
 have F4i1 := Lib.hid (F3i1.out.belowW HB4.out)
 have F4e1 := Lib.hid (F3e1.out.belowW HB4.out)
 have F4bx := Lib.hid (F3bx.out.belowW HB4.out)
 have F4ba := Lib.hid (F3ba.out.belowW HB4.out)
 have HL4 := Lib.hid (HL3.out.trans (HB4.out.mono HL3.out.size))
 obtain ⟨pb0, pb1, pb2, pb3, pb4, pb5⟩ := F4bx.out.cs6
 obtain ⟨qa0, qa1, qa2, qa3, qa4, qa5⟩ := F4ba.out.cs6
 obtain ⟨qb0, qb1, qb2, qb3, qb4, qb5⟩ := F4bb.out.cs6
 go_wp2_with fail
 refine (tx_go IH.out T.b y w4 F4i1.out HGB.out HLB.out).mono ?_
 rintro e w5 ⟨S2, rfl, HS2, HB5⟩
 clear pb0 pb1 pb2 pb3 pb4 pb5 qa0 qa1 qa2 qa3 qa4 qa5 qb0 qb1 qb2 qb3 qb4 qb5
 have F5i0 := Lib.hid (F4i0.out.belowW HB5.out)
 have F5e0 := Lib.hid (F4e0.out.belowW HB5.out)
 have F5i1 := Lib.hid (F4i1.out.belowW HB5.out)
 have F5e1 := Lib.hid (F4e1.out.belowW HB5.out)
 have F5bx := Lib.hid (F4bx.out.belowW HB5.out)
 have F5ba := Lib.hid (F4ba.out.belowW HB5.out)
 have F5bb := Lib.hid (F4bb.out.belowW HB5.out)
 have HL5 := Lib.hid (HL4.out.trans (HB5.out.mono HL4.out.size))
 have hS2 : S2.size = lb.length := by rw [strp_size HS2.out, HQB.out]
 have HT2 := Lib.hid (show S2.data.toList = lb from HS2.out.trans HQB.out.symm)
 obtain ⟨pb0, pb1, pb2, pb3, pb4, pb5⟩ := F5bx.out.cs6
 obtain ⟨qa0, qa1, qa2, qa3, qa4, qa5⟩ := F5ba.out.cs6
 obtain ⟨qb0, qb1, qb2, qb3, qb4, qb5⟩ := F5bb.out.cs6
 go_wp2_with fail
 refine (sum_r ⟨⟨3, n, d, nm, k⟩, some ⟨b, o, none⟩, 2, cap⟩ w5).mono ?_
 rw [show sumK (Nd.mk ⟨3, n, d, nm, k⟩ (some ⟨b, o, none⟩) 2 cap).h.kind = true from rfl]
 rintro e w6 ⟨rfl, HB6⟩
 clear pb0 pb1 pb2 pb3 pb4 pb5 qa0 qa1 qa2 qa3 qa4 qa5 qb0 qb1 qb2 qb3 qb4 qb5
 have F6i0 := Lib.hid (F5i0.out.belowW HB6.out)
 have F6e0 := Lib.hid (F5e0.out.belowW HB6.out)
 have F6i1 := Lib.hid (F5i1.out.belowW HB6.out)
 have F6e1 := Lib.hid (F5e1.out.belowW HB6.out)
 have F6bx := Lib.hid (F5bx.out.belowW HB6.out)
 have F6ba := Lib.hid (F5ba.out.belowW HB6.out)
 have F6bb := Lib.hid (F5bb.out.belowW HB6.out)
 have HL6 := Lib.hid (HL5.out.trans (HB6.out.mono HL5.out.size))
 obtain ⟨pb0, pb1, pb2, pb3, pb4, pb5⟩ := F6bx.out.cs6
 obtain ⟨qa0, qa1, qa2, qa3, qa4, qa5⟩ := F6ba.out.cs6
 obtain ⟨qb0, qb1, qb2, qb3, qb4, qb5⟩ := F6bb.out.cs6
 go_wp2_with fail
 have HSB := Lib.hid (show sumK y.h.kind = nb from HNB.out.symm)
 refine (sum_r y w6).mono ?_
 rw [HSB.out]
 rintro e w7 ⟨rfl, HB7⟩
 clear pb0 pb1 pb2 pb3 pb4 pb5 qa0 qa1 qa2 qa3 qa4 qa5 qb0 qb1 qb2 qb3 qb4 qb5
 have F7i0 := Lib.hid (F6i0.out.belowW HB7.out)
 have F7e0 := Lib.hid (F6e0.out.belowW HB7.out)
 have F7i1 := Lib.hid (F6i1.out.belowW HB7.out)
 have F7e1 := Lib.hid (F6e1.out.belowW HB7.out)
 have F7bx := Lib.hid (F6bx.out.belowW HB7.out)
 have F7ba := Lib.hid (F6ba.out.belowW HB7.out)
 have F7bb := Lib.hid (F6bb.out.belowW HB7.out)
 have HL7 := Lib.hid (HL6.out.trans (HB7.out.mono HL6.out.size))
 obtain ⟨pb0, pb1, pb2, pb3, pb4, pb5⟩ := F7bx.out.cs6
 obtain ⟨qa0, qa1, qa2, qa3, qa4, qa5⟩ := F7ba.out.cs6
 obtain ⟨qb0, qb1, qb2, qb3, qb4, qb5⟩ := F7bb.out.cs6
 go_wp2_with fail
 refine (wrap_r S2 nb w7 lb HT2.out hlb9).mono ?_
 rintro e w8 ⟨S3, rfl, HS3, HB8⟩
 clear pb0 pb1 pb2 pb3 pb4 pb5 qa0 qa1 qa2 qa3 qa4 qa5 qb0 qb1 qb2 qb3 qb4 qb5
 have F8i0 := Lib.hid (F7i0.out.belowW HB8.out)
 have F8e0 := Lib.hid (F7e0.out.belowW HB8.out)
 have F8i1 := Lib.hid (F7i1.out.belowW HB8.out)
 have F8e1 := Lib.hid (F7e1.out.belowW HB8.out)
 have F8bx := Lib.hid (F7bx.out.belowW HB8.out)
 have F8ba := Lib.hid (F7ba.out.belowW HB8.out)
 have F8bb := Lib.hid (F7bb.out.belowW HB8.out)
 have HL8 := Lib.hid (HL7.out.trans (HB8.out.mono HL7.out.size))
 have hS3 : S3.size = (par nb lb).length := strp_size HS3.out
 obtain ⟨pb0, pb1, pb2, pb3, pb4, pb5⟩ := F8bx.out.cs6
 obtain ⟨qa0, qa1, qa2, qa3, qa4, qa5⟩ := F8ba.out.cs6
 obtain ⟨qb0, qb1, qb2, qb3, qb4, qb5⟩ := F8bb.out.cs6
 go_wp2_with fail
 go_ret
 exact ⟨_, rfl, Lib.hid (by rw [data_app, data_app, HT1.out, HS3.out, HTX.out, List.append_assoc]), HL8⟩

set_option maxHeartbeats 8000000 in
set_option maxRecDepth 100000 in
theorem text_k4 (f : Nat) (ih : TextAt f) (T : TE) (v : Nd) (w : World) (hin : InE w T v) (hg : good nameP (f + 1) T) (hl : (txt (f + 1) T).length ≤ 20000) (hk : v.h.kind = 4) :
    Calls Tryz.prog 27 #[v.val] w (StrP (txt (f + 1) T) w) := by
 have hnd := hg.1
 rw [hin.hd, hin.length] at hnd
 have hlen : v.len = 2 := by rcases node_kinds hnd with h | h | h | h | h | h <;> omega
 have hl2 : T.l.length = 2 := by rw [hin.length]; exact hlen
 obtain ⟨T1, T2, hT⟩ := list2 hl2
 have hTa : T.a = T1 := by unfold TE.a; rw [hT]; rfl
 have hTb : T.b = T2 := by unfold TE.b; rw [hT]; rfl
 have hga : good nameP f T.a := hg.2 _ (by rw [hTa, hT]; exact List.mem_cons_self ..)
 have hgb : good nameP f T.b := hg.2 _ (by rw [hTb, hT]; exact List.mem_cons_of_mem _ (List.mem_cons_self ..))
 have HGA := Lib.hid hga
 have HGB := Lib.hid hgb
 have IH := Lib.hid ih
 have hTk : T.h.kind = 4 := by rw [hin.hd]; exact hk
 obtain ⟨b, o, x, y, hA, hx, hy, ex, ey⟩ := hin.two hlen
 have hxh : T.a.h = x.h := hx.hd
 have hyh : T.b.h = y.h := hy.hd
 have HTX := Lib.hid (show txt (f + 1) T = par (need1 4 x.h y.h) (txt f T.a) ++ ([32, 45, 32] ++ par (need2 4 y.h) (txt f T.b)) by
   show (if _ then _ else _) = _
   rw [hTk, if_neg (by decide), if_neg (by decide), if_pos (by decide), hxh, hyh]
   rfl)
 have HX := Lib.hid hx
 have HY := Lib.hid hy
 have EX := Lib.hid ex
 have EY := Lib.hid ey
 obtain ⟨la, hla⟩ : ∃ z, z = txt f T.a := ⟨_, rfl⟩
 obtain ⟨lb, hlb⟩ : ∃ z, z = txt f T.b := ⟨_, rfl⟩
 obtain ⟨na, hna⟩ : ∃ z, z = need1 4 x.h y.h := ⟨_, rfl⟩
 obtain ⟨nb, hnb⟩ : ∃ z, z = need2 4 y.h := ⟨_, rfl⟩
 obtain ⟨L, hL⟩ : ∃ z, z = txt (f + 1) T := ⟨_, rfl⟩
 rw [← hla, ← hlb, ← hna, ← hnb, ← hL] at HTX
 rw [← hL] at hl ⊢
 have hlen3 : (par na la).length + 3 + (par nb lb).length ≤ 20000 := by
   have h := congrArg List.length HTX.out
   rw [List.length_append, List.length_append] at h
   simp only [List.length_cons, List.length_nil] at h
   omega
 have hpla := (par_len na la).1
 have hplb := (par_len nb lb).1
 have c1 : ¬ (9223372036854775807 < (par na la).length + 3) := by omega
 have c2 : ¬ (9223372036854775807 < (par na la).length + 3 + (par nb lb).length) := by omega
 have HLA := Lib.hid (show (txt f T.a).length ≤ 20000 by rw [← hla]; omega)
 have HLB := Lib.hid (show (txt f T.b).length ≤ 20000 by rw [← hlb]; omega)
 have hla9 : la.length ≤ 20000 := by omega
 have hlb9 : lb.length ≤ 20000 := by omega
 have HNA := Lib.hid hna
 have HNB := Lib.hid hnb
 have HQA := Lib.hid hla
 have HQB := Lib.hid hlb
 clear hla hlb hna hnb hL hin hg hl ih hx hy ex ey hga hgb hT hTa hTb hl2 hnd hTk hxh hyh
 obtain ⟨⟨kd, n, d, nm, k⟩, A, len, cap⟩ := v
 simp only at hk hA hlen
 subst hk hA hlen
 simp only [Nd.val]
 have hna0 : na = false := HNA.out
 rw [hna0] at HTX c1 c2 hpla hlen3
 have e1 : (par false la).length = la.length := rfl
 rw [e1] at c1 c2
 have e2 : par false la = la := rfl
 rw [e2] at HTX
 clear hna0 e1 e2
 go_enter Tryz.func27, Tryz.ntmps27
 go_upto_region 1 with (fail)
 obtain ⟨w1, hw⟩ : ∃ z9 : World, z9 = w.alloc (.cells #[.int .i64 4, .int .i64 n, .int .i64 d, .string nm, .int .i64 k, .slice (some ⟨b, o, none⟩) 2 cap] 51) := ⟨_, rfl⟩
 have HB1 := Lib.hid (show Below w.heap.size w w1 by rw [hw]; exact below_box _ _)
 have F1bx := Lib.hid (show Blk w1 w.heap.size 51 #[.int .i64 4, .int .i64 n, .int .i64 d, .string nm, .int .i64 k, .slice (some ⟨b, o, none⟩) 2 cap] by rw [hw]; exact Blk.new _ _ _)
 rw [← hw]
 clear hw
 have F1i0 := Lib.hid (HX.out.belowW HB1.out)
 have F1e0 := Lib.hid (EX.out.belowW HB1.out)
 have F1i1 := Lib.hid (HY.out.belowW HB1.out)
 have F1e1 := Lib.hid (EY.out.belowW HB1.out)
 obtain ⟨pb0, pb1, pb2, pb3, pb4, pb5⟩ := F1bx.out.cs6
 have el0 : w1.cell? ⟨b, o, none⟩ = some (.int .i64 x.h.kind) := F1e0.out.c0
 have el1 : w1.cell? ⟨b, o + 1, none⟩ = some (.int .i64 x.h.n) := F1e0.out.c1
 have el2 : w1.cell? ⟨b, o + 2, none⟩ = some (.int .i64 x.h.d) := F1e0.out.c2
 have el3 : w1.cell? ⟨b, o + 3, none⟩ = some (.string x.h.name) := F1e0.out.c3
 have el4 : w1.cell? ⟨b, o + 4, none⟩ = some (.int .i64 x.h.k) := F1e0.out.c4
 have el5 : w1.cell? ⟨b, o + 5, none⟩ = some (.slice x.A x.len x.cap) := F1e0.out.c5
 go_upto_region 7 with (fail)
 clear pb0 pb1 pb2 pb3 pb4 pb5 el0 el1 el2 el3 el4 el5
 obtain ⟨w2, hw⟩ : ∃ z9 : World, z9 = w1.alloc (.cells #[.int .i64 x.h.kind, .int .i64 x.h.n, .int .i64 x.h.d, .string x.h.name, .int .i64 x.h.k, .slice x.A x.len x.cap] 51) := ⟨_, rfl⟩
 have HB2 := Lib.hid (show Below w1.heap.size w1 w2 by rw [hw]; exact below_box _ _)
 have F2ba := Lib.hid (show Blk w2 w1.heap.size 51 #[.int .i64 x.h.kind, .int .i64 x.h.n, .int .i64 x.h.d, .string x.h.name, .int .i64 x.h.k, .slice x.A x.len x.cap] by rw [hw]; exact Blk.new _ _ _)
 rw [← hw]
 clear hw
 have F2i0 := Lib.hid (F1i0.out.belowW HB2.out)
 have F2e0 := Lib.hid (F1e0.out.belowW HB2.out)
 have F2i1 := Lib.hid (F1i1.out.belowW HB2.out)
 have F2e1 := Lib.hid (F1e1.out.belowW HB2.out)
 have F2bx := Lib.hid (F1bx.out.belowW HB2.out)
 have HL2 := Lib.hid (HB1.out.trans (HB2.out.mono HB1.out.size))
 obtain ⟨pb0, pb1, pb2, pb3, pb4, pb5⟩ := F2bx.out.cs6
 obtain ⟨qa0, qa1, qa2, qa3, qa4, qa5⟩ := F2ba.out.cs6
 go_wp2_with fail
 refine (tx_go IH.out T.a x w2 F2i0.out HGA.out HLA.out).mono ?_
 rintro e w3 ⟨S1, rfl, HS1, HB3⟩
 clear pb0 pb1 pb2 pb3 pb4 pb5 qa0 qa1 qa2 qa3 qa4 qa5
 have F3i0 := Lib.hid (F2i0.out.belowW HB3.out)
 have F3e0 := Lib.hid (F2e0.out.belowW HB3.out)
 have F3i1 := Lib.hid (F2i1.out.belowW HB3.out)
 have F3e1 := Lib.hid (F2e1.out.belowW HB3.out)
 have F3bx := Lib.hid (F2bx.out.belowW HB3.out)
 have F3ba := Lib.hid (F2ba.out.belowW HB3.out)
 have HL3 := Lib.hid (HL2.out.trans (HB3.out.mono HL2.out.size))
 have hS1 : S1.size = la.length := by rw [strp_size HS1.out, HQA.out]
 have HT1 := Lib.hid (show S1.data.toList = la from HS1.out.trans HQA.out.symm)
 obtain ⟨pb0, pb1, pb2, pb3, pb4, pb5⟩ := F3bx.out.cs6
 obtain ⟨qa0, qa1, qa2, qa3, qa4, qa5⟩ := F3ba.out.cs6
 clear pb0 pb1 pb2 pb3 pb4 pb5 qa0 qa1 qa2 qa3 qa4 qa5
 obtain ⟨pb0, pb1, pb2, pb3, pb4, pb5⟩ := F3bx.out.cs6
 obtain ⟨qa0, qa1, qa2, qa3, qa4, qa5⟩ := F3ba.out.cs6
 have el0 : w3.cell? ⟨b, o + 6, none⟩ = some (.int .i64 y.h.kind) := F3e1.out.c0
 have el1 : w3.cell? ⟨b, o + 6 + 1, none⟩ = some (.int .i64 y.h.n) := F3e1.out.c1
 have el2 : w3.cell? ⟨b, o + 6 + 2, none⟩ = some (.int .i64 y.h.d) := F3e1.out.c2
 have el3 : w3.cell? ⟨b, o + 6 + 3, none⟩ = some (.string y.h.name) := F3e1.out.c3
 have el4 : w3.cell? ⟨b, o + 6 + 4, none⟩ = some (.int .i64 y.h.k) := F3e1.out.c4
 have el5 : w3.cell? ⟨b, o + 6 + 5, none⟩ = some (.slice y.A y.len y.cap) := F3e1.out.c5
 go_upto_region 19 with (fail)
 clear pb0 pb1 pb2 pb3 pb4 pb5 qa0 qa1 qa2 qa3 qa4 qa5 el0 el1 el2 el3 el4 el5
 obtain ⟨w4, hw⟩ : ∃ z9 : World, z9 = w3.alloc (.cells #[.int .i64 y.h.kind, .int .i64 y.h.n, .int .i64 y.h.d, .string y.h.name, .int .i64 y.h.k, .slice y.A y.len y.cap] 51) := ⟨_, rfl⟩
 have HB4 := Lib.hid (show Below w3.heap.size w3 w4 by rw [hw]; exact below_box _ _)
 have F4bb := Lib.hid (show Blk w4 w3.heap.size 51 #[.int .i64 y.h.kind, .int .i64 y.h.n, .int .i64 y.h.d, .string y.h.name, .int .i64 y.h.k, .slice y.A y.len y.cap] by rw [hw]; exact Blk.new _ _ _)
 rw [← hw]
 clear hw
 have F4i0 := Lib.hid (F3i0.out.belowW HB4.out)
 have F4e0 := Lib.hid (F3e0.out.belowW HB4.out)
 have F4i1 := Lib.hid (F3i1.out.belowW HB4.out)
 have F4e1 := Lib.hid (F3e1.out.belowW HB4.out)
 have F4bx := Lib.hid (F3bx.out.belowW HB4.out)
 have F4ba := Lib.hid (F3ba.out.belowW HB4.out)
 have HL4 := Lib.hid (HL3.out.trans (HB4.out.mono HL3.out.size))
 obtain ⟨pb0, pb1, pb2, pb3, pb4, pb5⟩ := F4bx.out.cs6
 obtain ⟨qa0, qa1, qa2, qa3, qa4, qa5⟩ := F4ba.out.cs6
 obtain ⟨qb0, qb1, qb2, qb3, qb4, qb5⟩ := F4bb.out.cs6
 go_wp2_with fail
 refine (tx_go IH.out T.b y w4 F4i1.out HGB.out HLB.out).mono ?_
 rintro e w5 ⟨S2, rfl, HS2, HB5⟩
 clear pb0 pb1 pb2 pb3 pb4 pb5 qa0 qa1 qa2 qa3 qa4 qa5 qb0 qb1 qb2 qb3 qb4 qb5
 have F5i0 := Lib.hid (F4i0.out.belowW HB5.out)
 have F5e0 := Lib.hid (F4e0.out.belowW HB5.out)
 have F5i1 := Lib.hid (F4i1.out.belowW HB5.out)
 have F5e1 := Lib.hid (F4e1.out.belowW HB5.out)
 have F5bx := Lib.hid (F4bx.out.belowW HB5.out)
 have F5ba := Lib.hid (F4ba.out.belowW HB5.out)
 have F5bb := Lib.hid (F4bb.out.belowW HB5.out)
 have HL5 := Lib.hid (HL4.out.trans (HB5.out.mono HL4.out.size))
 have hS2 : S2.size = lb.length := by rw [strp_size HS2.out, HQB.out]
 have HT2 := Lib.hid (show S2.data.toList = lb from HS2.out.trans HQB.out.symm)
 obtain ⟨pb0, pb1, pb2, pb3, pb4, pb5⟩ := F5bx.out.cs6
 obtain ⟨qa0, qa1, qa2, qa3, qa4, qa5⟩ := F5ba.out.cs6
 obtain ⟨qb0, qb1, qb2, qb3, qb4, qb5⟩ := F5bb.out.cs6
 go_wp2_with fail
 refine (sum_r ⟨⟨4, n, d, nm, k⟩, some ⟨b, o, none⟩, 2, cap⟩ w5).mono ?_
 rw [show sumK (Nd.mk ⟨4, n, d, nm, k⟩ (some ⟨b, o, none⟩) 2 cap).h.kind = true from rfl]
 rintro e w6 ⟨rfl, HB6⟩
 clear pb0 pb1 pb2 pb3 pb4 pb5 qa0 qa1 qa2 qa3 qa4 qa5 qb0 qb1 qb2 qb3 qb4 qb5
 have F6i0 := Lib.hid (F5i0.out.belowW HB6.out)
 have F6e0 := Lib.hid (F5e0.out.belowW HB6.out)
 have F6i1 := Lib.hid (F5i1.out.belowW HB6.out)
 have F6e1 := Lib.hid (F5e1.out.belowW HB6.out)
 have F6bx := Lib.hid (F5bx.out.belowW HB6.out)
 have F6ba := Lib.hid (F5ba.out.belowW HB6.out)
 have F6bb := Lib.hid (F5bb.out.belowW HB6.out)
 have HL6 := Lib.hid (HL5.out.trans (HB6.out.mono HL5.out.size))
 obtain ⟨pb0, pb1, pb2, pb3, pb4, pb5⟩ := F6bx.out.cs6
 obtain ⟨qa0, qa1, qa2, qa3, qa4, qa5⟩ := F6ba.out.cs6
 obtain ⟨qb0, qb1, qb2, qb3, qb4, qb5⟩ := F6bb.out.cs6
 go_wp2_with fail
 have HSB := Lib.hid (show sumK y.h.kind = nb from HNB.out.symm)
 refine (sum_r y w6).mono ?_
 rw [HSB.out]
 rintro e w7 ⟨rfl, HB7⟩
 clear pb0 pb1 pb2 pb3 pb4 pb5 qa0 qa1 qa2 qa3 qa4 qa5 qb0 qb1 qb2 qb3 qb4 qb5
 have F7i0 := Lib.hid (F6i0.out.belowW HB7.out)
 have F7e0 := Lib.hid (F6e0.out.belowW HB7.out)
 have F7i1 := Lib.hid (F6i1.out.belowW HB7.out)
 have F7e1 := Lib.hid (F6e1.out.belowW HB7.out)
 have F7bx := Lib.hid (F6bx.out.belowW HB7.out)
 have F7ba := Lib.hid (F6ba.out.belowW HB7.out)
 have F7bb := Lib.hid (F6bb.out.belowW HB7.out)
 have HL7 := Lib.hid (HL6.out.trans (HB7.out.mono HL6.out.size))
 obtain ⟨pb0, pb1, pb2, pb3, pb4, pb5⟩ := F7bx.out.cs6
 obtain ⟨qa0, qa1, qa2, qa3, qa4, qa5⟩ := F7ba.out.cs6
 obtain ⟨qb0, qb1, qb2, qb3, qb4, qb5⟩ := F7bb.out.cs6
 go_wp2_with fail
 refine (wrap_r S2 nb w7 lb HT2.out hlb9).mono ?_
 rintro e w8 ⟨S3, rfl, HS3, HB8⟩
 clear pb0 pb1 pb2 pb3 pb4 pb5 qa0 qa1 qa2 qa3 qa4 qa5 qb0 qb1 qb2 qb3 qb4 qb5
 have F8i0 := Lib.hid (F7i0.out.belowW HB8.out)
 have F8e0 := Lib.hid (F7e0.out.belowW HB8.out)
 have F8i1 := Lib.hid (F7i1.out.belowW HB8.out)
 have F8e1 := Lib.hid (F7e1.out.belowW HB8.out)
 have F8bx := Lib.hid (F7bx.out.belowW HB8.out)
 have F8ba := Lib.hid (F7ba.out.belowW HB8.out)
 have F8bb := Lib.hid (F7bb.out.belowW HB8.out)
 have HL8 := Lib.hid (HL7.out.trans (HB8.out.mono HL7.out.size))
 have hS3 : S3.size = (par nb lb).length := strp_size HS3.out
 obtain ⟨pb0, pb1, pb2, pb3, pb4, pb5⟩ := F8bx.out.cs6
 obtain ⟨qa0, qa1, qa2, qa3, qa4, qa5⟩ := F8ba.out.cs6
 obtain ⟨qb0, qb1, qb2, qb3, qb4, qb5⟩ := F8bb.out.cs6
 go_wp2_with fail
 go_ret
 exact ⟨_, rfl, Lib.hid (by rw [data_app, data_app, HT1.out, HS3.out, HTX.out, List.append_assoc]), HL8⟩

set_option maxHeartbeats 8000000 in
set_option maxRecDepth 100000 in
theorem text_k7 (f : Nat) (ih : TextAt f) (T : TE) (v : Nd) (w : World) (hin : InE w T v) (hg : good nameP (f + 1) T) (hl : (txt (f + 1) T).length ≤ 20000) (hk : v.h.kind = 7) :
    Calls Tryz.prog 27 #[v.val] w (StrP (txt (f + 1) T) w) := by
 have hnd := hg.1
 rw [hin.hd, hin.length] at hnd
 have hlen : v.len = 1 := by rcases node_kinds hnd with h | h | h | h | h | h <;> omega
 have hl1 : T.l.length = 1 := by rw [hin.length]; exact hlen
 obtain ⟨T1, hT⟩ := list1 hl1
 have hTa : T.a = T1 := by unfold TE.a; rw [hT]; rfl
 have hga : good nameP f T.a := hg.2 _ (by rw [hTa, hT]; exact List.mem_cons_self ..)
 have HGA := Lib.hid hga
 have IH := Lib.hid ih
 have hTk : T.h.kind = v.h.kind := by rw [hin.hd]
 have hTn : T.h.k = v.h.k := by rw [hin.hd]
 have HOK := Lib.hid hin.ok
 obtain ⟨b, o, x, hA, hx, ex⟩ := hin.one hlen
 have hxh : T.a.h = x.h := hx.hd
 have HTX := Lib.hid (show txt (f + 1) T = 45 :: par (needM x.h) (txt f T.a) by
   show (if _ then _ else _) = _
   rw [hTk, hk, if_neg (by decide), if_neg (by decide), if_neg (by decide), if_pos rfl, hxh])
 have HX := Lib.hid hx
 have EX := Lib.hid ex
 obtain ⟨la, hla⟩ : ∃ z, z = txt f T.a := ⟨_, rfl⟩
 obtain ⟨L, hL⟩ : ∃ z, z = txt (f + 1) T := ⟨_, rfl⟩
 rw [← hla, ← hL] at HTX
 rw [← hL] at hl ⊢
 obtain ⟨nd, hnd2⟩ : ∃ z, z = needM x.h := ⟨_, rfl⟩
 rw [← hnd2] at HTX
 have hlen3 : 1 + (par nd la).length ≤ 20000 := by
   have h := congrArg List.length HTX.out
   rw [List.length_cons] at h
   omega
 have hplb := (par_len nd la).1
 have c1 : ¬ (9223372036854775807 < 1 + (par nd la).length) := by omega
 have hla9 : la.length ≤ 20000 := by omega
 have HND := Lib.hid hnd2
 clear hnd2
 have HLA := Lib.hid (show (txt f T.a).length ≤ 20000 by rw [← hla]; omega)
 have HQA := Lib.hid hla
 clear hla hL hin hg hl ih hx ex hga hT hTa hl1 hnd hTk hTn hxh
 obtain ⟨⟨kd, n, d, nm, k⟩, A, len, cap⟩ := v
 simp only at hk hA hlen HOK HTX
 subst hA hlen
 subst hk
 simp only [Nd.val]
 cases cs : sumK x.h.kind with
 | false =>
  cases cp : prodK x.h.kind with
  | false =>
   cases cb : brok x.h with
   | false =>
    cases cw : (whl x.h && decide (0 ≤ x.h.n)) with
    | false =>
     have HN2 := Lib.hid (show nd = false by rw [HND.out]; unfold needM; rw [cs, cp, cb, cw]; rfl)
     rw [HN2.out] at c1 HTX hplb
     have Hcs := Lib.hid cs
     have Hcp := Lib.hid cp
     have Hcb := Lib.hid cb
     have Hcw := Lib.hid cw
     clear cs cp cb cw
     go_enter Tryz.func27, Tryz.ntmps27
     go_upto_region 1 with (fail)
     obtain ⟨w1, hw⟩ : ∃ z9 : World, z9 = w.alloc (.cells #[.int .i64 7, .int .i64 n, .int .i64 d, .string nm, .int .i64 k, .slice (some ⟨b, o, none⟩) 1 cap] 51) := ⟨_, rfl⟩
     have HB1 := Lib.hid (show Below w.heap.size w w1 by rw [hw]; exact below_box _ _)
     have F1bx := Lib.hid (show Blk w1 w.heap.size 51 #[.int .i64 7, .int .i64 n, .int .i64 d, .string nm, .int .i64 k, .slice (some ⟨b, o, none⟩) 1 cap] by rw [hw]; exact Blk.new _ _ _)
     rw [← hw]
     clear hw
     have F1i0 := Lib.hid (HX.out.belowW HB1.out)
     have F1e0 := Lib.hid (EX.out.belowW HB1.out)
     obtain ⟨pb0, pb1, pb2, pb3, pb4, pb5⟩ := F1bx.out.cs6
     have el0 : w1.cell? ⟨b, o, none⟩ = some (.int .i64 x.h.kind) := F1e0.out.c0
     have el1 : w1.cell? ⟨b, o + 1, none⟩ = some (.int .i64 x.h.n) := F1e0.out.c1
     have el2 : w1.cell? ⟨b, o + 2, none⟩ = some (.int .i64 x.h.d) := F1e0.out.c2
     have el3 : w1.cell? ⟨b, o + 3, none⟩ = some (.string x.h.name) := F1e0.out.c3
     have el4 : w1.cell? ⟨b, o + 4, none⟩ = some (.int .i64 x.h.k) := F1e0.out.c4
     have el5 : w1.cell? ⟨b, o + 5, none⟩ = some (.slice x.A x.len x.cap) := F1e0.out.c5
     go_upto_region 7 with (fail)
     clear pb0 pb1 pb2 pb3 pb4 pb5 el0 el1 el2 el3 el4 el5
     obtain ⟨w2, hw⟩ : ∃ z9 : World, z9 = w1.alloc (.cells #[.int .i64 x.h.kind, .int .i64 x.h.n, .int .i64 x.h.d, .string x.h.name, .int .i64 x.h.k, .slice x.A x.len x.cap] 51) := ⟨_, rfl⟩
     have HB2 := Lib.hid (show Below w1.heap.size w1 w2 by rw [hw]; exact below_box _ _)
     have F2ba := Lib.hid (show Blk w2 w1.heap.size 51 #[.int .i64 x.h.kind, .int .i64 x.h.n, .int .i64 x.h.d, .string x.h.name, .int .i64 x.h.k, .slice x.A x.len x.cap] by rw [hw]; exact Blk.new _ _ _)
     rw [← hw]
     clear hw
     have F2i0 := Lib.hid (F1i0.out.belowW HB2.out)
     have F2e0 := Lib.hid (F1e0.out.belowW HB2.out)
     have F2bx := Lib.hid (F1bx.out.belowW HB2.out)
     have HL2 := Lib.hid (HB1.out.trans (HB2.out.mono HB1.out.size))
     obtain ⟨pb0, pb1, pb2, pb3, pb4, pb5⟩ := F2bx.out.cs6
     obtain ⟨qa0, qa1, qa2, qa3, qa4, qa5⟩ := F2ba.out.cs6
     go_wp2_with fail
     refine (tx_go IH.out T.a x w2 F2i0.out HGA.out HLA.out).mono ?_
     rintro e w3 ⟨S1, rfl, HS1, HB3⟩
     clear pb0 pb1 pb2 pb3 pb4 pb5 qa0 qa1 qa2 qa3 qa4 qa5
     have F3i0 := Lib.hid (F2i0.out.belowW HB3.out)
     have F3e0 := Lib.hid (F2e0.out.belowW HB3.out)
     have F3bx := Lib.hid (F2bx.out.belowW HB3.out)
     have F3ba := Lib.hid (F2ba.out.belowW HB3.out)
     have HL3 := Lib.hid (HL2.out.trans (HB3.out.mono HL2.out.size))
     have hS1 : S1.size = la.length := by rw [strp_size HS1.out, HQA.out]
     have HT1 := Lib.hid (show S1.data.toList = la from HS1.out.trans HQA.out.symm)
     obtain ⟨pb0, pb1, pb2, pb3, pb4, pb5⟩ := F3bx.out.cs6
     obtain ⟨qa0, qa1, qa2, qa3, qa4, qa5⟩ := F3ba.out.cs6
     go_wp2_with fail
     refine (sum_r x w3).mono ?_
     rw [Hcs.out]
     rintro e w4 ⟨rfl, HB4⟩
     clear pb0 pb1 pb2 pb3 pb4 pb5 qa0 qa1 qa2 qa3 qa4 qa5
     have F4i0 := Lib.hid (F3i0.out.belowW HB4.out)
     have F4e0 := Lib.hid (F3e0.out.belowW HB4.out)
     have F4bx := Lib.hid (F3bx.out.belowW HB4.out)
     have F4ba := Lib.hid (F3ba.out.belowW HB4.out)
     have HL4 := Lib.hid (HL3.out.trans (HB4.out.mono HL3.out.size))
     obtain ⟨pb0, pb1, pb2, pb3, pb4, pb5⟩ := F4bx.out.cs6
     obtain ⟨qa0, qa1, qa2, qa3, qa4, qa5⟩ := F4ba.out.cs6
     go_wp2_with fail
     refine (prod_r x w4).mono ?_
     rw [Hcp.out]
     rintro e w5 ⟨rfl, HB5⟩
     clear pb0 pb1 pb2 pb3 pb4 pb5 qa0 qa1 qa2 qa3 qa4 qa5
     have F5i0 := Lib.hid (F4i0.out.belowW HB5.out)
     have F5e0 := Lib.hid (F4e0.out.belowW HB5.out)
     have F5bx := Lib.hid (F4bx.out.belowW HB5.out)
     have F5ba := Lib.hid (F4ba.out.belowW HB5.out)
     have HL5 := Lib.hid (HL4.out.trans (HB5.out.mono HL4.out.size))
     obtain ⟨pb0, pb1, pb2, pb3, pb4, pb5⟩ := F5bx.out.cs6
     obtain ⟨qa0, qa1, qa2, qa3, qa4, qa5⟩ := F5ba.out.cs6
     go_wp2_with fail
     refine (brok_r x w5).mono ?_
     rw [Hcb.out]
     rintro e w6 ⟨rfl, HB6⟩
     clear pb0 pb1 pb2 pb3 pb4 pb5 qa0 qa1 qa2 qa3 qa4 qa5
     have F6i0 := Lib.hid (F5i0.out.belowW HB6.out)
     have F6e0 := Lib.hid (F5e0.out.belowW HB6.out)
     have F6bx := Lib.hid (F5bx.out.belowW HB6.out)
     have F6ba := Lib.hid (F5ba.out.belowW HB6.out)
     have HL6 := Lib.hid (HL5.out.trans (HB6.out.mono HL5.out.size))
     obtain ⟨pb0, pb1, pb2, pb3, pb4, pb5⟩ := F6bx.out.cs6
     obtain ⟨qa0, qa1, qa2, qa3, qa4, qa5⟩ := F6ba.out.cs6
     go_wp2_with fail
     refine (whl_r x w6).mono ?_
     rw [Hcw.out]
     rintro e w7 ⟨rfl, HB7⟩
     clear pb0 pb1 pb2 pb3 pb4 pb5 qa0 qa1 qa2 qa3 qa4 qa5
     have F7i0 := Lib.hid (F6i0.out.belowW HB7.out)
     have F7e0 := Lib.hid (F6e0.out.belowW HB7.out)
     have F7bx := Lib.hid (F6bx.out.belowW HB7.out)
     have F7ba := Lib.hid (F6ba.out.belowW HB7.out)
     have HL7 := Lib.hid (HL6.out.trans (HB7.out.mono HL6.out.size))
     obtain ⟨pb0, pb1, pb2, pb3, pb4, pb5⟩ := F7bx.out.cs6
     obtain ⟨qa0, qa1, qa2, qa3, qa4, qa5⟩ := F7ba.out.cs6
     go_wp2_with fail
     refine (wrap_r S1 false w7 la HT1.out hla9).mono ?_
     rintro e w8 ⟨S2, rfl, HS2, HB8⟩
     clear pb0 pb1 pb2 pb3 pb4 pb5 qa0 qa1 qa2 qa3 qa4 qa5
     have F8i0 := Lib.hid (F7i0.out.belowW HB8.out)
     have F8e0 := Lib.hid (F7e0.out.belowW HB8.out)
     have F8bx := Lib.hid (F7bx.out.belowW HB8.out)
     have F8ba := Lib.hid (F7ba.out.belowW HB8.out)
     have HL8 := Lib.hid (HL7.out.trans (HB8.out.mono HL7.out.size))
     have hS2 : S2.size = (par false la).length := strp_size HS2.out
     obtain ⟨pb0, pb1, pb2, pb3, pb4, pb5⟩ := F8bx.out.cs6
     obtain ⟨qa0, qa1, qa2, qa3, qa4, qa5⟩ := F8ba.out.cs6
     go_wp2_with fail
     go_ret
     exact ⟨_, rfl, Lib.hid (by rw [data_app, HS2.out, HTX.out]; rfl), HL8⟩
    | true =>
     have HN2 := Lib.hid (show nd = true by rw [HND.out]; unfold needM; rw [cs, cp, cb, cw]; rfl)
     rw [HN2.out] at c1 HTX hplb
     have Hcs := Lib.hid cs
     have Hcp := Lib.hid cp
     have Hcb := Lib.hid cb
     have Hcw := Lib.hid cw
     clear cs cp cb cw
     go_enter Tryz.func27, Tryz.ntmps27
     go_upto_region 1 with (fail)
     obtain ⟨w1, hw⟩ : ∃ z9 : World, z9 = w.alloc (.cells #[.int .i64 7, .int .i64 n, .int .i64 d, .string nm, .int .i64 k, .slice (some ⟨b, o, none⟩) 1 cap] 51) := ⟨_, rfl⟩
     have HB1 := Lib.hid (show Below w.heap.size w w1 by rw [hw]; exact below_box _ _)
     have F1bx := Lib.hid (show Blk w1 w.heap.size 51 #[.int .i64 7, .int .i64 n, .int .i64 d, .string nm, .int .i64 k, .slice (some ⟨b, o, none⟩) 1 cap] by rw [hw]; exact Blk.new _ _ _)
     rw [← hw]
     clear hw
     have F1i0 := Lib.hid (HX.out.belowW HB1.out)
     have F1e0 := Lib.hid (EX.out.belowW HB1.out)
     obtain ⟨pb0, pb1, pb2, pb3, pb4, pb5⟩ := F1bx.out.cs6
     have el0 : w1.cell? ⟨b, o, none⟩ = some (.int .i64 x.h.kind) := F1e0.out.c0
     have el1 : w1.cell? ⟨b, o + 1, none⟩ = some (.int .i64 x.h.n) := F1e0.out.c1
     have el2 : w1.cell? ⟨b, o + 2, none⟩ = some (.int .i64 x.h.d) := F1e0.out.c2
     have el3 : w1.cell? ⟨b, o + 3, none⟩ = some (.string x.h.name) := F1e0.out.c3
     have el4 : w1.cell? ⟨b, o + 4, none⟩ = some (.int .i64 x.h.k) := F1e0.out.c4
     have el5 : w1.cell? ⟨b, o + 5, none⟩ = some (.slice x.A x.len x.cap) := F1e0.out.c5
     go_upto_region 7 with (fail)
     clear pb0 pb1 pb2 pb3 pb4 pb5 el0 el1 el2 el3 el4 el5
     obtain ⟨w2, hw⟩ : ∃ z9 : World, z9 = w1.alloc (.cells #[.int .i64 x.h.kind, .int .i64 x.h.n, .int .i64 x.h.d, .string x.h.name, .int .i64 x.h.k, .slice x.A x.len x.cap] 51) := ⟨_, rfl⟩
     have HB2 := Lib.hid (show Below w1.heap.size w1 w2 by rw [hw]; exact below_box _ _)
     have F2ba := Lib.hid (show Blk w2 w1.heap.size 51 #[.int .i64 x.h.kind, .int .i64 x.h.n, .int .i64 x.h.d, .string x.h.name, .int .i64 x.h.k, .slice x.A x.len x.cap] by rw [hw]; exact Blk.new _ _ _)
     rw [← hw]
     clear hw
     have F2i0 := Lib.hid (F1i0.out.belowW HB2.out)
     have F2e0 := Lib.hid (F1e0.out.belowW HB2.out)
     have F2bx := Lib.hid (F1bx.out.belowW HB2.out)
     have HL2 := Lib.hid (HB1.out.trans (HB2.out.mono HB1.out.size))
     obtain ⟨pb0, pb1, pb2, pb3, pb4, pb5⟩ := F2bx.out.cs6
     obtain ⟨qa0, qa1, qa2, qa3, qa4, qa5⟩ := F2ba.out.cs6
     go_wp2_with fail
     refine (tx_go IH.out T.a x w2 F2i0.out HGA.out HLA.out).mono ?_
     rintro e w3 ⟨S1, rfl, HS1, HB3⟩
     clear pb0 pb1 pb2 pb3 pb4 pb5 qa0 qa1 qa2 qa3 qa4 qa5
     have F3i0 := Lib.hid (F2i0.out.belowW HB3.out)
     have F3e0 := Lib.hid (F2e0.out.belowW HB3.out)
     have F3bx := Lib.hid (F2bx.out.belowW HB3.out)
     have F3ba := Lib.hid (F2ba.out.belowW HB3.out)
     have HL3 := Lib.hid (HL2.out.trans (HB3.out.mono HL2.out.size))
     have hS1 : S1.size = la.length := by rw [strp_size HS1.out, HQA.out]
     have HT1 := Lib.hid (show S1.data.toList = la from HS1.out.trans HQA.out.symm)
     obtain ⟨pb0, pb1, pb2, pb3, pb4, pb5⟩ := F3bx.out.cs6
     obtain ⟨qa0, qa1, qa2, qa3, qa4, qa5⟩ := F3ba.out.cs6
     go_wp2_with fail
     refine (sum_r x w3).mono ?_
     rw [Hcs.out]
     rintro e w4 ⟨rfl, HB4⟩
     clear pb0 pb1 pb2 pb3 pb4 pb5 qa0 qa1 qa2 qa3 qa4 qa5
     have F4i0 := Lib.hid (F3i0.out.belowW HB4.out)
     have F4e0 := Lib.hid (F3e0.out.belowW HB4.out)
     have F4bx := Lib.hid (F3bx.out.belowW HB4.out)
     have F4ba := Lib.hid (F3ba.out.belowW HB4.out)
     have HL4 := Lib.hid (HL3.out.trans (HB4.out.mono HL3.out.size))
     obtain ⟨pb0, pb1, pb2, pb3, pb4, pb5⟩ := F4bx.out.cs6
     obtain ⟨qa0, qa1, qa2, qa3, qa4, qa5⟩ := F4ba.out.cs6
     go_wp2_with fail
     refine (prod_r x w4).mono ?_
     rw [Hcp.out]
     rintro e w5 ⟨rfl, HB5⟩
     clear pb0 pb1 pb2 pb3 pb4 pb5 qa0 qa1 qa2 qa3 qa4 qa5
     have F5i0 := Lib.hid (F4i0.out.belowW HB5.out)
     have F5e0 := Lib.hid (F4e0.out.belowW HB5.out)
     have F5bx := Lib.hid (F4bx.out.belowW HB5.out)
     have F5ba := Lib.hid (F4ba.out.belowW HB5.out)
     have HL5 := Lib.hid (HL4.out.trans (HB5.out.mono HL4.out.size))
     obtain ⟨pb0, pb1, pb2, pb3, pb4, pb5⟩ := F5bx.out.cs6
     obtain ⟨qa0, qa1, qa2, qa3, qa4, qa5⟩ := F5ba.out.cs6
     go_wp2_with fail
     refine (brok_r x w5).mono ?_
     rw [Hcb.out]
     rintro e w6 ⟨rfl, HB6⟩
     clear pb0 pb1 pb2 pb3 pb4 pb5 qa0 qa1 qa2 qa3 qa4 qa5
     have F6i0 := Lib.hid (F5i0.out.belowW HB6.out)
     have F6e0 := Lib.hid (F5e0.out.belowW HB6.out)
     have F6bx := Lib.hid (F5bx.out.belowW HB6.out)
     have F6ba := Lib.hid (F5ba.out.belowW HB6.out)
     have HL6 := Lib.hid (HL5.out.trans (HB6.out.mono HL5.out.size))
     obtain ⟨pb0, pb1, pb2, pb3, pb4, pb5⟩ := F6bx.out.cs6
     obtain ⟨qa0, qa1, qa2, qa3, qa4, qa5⟩ := F6ba.out.cs6
     go_wp2_with fail
     refine (whl_r x w6).mono ?_
     rw [Hcw.out]
     rintro e w7 ⟨rfl, HB7⟩
     clear pb0 pb1 pb2 pb3 pb4 pb5 qa0 qa1 qa2 qa3 qa4 qa5
     have F7i0 := Lib.hid (F6i0.out.belowW HB7.out)
     have F7e0 := Lib.hid (F6e0.out.belowW HB7.out)
     have F7bx := Lib.hid (F6bx.out.belowW HB7.out)
     have F7ba := Lib.hid (F6ba.out.belowW HB7.out)
     have HL7 := Lib.hid (HL6.out.trans (HB7.out.mono HL6.out.size))
     obtain ⟨pb0, pb1, pb2, pb3, pb4, pb5⟩ := F7bx.out.cs6
     obtain ⟨qa0, qa1, qa2, qa3, qa4, qa5⟩ := F7ba.out.cs6
     go_wp2_with fail
     refine (wrap_r S1 true w7 la HT1.out hla9).mono ?_
     rintro e w8 ⟨S2, rfl, HS2, HB8⟩
     clear pb0 pb1 pb2 pb3 pb4 pb5 qa0 qa1 qa2 qa3 qa4 qa5
     have F8i0 := Lib.hid (F7i0.out.belowW HB8.out)
     have F8e0 := Lib.hid (F7e0.out.belowW HB8.out)
     have F8bx := Lib.hid (F7bx.out.belowW HB8.out)
     have F8ba := Lib.hid (F7ba.out.belowW HB8.out)
     have HL8 := Lib.hid (HL7.out.trans (HB8.out.mono HL7.out.size))
     have hS2 : S2.size = (par true la).length := strp_size HS2.out
     obtain ⟨pb0, pb1, pb2, pb3, pb4, pb5⟩ := F8bx.out.cs6
     obtain ⟨qa0, qa1, qa2, qa3, qa4, qa5⟩ := F8ba.out.cs6
     go_wp2_with fail
     go_ret
     exact ⟨_, rfl, Lib.hid (by rw [data_app, HS2.out, HTX.out]; rfl), HL8⟩
   | true =>
    have HN2 := Lib.hid (show nd = true by rw [HND.out]; unfold needM; rw [cs, cp, cb]; rfl)
    rw [HN2.out] at c1 HTX hplb
    have Hcs := Lib.hid cs
    have Hcp := Lib.hid cp
    have Hcb := Lib.hid cb
    clear cs cp cb
    go_enter Tryz.func27, Tryz.ntmps27
    go_upto_region 1 with (fail)
    obtain ⟨w1, hw⟩ : ∃ z9 : World, z9 = w.alloc (.cells #[.int .i64 7, .int .i64 n, .int .i64 d, .string nm, .int .i64 k, .slice (some ⟨b, o, none⟩) 1 cap] 51) := ⟨_, rfl⟩
    have HB1 := Lib.hid (show Below w.heap.size w w1 by rw [hw]; exact below_box _ _)
    have F1bx := Lib.hid (show Blk w1 w.heap.size 51 #[.int .i64 7, .int .i64 n, .int .i64 d, .string nm, .int .i64 k, .slice (some ⟨b, o, none⟩) 1 cap] by rw [hw]; exact Blk.new _ _ _)
    rw [← hw]
    clear hw
    have F1i0 := Lib.hid (HX.out.belowW HB1.out)
    have F1e0 := Lib.hid (EX.out.belowW HB1.out)
    obtain ⟨pb0, pb1, pb2, pb3, pb4, pb5⟩ := F1bx.out.cs6
    have el0 : w1.cell? ⟨b, o, none⟩ = some (.int .i64 x.h.kind) := F1e0.out.c0
    have el1 : w1.cell? ⟨b, o + 1, none⟩ = some (.int .i64 x.h.n) := F1e0.out.c1
    have el2 : w1.cell? ⟨b, o + 2, none⟩ = some (.int .i64 x.h.d) := F1e0.out.c2
    have el3 : w1.cell? ⟨b, o + 3, none⟩ = some (.string x.h.name) := F1e0.out.c3
    have el4 : w1.cell? ⟨b, o + 4, none⟩ = some (.int .i64 x.h.k) := F1e0.out.c4
    have el5 : w1.cell? ⟨b, o + 5, none⟩ = some (.slice x.A x.len x.cap) := F1e0.out.c5
    go_upto_region 7 with (fail)
    clear pb0 pb1 pb2 pb3 pb4 pb5 el0 el1 el2 el3 el4 el5
    obtain ⟨w2, hw⟩ : ∃ z9 : World, z9 = w1.alloc (.cells #[.int .i64 x.h.kind, .int .i64 x.h.n, .int .i64 x.h.d, .string x.h.name, .int .i64 x.h.k, .slice x.A x.len x.cap] 51) := ⟨_, rfl⟩
    have HB2 := Lib.hid (show Below w1.heap.size w1 w2 by rw [hw]; exact below_box _ _)
    have F2ba := Lib.hid (show Blk w2 w1.heap.size 51 #[.int .i64 x.h.kind, .int .i64 x.h.n, .int .i64 x.h.d, .string x.h.name, .int .i64 x.h.k, .slice x.A x.len x.cap] by rw [hw]; exact Blk.new _ _ _)
    rw [← hw]
    clear hw
    have F2i0 := Lib.hid (F1i0.out.belowW HB2.out)
    have F2e0 := Lib.hid (F1e0.out.belowW HB2.out)
    have F2bx := Lib.hid (F1bx.out.belowW HB2.out)
    have HL2 := Lib.hid (HB1.out.trans (HB2.out.mono HB1.out.size))
    obtain ⟨pb0, pb1, pb2, pb3, pb4, pb5⟩ := F2bx.out.cs6
    obtain ⟨qa0, qa1, qa2, qa3, qa4, qa5⟩ := F2ba.out.cs6
    go_wp2_with fail
    refine (tx_go IH.out T.a x w2 F2i0.out HGA.out HLA.out).mono ?_
    rintro e w3 ⟨S1, rfl, HS1, HB3⟩
    clear pb0 pb1 pb2 pb3 pb4 pb5 qa0 qa1 qa2 qa3 qa4 qa5
    have F3i0 := Lib.hid (F2i0.out.belowW HB3.out)
    have F3e0 := Lib.hid (F2e0.out.belowW HB3.out)
    have F3bx := Lib.hid (F2bx.out.belowW HB3.out)
    have F3ba := Lib.hid (F2ba.out.belowW HB3.out)
    have HL3 := Lib.hid (HL2.out.trans (HB3.out.mono HL2.out.size))
    have hS1 : S1.size = la.length := by rw [strp_size HS1.out, HQA.out]
    have HT1 := Lib.hid (show S1.data.toList = la from HS1.out.trans HQA.out.symm)
    obtain ⟨pb0, pb1, pb2, pb3, pb4, pb5⟩ := F3bx.out.cs6
    obtain ⟨qa0, qa1, qa2, qa3, qa4, qa5⟩ := F3ba.out.cs6
    go_wp2_with fail
    refine (sum_r x w3).mono ?_
    rw [Hcs.out]
    rintro e w4 ⟨rfl, HB4⟩
    clear pb0 pb1 pb2 pb3 pb4 pb5 qa0 qa1 qa2 qa3 qa4 qa5
    have F4i0 := Lib.hid (F3i0.out.belowW HB4.out)
    have F4e0 := Lib.hid (F3e0.out.belowW HB4.out)
    have F4bx := Lib.hid (F3bx.out.belowW HB4.out)
    have F4ba := Lib.hid (F3ba.out.belowW HB4.out)
    have HL4 := Lib.hid (HL3.out.trans (HB4.out.mono HL3.out.size))
    obtain ⟨pb0, pb1, pb2, pb3, pb4, pb5⟩ := F4bx.out.cs6
    obtain ⟨qa0, qa1, qa2, qa3, qa4, qa5⟩ := F4ba.out.cs6
    go_wp2_with fail
    refine (prod_r x w4).mono ?_
    rw [Hcp.out]
    rintro e w5 ⟨rfl, HB5⟩
    clear pb0 pb1 pb2 pb3 pb4 pb5 qa0 qa1 qa2 qa3 qa4 qa5
    have F5i0 := Lib.hid (F4i0.out.belowW HB5.out)
    have F5e0 := Lib.hid (F4e0.out.belowW HB5.out)
    have F5bx := Lib.hid (F4bx.out.belowW HB5.out)
    have F5ba := Lib.hid (F4ba.out.belowW HB5.out)
    have HL5 := Lib.hid (HL4.out.trans (HB5.out.mono HL4.out.size))
    obtain ⟨pb0, pb1, pb2, pb3, pb4, pb5⟩ := F5bx.out.cs6
    obtain ⟨qa0, qa1, qa2, qa3, qa4, qa5⟩ := F5ba.out.cs6
    go_wp2_with fail
    refine (brok_r x w5).mono ?_
    rw [Hcb.out]
    rintro e w6 ⟨rfl, HB6⟩
    clear pb0 pb1 pb2 pb3 pb4 pb5 qa0 qa1 qa2 qa3 qa4 qa5
    have F6i0 := Lib.hid (F5i0.out.belowW HB6.out)
    have F6e0 := Lib.hid (F5e0.out.belowW HB6.out)
    have F6bx := Lib.hid (F5bx.out.belowW HB6.out)
    have F6ba := Lib.hid (F5ba.out.belowW HB6.out)
    have HL6 := Lib.hid (HL5.out.trans (HB6.out.mono HL5.out.size))
    obtain ⟨pb0, pb1, pb2, pb3, pb4, pb5⟩ := F6bx.out.cs6
    obtain ⟨qa0, qa1, qa2, qa3, qa4, qa5⟩ := F6ba.out.cs6
    go_wp2_with fail
    refine (wrap_r S1 true w6 la HT1.out hla9).mono ?_
    rintro e w7 ⟨S2, rfl, HS2, HB7⟩
    clear pb0 pb1 pb2 pb3 pb4 pb5 qa0 qa1 qa2 qa3 qa4 qa5
    have F7i0 := Lib.hid (F6i0.out.belowW HB7.out)
    have F7e0 := Lib.hid (F6e0.out.belowW HB7.out)
    have F7bx := Lib.hid (F6bx.out.belowW HB7.out)
    have F7ba := Lib.hid (F6ba.out.belowW HB7.out)
    have HL7 := Lib.hid (HL6.out.trans (HB7.out.mono HL6.out.size))
    have hS2 : S2.size = (par true la).length := strp_size HS2.out
    obtain ⟨pb0, pb1, pb2, pb3, pb4, pb5⟩ := F7bx.out.cs6
    obtain ⟨qa0, qa1, qa2, qa3, qa4, qa5⟩ := F7ba.out.cs6
    go_wp2_with fail
    go_ret
    exact ⟨_, rfl, Lib.hid (by rw [data_app, HS2.out, HTX.out]; rfl), HL7⟩
  | true =>
   have HN2 := Lib.hid (show nd = true by rw [HND.out]; unfold needM; rw [cs, cp]; rfl)
   rw [HN2.out] at c1 HTX hplb
   have Hcs := Lib.hid cs
   have Hcp := Lib.hid cp
   clear cs cp
   go_enter Tryz.func27, Tryz.ntmps27
   go_upto_region 1 with (fail)
   obtain ⟨w1, hw⟩ : ∃ z9 : World, z9 = w.alloc (.cells #[.int .i64 7, .int .i64 n, .int .i64 d, .string nm, .int .i64 k, .slice (some ⟨b, o, none⟩) 1 cap] 51) := ⟨_, rfl⟩
   have HB1 := Lib.hid (show Below w.heap.size w w1 by rw [hw]; exact below_box _ _)
   have F1bx := Lib.hid (show Blk w1 w.heap.size 51 #[.int .i64 7, .int .i64 n, .int .i64 d, .string nm, .int .i64 k, .slice (some ⟨b, o, none⟩) 1 cap] by rw [hw]; exact Blk.new _ _ _)
   rw [← hw]
   clear hw
   have F1i0 := Lib.hid (HX.out.belowW HB1.out)
   have F1e0 := Lib.hid (EX.out.belowW HB1.out)
   obtain ⟨pb0, pb1, pb2, pb3, pb4, pb5⟩ := F1bx.out.cs6
   have el0 : w1.cell? ⟨b, o, none⟩ = some (.int .i64 x.h.kind) := F1e0.out.c0
   have el1 : w1.cell? ⟨b, o + 1, none⟩ = some (.int .i64 x.h.n) := F1e0.out.c1
   have el2 : w1.cell? ⟨b, o + 2, none⟩ = some (.int .i64 x.h.d) := F1e0.out.c2
   have el3 : w1.cell? ⟨b, o + 3, none⟩ = some (.string x.h.name) := F1e0.out.c3
   have el4 : w1.cell? ⟨b, o + 4, none⟩ = some (.int .i64 x.h.k) := F1e0.out.c4
   have el5 : w1.cell? ⟨b, o + 5, none⟩ = some (.slice x.A x.len x.cap) := F1e0.out.c5
   go_upto_region 7 with (fail)
   clear pb0 pb1 pb2 pb3 pb4 pb5 el0 el1 el2 el3 el4 el5
   obtain ⟨w2, hw⟩ : ∃ z9 : World, z9 = w1.alloc (.cells #[.int .i64 x.h.kind, .int .i64 x.h.n, .int .i64 x.h.d, .string x.h.name, .int .i64 x.h.k, .slice x.A x.len x.cap] 51) := ⟨_, rfl⟩
   have HB2 := Lib.hid (show Below w1.heap.size w1 w2 by rw [hw]; exact below_box _ _)
   have F2ba := Lib.hid (show Blk w2 w1.heap.size 51 #[.int .i64 x.h.kind, .int .i64 x.h.n, .int .i64 x.h.d, .string x.h.name, .int .i64 x.h.k, .slice x.A x.len x.cap] by rw [hw]; exact Blk.new _ _ _)
   rw [← hw]
   clear hw
   have F2i0 := Lib.hid (F1i0.out.belowW HB2.out)
   have F2e0 := Lib.hid (F1e0.out.belowW HB2.out)
   have F2bx := Lib.hid (F1bx.out.belowW HB2.out)
   have HL2 := Lib.hid (HB1.out.trans (HB2.out.mono HB1.out.size))
   obtain ⟨pb0, pb1, pb2, pb3, pb4, pb5⟩ := F2bx.out.cs6
   obtain ⟨qa0, qa1, qa2, qa3, qa4, qa5⟩ := F2ba.out.cs6
   go_wp2_with fail
   refine (tx_go IH.out T.a x w2 F2i0.out HGA.out HLA.out).mono ?_
   rintro e w3 ⟨S1, rfl, HS1, HB3⟩
   clear pb0 pb1 pb2 pb3 pb4 pb5 qa0 qa1 qa2 qa3 qa4 qa5
   have F3i0 := Lib.hid (F2i0.out.belowW HB3.out)
   have F3e0 := Lib.hid (F2e0.out.belowW HB3.out)
   have F3bx := Lib.hid (F2bx.out.belowW HB3.out)
   have F3ba := Lib.hid (F2ba.out.belowW HB3.out)
   have HL3 := Lib.hid (HL2.out.trans (HB3.out.mono HL2.out.size))
   have hS1 : S1.size = la.length := by rw [strp_size HS1.out, HQA.out]
   have HT1 := Lib.hid (show S1.data.toList = la from HS1.out.trans HQA.out.symm)
   obtain ⟨pb0, pb1, pb2, pb3, pb4, pb5⟩ := F3bx.out.cs6
   obtain ⟨qa0, qa1, qa2, qa3, qa4, qa5⟩ := F3ba.out.cs6
   go_wp2_with fail
   refine (sum_r x w3).mono ?_
   rw [Hcs.out]
   rintro e w4 ⟨rfl, HB4⟩
   clear pb0 pb1 pb2 pb3 pb4 pb5 qa0 qa1 qa2 qa3 qa4 qa5
   have F4i0 := Lib.hid (F3i0.out.belowW HB4.out)
   have F4e0 := Lib.hid (F3e0.out.belowW HB4.out)
   have F4bx := Lib.hid (F3bx.out.belowW HB4.out)
   have F4ba := Lib.hid (F3ba.out.belowW HB4.out)
   have HL4 := Lib.hid (HL3.out.trans (HB4.out.mono HL3.out.size))
   obtain ⟨pb0, pb1, pb2, pb3, pb4, pb5⟩ := F4bx.out.cs6
   obtain ⟨qa0, qa1, qa2, qa3, qa4, qa5⟩ := F4ba.out.cs6
   go_wp2_with fail
   refine (prod_r x w4).mono ?_
   rw [Hcp.out]
   rintro e w5 ⟨rfl, HB5⟩
   clear pb0 pb1 pb2 pb3 pb4 pb5 qa0 qa1 qa2 qa3 qa4 qa5
   have F5i0 := Lib.hid (F4i0.out.belowW HB5.out)
   have F5e0 := Lib.hid (F4e0.out.belowW HB5.out)
   have F5bx := Lib.hid (F4bx.out.belowW HB5.out)
   have F5ba := Lib.hid (F4ba.out.belowW HB5.out)
   have HL5 := Lib.hid (HL4.out.trans (HB5.out.mono HL4.out.size))
   obtain ⟨pb0, pb1, pb2, pb3, pb4, pb5⟩ := F5bx.out.cs6
   obtain ⟨qa0, qa1, qa2, qa3, qa4, qa5⟩ := F5ba.out.cs6
   go_wp2_with fail
   refine (wrap_r S1 true w5 la HT1.out hla9).mono ?_
   rintro e w6 ⟨S2, rfl, HS2, HB6⟩
   clear pb0 pb1 pb2 pb3 pb4 pb5 qa0 qa1 qa2 qa3 qa4 qa5
   have F6i0 := Lib.hid (F5i0.out.belowW HB6.out)
   have F6e0 := Lib.hid (F5e0.out.belowW HB6.out)
   have F6bx := Lib.hid (F5bx.out.belowW HB6.out)
   have F6ba := Lib.hid (F5ba.out.belowW HB6.out)
   have HL6 := Lib.hid (HL5.out.trans (HB6.out.mono HL5.out.size))
   have hS2 : S2.size = (par true la).length := strp_size HS2.out
   obtain ⟨pb0, pb1, pb2, pb3, pb4, pb5⟩ := F6bx.out.cs6
   obtain ⟨qa0, qa1, qa2, qa3, qa4, qa5⟩ := F6ba.out.cs6
   go_wp2_with fail
   go_ret
   exact ⟨_, rfl, Lib.hid (by rw [data_app, HS2.out, HTX.out]; rfl), HL6⟩
 | true =>
  have HN2 := Lib.hid (show nd = true by rw [HND.out]; unfold needM; rw [cs]; rfl)
  rw [HN2.out] at c1 HTX hplb
  have Hcs := Lib.hid cs
  clear cs
  go_enter Tryz.func27, Tryz.ntmps27
  go_upto_region 1 with (fail)
  obtain ⟨w1, hw⟩ : ∃ z9 : World, z9 = w.alloc (.cells #[.int .i64 7, .int .i64 n, .int .i64 d, .string nm, .int .i64 k, .slice (some ⟨b, o, none⟩) 1 cap] 51) := ⟨_, rfl⟩
  have HB1 := Lib.hid (show Below w.heap.size w w1 by rw [hw]; exact below_box _ _)
  have F1bx := Lib.hid (show Blk w1 w.heap.size 51 #[.int .i64 7, .int .i64 n, .int .i64 d, .string nm, .int .i64 k, .slice (some ⟨b, o, none⟩) 1 cap] by rw [hw]; exact Blk.new _ _ _)
  rw [← hw]
  clear hw
  have F1i0 := Lib.hid (HX.out.belowW HB1.out)
  have F1e0 := Lib.hid (EX.out.belowW HB1.out)
  obtain ⟨pb0, pb1, pb2, pb3, pb4, pb5⟩ := F1bx.out.cs6
  have el0 : w1.cell? ⟨b, o, none⟩ = some (.int .i64 x.h.kind) := F1e0.out.c0
  have el1 : w1.cell? ⟨b, o + 1, none⟩ = some (.int .i64 x.h.n) := F1e0.out.c1
  have el2 : w1.cell? ⟨b, o + 2, none⟩ = some (.int .i64 x.h.d) := F1e0.out.c2
  have el3 : w1.cell? ⟨b, o + 3, none⟩ = some (.string x.h.name) := F1e0.out.c3
  have el4 : w1.cell? ⟨b, o + 4, none⟩ = some (.int .i64 x.h.k) := F1e0.out.c4
  have el5 : w1.cell? ⟨b, o + 5, none⟩ = some (.slice x.A x.len x.cap) := F1e0.out.c5
  go_upto_region 7 with (fail)
  clear pb0 pb1 pb2 pb3 pb4 pb5 el0 el1 el2 el3 el4 el5
  obtain ⟨w2, hw⟩ : ∃ z9 : World, z9 = w1.alloc (.cells #[.int .i64 x.h.kind, .int .i64 x.h.n, .int .i64 x.h.d, .string x.h.name, .int .i64 x.h.k, .slice x.A x.len x.cap] 51) := ⟨_, rfl⟩
  have HB2 := Lib.hid (show Below w1.heap.size w1 w2 by rw [hw]; exact below_box _ _)
  have F2ba := Lib.hid (show Blk w2 w1.heap.size 51 #[.int .i64 x.h.kind, .int .i64 x.h.n, .int .i64 x.h.d, .string x.h.name, .int .i64 x.h.k, .slice x.A x.len x.cap] by rw [hw]; exact Blk.new _ _ _)
  rw [← hw]
  clear hw
  have F2i0 := Lib.hid (F1i0.out.belowW HB2.out)
  have F2e0 := Lib.hid (F1e0.out.belowW HB2.out)
  have F2bx := Lib.hid (F1bx.out.belowW HB2.out)
  have HL2 := Lib.hid (HB1.out.trans (HB2.out.mono HB1.out.size))
  obtain ⟨pb0, pb1, pb2, pb3, pb4, pb5⟩ := F2bx.out.cs6
  obtain ⟨qa0, qa1, qa2, qa3, qa4, qa5⟩ := F2ba.out.cs6
  go_wp2_with fail
  refine (tx_go IH.out T.a x w2 F2i0.out HGA.out HLA.out).mono ?_
  rintro e w3 ⟨S1, rfl, HS1, HB3⟩
  clear pb0 pb1 pb2 pb3 pb4 pb5 qa0 qa1 qa2 qa3 qa4 qa5
  have F3i0 := Lib.hid (F2i0.out.belowW HB3.out)
  have F3e0 := Lib.hid (F2e0.out.belowW HB3.out)
  have F3bx := Lib.hid (F2bx.out.belowW HB3.out)
  have F3ba := Lib.hid (F2ba.out.belowW HB3.out)
  have HL3 := Lib.hid (HL2.out.trans (HB3.out.mono HL2.out.size))
  have hS1 : S1.size = la.length := by rw [strp_size HS1.out, HQA.out]
  have HT1 := Lib.hid (show S1.data.toList = la from HS1.out.trans HQA.out.symm)
  obtain ⟨pb0, pb1, pb2, pb3, pb4, pb5⟩ := F3bx.out.cs6
  obtain ⟨qa0, qa1, qa2, qa3, qa4, qa5⟩ := F3ba.out.cs6
  go_wp2_with fail
  refine (sum_r x w3).mono ?_
  rw [Hcs.out]
  rintro e w4 ⟨rfl, HB4⟩
  clear pb0 pb1 pb2 pb3 pb4 pb5 qa0 qa1 qa2 qa3 qa4 qa5
  have F4i0 := Lib.hid (F3i0.out.belowW HB4.out)
  have F4e0 := Lib.hid (F3e0.out.belowW HB4.out)
  have F4bx := Lib.hid (F3bx.out.belowW HB4.out)
  have F4ba := Lib.hid (F3ba.out.belowW HB4.out)
  have HL4 := Lib.hid (HL3.out.trans (HB4.out.mono HL3.out.size))
  obtain ⟨pb0, pb1, pb2, pb3, pb4, pb5⟩ := F4bx.out.cs6
  obtain ⟨qa0, qa1, qa2, qa3, qa4, qa5⟩ := F4ba.out.cs6
  go_wp2_with fail
  refine (wrap_r S1 true w4 la HT1.out hla9).mono ?_
  rintro e w5 ⟨S2, rfl, HS2, HB5⟩
  clear pb0 pb1 pb2 pb3 pb4 pb5 qa0 qa1 qa2 qa3 qa4 qa5
  have F5i0 := Lib.hid (F4i0.out.belowW HB5.out)
  have F5e0 := Lib.hid (F4e0.out.belowW HB5.out)
  have F5bx := Lib.hid (F4bx.out.belowW HB5.out)
  have F5ba := Lib.hid (F4ba.out.belowW HB5.out)
  have HL5 := Lib.hid (HL4.out.trans (HB5.out.mono HL4.out.size))
  have hS2 : S2.size = (par true la).length := strp_size HS2.out
  obtain ⟨pb0, pb1, pb2, pb3, pb4, pb5⟩ := F5bx.out.cs6
  obtain ⟨qa0, qa1, qa2, qa3, qa4, qa5⟩ := F5ba.out.cs6
  go_wp2_with fail
  go_ret
  exact ⟨_, rfl, Lib.hid (by rw [data_app, HS2.out, HTX.out]; rfl), HL5⟩
end Go.Proofs.YtoogeihbhhcpaaaGreatDoor
