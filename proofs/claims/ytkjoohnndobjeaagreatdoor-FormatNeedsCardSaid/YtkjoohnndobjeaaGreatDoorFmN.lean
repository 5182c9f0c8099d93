/-
  The walk of the program's text of an expression, kind by kind.
-/
import Derived.Test.YtkjoohnndobjeaaGreatDoorFmM
import Derived.Test.YtkjoohnndobjeaaGreatDoorQH
set_option linter.unusedVariables false
namespace Go.Proofs.YtkjoohnndobjeaaGreatDoor
open Go.RowKit Go.Fl Go.Fl.Nm Go.Fl.Fm Go.Fl.Rt
open List renaming setIfInBounds_toArray → qa, set_cons_zero → qb, set_cons_succ → qc, getElem_toArray → qd, getElem_cons_zero → qe, getElem_cons_succ → qf

set_option maxHeartbeats 8000000 in
set_option maxRecDepth 100000 in
theorem expr_k6 (f : Nat) (ih : ExprAt f) (T : TE) (v : Nd) (w : World) (hin : InE w T v) (hg : good nameP (f + 1) T) (hl : (txt (f + 1) T).length ≤ 20000) (ht : RB w) (hk : v.h.kind = 6) :
    Calls Tryz.prog 55 #[v.val] w (StrP (txt (f + 1) T) w) := by
 have hnd := hg.1
 rw [hin.hd, hin.length] at hnd
 have hlen : v.len = 2 := by rcases node_kinds hnd with h | h | h | h | h | h <;> omega
 have hl2 : T.l.length = 2 := by rw [hin.length]; exact hlen
 obtain ⟨T1, T2, hT⟩ := list2 hl2
 have hTa : T.a = T1 := by unfold TE.a; rw [hT]; rfl
 have hTb : T.b = T2 := by unfold TE.b; rw [hT]; rfl
 have hga : good nameP f T.a := hg.2 _ (by rw [hTa, hT]; exact List.mem_cons_self ..)
 have hgb : good nameP f T.b := hg.2 _ (by rw [hTb, hT]; exact List.mem_cons_of_mem _ (List.mem_cons_self ..))
 have HGA := Lib.hid hga
 have HGB := Lib.hid hgb
 have HT := Lib.hid ht
 have IH := Lib.hid ih
 have hTk : T.h.kind = 6 := by rw [hin.hd]; exact hk
 obtain ⟨b, o, x, y, hA, hx, hy, ex, ey⟩ := hin.two hlen
 have hxh : T.a.h = x.h := hx.hd
 have hyh : T.b.h = y.h := hy.hd
 have HTX := Lib.hid (show txt (f + 1) T = par (need1 6 x.h y.h) (txt f T.a) ++ ([32, 47, 32] ++ par (need2 6 y.h) (txt f T.b)) by
   show (if _ then _ else _) = _
   rw [hTk, if_neg (by decide), if_neg (by decide), if_pos (by decide), hxh, hyh]
   rfl)
 have HX := Lib.hid hx
 have HY := Lib.hid hy
 have EX := Lib.hid ex
 have EY := Lib.hid ey
 obtain ⟨la, hla⟩ : ∃ z, z = txt f T.a := ⟨_, rfl⟩
 obtain ⟨lb, hlb⟩ : ∃ z, z = txt f T.b := ⟨_, rfl⟩
 obtain ⟨na, hna⟩ : ∃ z, z = need1 6 x.h y.h := ⟨_, rfl⟩
 obtain ⟨nb, hnb⟩ : ∃ z, z = need2 6 y.h := ⟨_, rfl⟩
 obtain ⟨L, hL⟩ : ∃ z, z = txt (f + 1) T := ⟨_, rfl⟩
 rw [← hla, ← hlb, ← hna, ← hnb, ← hL] at HTX
 rw [← hL] at hl ⊢
 have hlen3 : (par na la).length + 3 + (par nb lb).length ≤ 20000 := by
   have h := congrArg List.length HTX.out
   rw [List.length_append, List.length_append] at h
   simp only [List.length_cons, List.length_nil] at h
   omega
 have hpla := (par_len na la).1
 have hplb := (par_len nb lb).1
 have c1 : ¬ (9223372036854775807 < (par na la).length + 3) := by omega
 have c2 : ¬ (9223372036854775807 < (par na la).length + 3 + (par nb lb).length) := by omega
 have HLA := Lib.hid (show (txt f T.a).length ≤ 20000 by rw [← hla]; omega)
 have HLB := Lib.hid (show (txt f T.b).length ≤ 20000 by rw [← hlb]; omega)
 have HNA := Lib.hid hna
 have HNB := Lib.hid hnb
 have HQA := Lib.hid hla
 have HQB := Lib.hid hlb
 clear hla hlb hna hnb hL hin hg hl ht ih hx hy ex ey hga hgb hT hTa hTb hl2 hnd hTk hxh hyh
 obtain ⟨⟨kd, n, d, nm, k⟩, A, len, cap⟩ := v
 simp only at hk hA hlen
 subst hk hA hlen
 simp only [Nd.val]
 go_enter Tryz.func55, Tryz.ntmps55
 go_upto_region 1 with (fail)
 obtain ⟨w1, hw⟩ : ∃ z9 : World, z9 = w.alloc (.cells #[.int .i64 6, .int .i64 n, .int .i64 d, .string nm, .int .i64 k, .slice (some ⟨b, o, none⟩) 2 cap] 29) := ⟨_, rfl⟩
 have HB1 := Lib.hid (show Below w.heap.size w w1 by rw [hw]; exact below_box _ _)
 have F1bx := Lib.hid (show Blk w1 w.heap.size 29 #[.int .i64 6, .int .i64 n, .int .i64 d, .string nm, .int .i64 k, .slice (some ⟨b, o, none⟩) 2 cap] by rw [hw]; exact Blk.new _ _ _)
 rw [← hw]
 clear hw
 have F1t := Lib.hid (HT.out.belowW HB1.out)
 have F1i0 := Lib.hid (HX.out.belowW HB1.out)
 have F1i1 := Lib.hid (HY.out.belowW HB1.out)
 have F1e0 := Lib.hid (EX.out.belowW HB1.out)
 have F1e1 := Lib.hid (EY.out.belowW HB1.out)
 have pk : w1.cell? ⟨w.heap.size, 0, none⟩ = some (.int .i64 6) := F1bx.out.cell 0
 go_upto_region 14 with (fail)
 clear pk
 go_cut [4, 5] (fun p4 p5 wx => ∃ ga gb : Nat, p4 = .pointer (some ⟨ga, 0, none⟩) ∧ p5 = .pointer (some ⟨gb, 0, none⟩) ∧ Hid (Blk wx ga 29 #[.int .i64 x.h.kind, .int .i64 x.h.n, .int .i64 x.h.d, .string x.h.name, .int .i64 x.h.k, .slice x.A x.len x.cap]) ∧ Hid (Blk wx gb 29 #[.int .i64 y.h.kind, .int .i64 y.h.n, .int .i64 y.h.d, .string y.h.name, .int .i64 y.h.k, .slice y.A y.len y.cap]) ∧ Hid (Below w1.heap.size w1 wx))
 case first =>
  have HR2 := Lib.hid (below_dr w1)
  have R2t := Lib.hid (F1t.out.belowW HR2.out)
  have R2i0 := Lib.hid (F1i0.out.belowW HR2.out)
  have R2i1 := Lib.hid (F1i1.out.belowW HR2.out)
  have R2e0 := Lib.hid (F1e0.out.belowW HR2.out)
  have R2e1 := Lib.hid (F1e1.out.belowW HR2.out)
  have R2bx := Lib.hid (F1bx.out.belowW HR2.out)
  refine wp_region_held_drew (S := fun w' => w'.cell? ⟨w.heap.size, 5, none⟩ = some (.slice (some ⟨b, o, none⟩) 2 cap) ∧ w'.cell? ⟨b, o, none⟩ = some (.int .i64 x.h.kind) ∧ w'.cell? ⟨b, o + 1, none⟩ = some (.int .i64 x.h.n) ∧ w'.cell? ⟨b, o + 2, none⟩ = some (.int .i64 x.h.d) ∧ w'.cell? ⟨b, o + 3, none⟩ = some (.string x.h.name) ∧ w'.cell? ⟨b, o + 4, none⟩ = some (.int .i64 x.h.k) ∧ w'.cell? ⟨b, o + 5, none⟩ = some (.slice x.A x.len x.cap) ∧ w'.cell? ⟨b, o + 6, none⟩ = some (.int .i64 y.h.kind) ∧ w'.cell? ⟨b, o + 6 + 1, none⟩ = some (.int .i64 y.h.n) ∧ w'.cell? ⟨b, o + 6 + 2, none⟩ = some (.int .i64 y.h.d) ∧ w'.cell? ⟨b, o + 6 + 3, none⟩ = some (.string y.h.name) ∧ w'.cell? ⟨b, o + 6 + 4, none⟩ = some (.int .i64 y.h.k) ∧ w'.cell? ⟨b, o + 6 + 5, none⟩ = some (.slice y.A y.len y.cap)) (by kernel_rfl) ?_ (fun hHeld => ?_)
  case refine_1 => exact ⟨R2bx.out.cell 5, R2e0.out.c0, R2e0.out.c1, R2e0.out.c2, R2e0.out.c3, R2e0.out.c4, R2e0.out.c5, R2e1.out.c0, R2e1.out.c1, R2e1.out.c2, R2e1.out.c3, R2e1.out.c4, R2e1.out.c5⟩
  obtain ⟨wd2, hwd⟩ : ∃ z9 : World, z9 = w1.drew := ⟨_, rfl⟩
  rw [← hwd] at HR2 R2t R2i0 R2i1 R2e0 R2e1 R2bx hHeld ⊢
  clear hwd
  have HD2 := Lib.hid (Below.refl wd2.heap.size wd2)
  refine tkW 0 ?_
  refine tkW 1 ?_
  refine tkW 2 ?_
  refine tkW 3 ?_
  refine tkW 4 ?_
  refine tkW 5 ?_
  refine tkW 6 ?_
  refine tkW 7 ?_
  refine wpAnyH_ready (rs := [8, 9]) (by kernel_rfl) (by simp) ?_
  refine (AllReadyH.cons rfl (fun K hK => ?_) (AllReadyH.cons rfl (fun K hK => ?_) AllReadyH.nil))
  · go_simp
    obtain ⟨w3, hw⟩ : ∃ z9 : World, z9 = wd2.alloc (Obj.cells #[.int .i64 0, .int .i64 0, .int .i64 0, .string ⟨#[]⟩, .int .i64 0, .slice none 0 0] 29) := ⟨_, rfl⟩
    have HC3 := Lib.hid (show Below wd2.heap.size wd2 w3 by rw [hw]; exact below_box _ _)
    have HN3 := Lib.hid (show Blk w3 wd2.heap.size 29 #[.int .i64 0, .int .i64 0, .int .i64 0, .string ⟨#[]⟩, .int .i64 0, .slice none 0 0] by rw [hw]; exact Blk.new _ _ _)
    rw [← hw]
    clear hw
    have GE3 := Lib.hid HD2.out.size
    have R3t := Lib.hid (R2t.out.belowW HC3.out)
    have R3i0 := Lib.hid (R2i0.out.belowW HC3.out)
    have R3i1 := Lib.hid (R2i1.out.belowW HC3.out)
    have R3e0 := Lib.hid (R2e0.out.belowW HC3.out)
    have R3e1 := Lib.hid (R2e1.out.belowW HC3.out)
    have R3bx := Lib.hid (R2bx.out.belowW HC3.out)
    have HD3 := Lib.hid (HD2.out.trans (HC3.out.mono HD2.out.size))
    clear hHeld
    refine hK.out _ _ ?_ (fun hHeld => ?_)
    case refine_1 => exact ⟨R3bx.out.cell 5, R3e0.out.c0, R3e0.out.c1, R3e0.out.c2, R3e0.out.c3, R3e0.out.c4, R3e0.out.c5, R3e1.out.c0, R3e1.out.c1, R3e1.out.c2, R3e1.out.c3, R3e1.out.c4, R3e1.out.c5⟩
    clear hK K
    try simp only [qa, qb, qc]
    refine wpAnyH_ready (rs := [9]) (by kernel_rfl) (by simp) ?_
    refine (AllReadyH.cons rfl (fun K hK => ?_) AllReadyH.nil)
    go_simp
    obtain ⟨w4, hw⟩ : ∃ z9 : World, z9 = w3.alloc (Obj.cells #[.int .i64 0, .int .i64 0, .int .i64 0, .string ⟨#[]⟩, .int .i64 0, .slice none 0 0] 29) := ⟨_, rfl⟩
    have HC4 := Lib.hid (show Below w3.heap.size w3 w4 by rw [hw]; exact below_box _ _)
    have HN4 := Lib.hid (show Blk w4 w3.heap.size 29 #[.int .i64 0, .int .i64 0, .int .i64 0, .string ⟨#[]⟩, .int .i64 0, .slice none 0 0] by rw [hw]; exact Blk.new _ _ _)
    rw [← hw]
    clear hw
    have GE4 := Lib.hid HD3.out.size
    have R4t := Lib.hid (R3t.out.belowW HC4.out)
    have R4i0 := Lib.hid (R3i0.out.belowW HC4.out)
    have R4i1 := Lib.hid (R3i1.out.belowW HC4.out)
    have R4e0 := Lib.hid (R3e0.out.belowW HC4.out)
    have R4e1 := Lib.hid (R3e1.out.belowW HC4.out)
    have R4bx := Lib.hid (R3bx.out.belowW HC4.out)
    have R4a := Lib.hid (HN3.out.belowW HC4.out)
    have NE4a := Lib.hid (show wd2.heap.size ≠ w3.heap.size from Nat.ne_of_lt HN3.out.lt)
    have HD4 := Lib.hid (HD3.out.trans (HC4.out.mono HD3.out.size))
    clear hHeld
    refine hK.out _ _ ?_ (fun hHeld => ?_)
    case refine_1 => exact ⟨R4bx.out.cell 5, R4e0.out.c0, R4e0.out.c1, R4e0.out.c2, R4e0.out.c3, R4e0.out.c4, R4e0.out.c5, R4e1.out.c0, R4e1.out.c1, R4e1.out.c2, R4e1.out.c3, R4e1.out.c4, R4e1.out.c5⟩
    clear hK K
    try simp only [qa, qb, qc]
    refine wpAnyH_ready (rs := [10]) (by kernel_rfl) (by simp) ?_
    refine (AllReadyH.cons rfl (fun K hK => ?_) AllReadyH.nil)
    obtain ⟨ps0, fs0, ps1, fs1, ps2, fs2, ps3, fs3, ps4, fs4, ps5, fs5⟩ := R4a.out.all6
    go_simp
    rw [store6_put R4a.out]
    clear ps0 fs0 ps1 fs1 ps2 fs2 ps3 fs3 ps4 fs4 ps5 fs5
    have HN5 := Lib.hid (R4a.out.put #[.int .i64 x.h.kind, .int .i64 x.h.n, .int .i64 x.h.d, .string x.h.name, .int .i64 x.h.k, .slice x.A x.len x.cap])
    have HO5b := Lib.hid (HN4.out.far (t' := 29) (Ne.symm NE4a.out) #[.int .i64 x.h.kind, .int .i64 x.h.n, .int .i64 x.h.d, .string x.h.name, .int .i64 x.h.k, .slice x.A x.len x.cap])
    have HD5 := Lib.hid (HD4.out.trans (putB_below w4 _ 29 #[.int .i64 x.h.kind, .int .i64 x.h.n, .int .i64 x.h.d, .string x.h.name, .int .i64 x.h.k, .slice x.A x.len x.cap] GE3.out))
    obtain ⟨w5, hw⟩ : ∃ z9 : World, z9 = putB w4 (wd2.heap.size) 29 #[.int .i64 x.h.kind, .int .i64 x.h.n, .int .i64 x.h.d, .string x.h.name, .int .i64 x.h.k, .slice x.A x.len x.cap] := ⟨_, rfl⟩
    rw [← hw] at HN5 HD5 HO5b ⊢
    clear hw
    have R5t := Lib.hid (R2t.out.belowW HD5.out)
    have R5i0 := Lib.hid (R2i0.out.belowW HD5.out)
    have R5i1 := Lib.hid (R2i1.out.belowW HD5.out)
    have R5e0 := Lib.hid (R2e0.out.belowW HD5.out)
    have R5e1 := Lib.hid (R2e1.out.belowW HD5.out)
    have R5bx := Lib.hid (R2bx.out.belowW HD5.out)
    clear hHeld
    refine hK.out _ _ ?_ (fun hHeld => ?_)
    case refine_1 => exact ⟨R5bx.out.cell 5, R5e0.out.c0, R5e0.out.c1, R5e0.out.c2, R5e0.out.c3, R5e0.out.c4, R5e0.out.c5, R5e1.out.c0, R5e1.out.c1, R5e1.out.c2, R5e1.out.c3, R5e1.out.c4, R5e1.out.c5⟩
    clear hK K
    try simp only [qa, qb, qc]
    refine wpAnyH_ready (rs := [11]) (by kernel_rfl) (by simp) ?_
    refine (AllReadyH.cons rfl (fun K hK => ?_) AllReadyH.nil)
    obtain ⟨ps0, fs0, ps1, fs1, ps2, fs2, ps3, fs3, ps4, fs4, ps5, fs5⟩ := HO5b.out.all6
    go_simp
    rw [store6_put HO5b.out]
    clear ps0 fs0 ps1 fs1 ps2 fs2 ps3 fs3 ps4 fs4 ps5 fs5
    have HN6 := Lib.hid (HO5b.out.put #[.int .i64 y.h.kind, .int .i64 y.h.n, .int .i64 y.h.d, .string y.h.name, .int .i64 y.h.k, .slice y.A y.len y.cap])
    have HO6a := Lib.hid (HN5.out.far (t' := 29) NE4a.out #[.int .i64 y.h.kind, .int .i64 y.h.n, .int .i64 y.h.d, .string y.h.name, .int .i64 y.h.k, .slice y.A y.len y.cap])
    have HD6 := Lib.hid (HD5.out.trans (putB_below w5 _ 29 #[.int .i64 y.h.kind, .int .i64 y.h.n, .int .i64 y.h.d, .string y.h.name, .int .i64 y.h.k, .slice y.A y.len y.cap] GE4.out))
    obtain ⟨w6, hw⟩ : ∃ z9 : World, z9 = putB w5 (w3.heap.size) 29 #[.int .i64 y.h.kind, .int .i64 y.h.n, .int .i64 y.h.d, .string y.h.name, .int .i64 y.h.k, .slice y.A y.len y.cap] := ⟨_, rfl⟩
    rw [← hw] at HN6 HD6 HO6a ⊢
    clear hw
    have R6t := Lib.hid (R2t.out.belowW HD6.out)
    have R6i0 := Lib.hid (R2i0.out.belowW HD6.out)
    have R6i1 := Lib.hid (R2i1.out.belowW HD6.out)
    have R6e0 := Lib.hid (R2e0.out.belowW HD6.out)
    have R6e1 := Lib.hid (R2e1.out.belowW HD6.out)
    have R6bx := Lib.hid (R2bx.out.belowW HD6.out)
    clear hHeld
    refine hK.out _ _ ?_ (fun hHeld => ?_)
    case refine_1 => exact ⟨R6bx.out.cell 5, R6e0.out.c0, R6e0.out.c1, R6e0.out.c2, R6e0.out.c3, R6e0.out.c4, R6e0.out.c5, R6e1.out.c0, R6e1.out.c1, R6e1.out.c2, R6e1.out.c3, R6e1.out.c4, R6e1.out.c5⟩
    clear hK K
    try simp only [qa, qb, qc]
    refine wpAnyH_done (by kernel_rfl) ?_ _
    have HLR := Lib.hid (HR2.out.trans (HD6.out.mono HR2.out.size))
    go_wp2_with fail
    go_meet
    exact ⟨_, _, rfl, rfl, HO6a, HN6, HLR⟩
  · go_simp
    obtain ⟨w3, hw⟩ : ∃ z9 : World, z9 = wd2.alloc (Obj.cells #[.int .i64 0, .int .i64 0, .int .i64 0, .string ⟨#[]⟩, .int .i64 0, .slice none 0 0] 29) := ⟨_, rfl⟩
    have HC3 := Lib.hid (show Below wd2.heap.size wd2 w3 by rw [hw]; exact below_box _ _)
    have HN3 := Lib.hid (show Blk w3 wd2.heap.size 29 #[.int .i64 0, .int .i64 0, .int .i64 0, .string ⟨#[]⟩, .int .i64 0, .slice none 0 0] by rw [hw]; exact Blk.new _ _ _)
    rw [← hw]
    clear hw
    have GE3 := Lib.hid HD2.out.size
    have R3t := Lib.hid (R2t.out.belowW HC3.out)
    have R3i0 := Lib.hid (R2i0.out.belowW HC3.out)
    have R3i1 := Lib.hid (R2i1.out.belowW HC3.out)
    have R3e0 := Lib.hid (R2e0.out.belowW HC3.out)
    have R3e1 := Lib.hid (R2e1.out.belowW HC3.out)
    have R3bx := Lib.hid (R2bx.out.belowW HC3.out)
    have HD3 := Lib.hid (HD2.out.trans (HC3.out.mono HD2.out.size))
    clear hHeld
    refine hK.out _ _ ?_ (fun hHeld => ?_)
    case refine_1 => exact ⟨R3bx.out.cell 5, R3e0.out.c0, R3e0.out.c1, R3e0.out.c2, R3e0.out.c3, R3e0.out.c4, R3e0.out.c5, R3e1.out.c0, R3e1.out.c1, R3e1.out.c2, R3e1.out.c3, R3e1.out.c4, R3e1.out.c5⟩
    clear hK K
    try simp only [qa, qb, qc]
    refine wpAnyH_ready (rs := [8]) (by kernel_rfl) (by simp) ?_
    refine (AllReadyH.cons rfl (fun K hK => ?_) AllReadyH.nil)
    go_simp
    obtain ⟨w4, hw⟩ : ∃ z9 : World, z9 = w3.alloc (Obj.cells #[.int .i64 0, .int .i64 0, .int .i64 0, .string ⟨#[]⟩, .int .i64 0, .slice none 0 0] 29) := ⟨_, rfl⟩
    have HC4 := Lib.hid (show Below w3.heap.size w3 w4 by rw [hw]; exact below_box _ _)
    have HN4 := Lib.hid (show Blk w4 w3.heap.size 29 #[.int .i64 0, .int .i64 0, .int .i64 0, .string ⟨#[]⟩, .int .i64 0, .slice none 0 0] by rw [hw]; exact Blk.new _ _ _)
    rw [← hw]
    clear hw
    have GE4 := Lib.hid HD3.out.size
    have R4t := Lib.hid (R3t.out.belowW HC4.out)
    have R4i0 := Lib.hid (R3i0.out.belowW HC4.out)
    have R4i1 := Lib.hid (R3i1.out.belowW HC4.out)
    have R4e0 := Lib.hid (R3e0.out.belowW HC4.out)
    have R4e1 := Lib.hid (R3e1.out.belowW HC4.out)
    have R4bx := Lib.hid (R3bx.out.belowW HC4.out)
    have R4b := Lib.hid (HN3.out.belowW HC4.out)
    have NE4b := Lib.hid (show wd2.heap.size ≠ w3.heap.size from Nat.ne_of_lt HN3.out.lt)
    have HD4 := Lib.hid (HD3.out.trans (HC4.out.mono HD3.out.size))
    clear hHeld
    refine hK.out _ _ ?_ (fun hHeld => ?_)
    case refine_1 => exact ⟨R4bx.out.cell 5, R4e0.out.c0, R4e0.out.c1, R4e0.out.c2, R4e0.out.c3, R4e0.out.c4, R4e0.out.c5, R4e1.out.c0, R4e1.out.c1, R4e1.out.c2, R4e1.out.c3, R4e1.out.c4, R4e1.out.c5⟩
    clear hK K
    try simp only [qa, qb, qc]
    refine wpAnyH_ready (rs := [10]) (by kernel_rfl) (by simp) ?_
    refine (AllReadyH.cons rfl (fun K hK => ?_) AllReadyH.nil)
    obtain ⟨ps0, fs0, ps1, fs1, ps2, fs2, ps3, fs3, ps4, fs4, ps5, fs5⟩ := HN4.out.all6
    go_simp
    rw [store6_put HN4.out]
    clear ps0 fs0 ps1 fs1 ps2 fs2 ps3 fs3 ps4 fs4 ps5 fs5
    have HN5 := Lib.hid (HN4.out.put #[.int .i64 x.h.kind, .int .i64 x.h.n, .int .i64 x.h.d, .string x.h.name, .int .i64 x.h.k, .slice x.A x.len x.cap])
    have HO5b := Lib.hid (R4b.out.far (t' := 29) NE4b.out #[.int .i64 x.h.kind, .int .i64 x.h.n, .int .i64 x.h.d, .string x.h.name, .int .i64 x.h.k, .slice x.A x.len x.cap])
    have HD5 := Lib.hid (HD4.out.trans (putB_below w4 _ 29 #[.int .i64 x.h.kind, .int .i64 x.h.n, .int .i64 x.h.d, .string x.h.name, .int .i64 x.h.k, .slice x.A x.len x.cap] GE4.out))
    obtain ⟨w5, hw⟩ : ∃ z9 : World, z9 = putB w4 (w3.heap.size) 29 #[.int .i64 x.h.kind, .int .i64 x.h.n, .int .i64 x.h.d, .string x.h.name, .int .i64 x.h.k, .slice x.A x.len x.cap] := ⟨_, rfl⟩
    rw [← hw] at HN5 HD5 HO5b ⊢
    clear hw
    have R5t := Lib.hid (R2t.out.belowW HD5.out)
    have R5i0 := Lib.hid (R2i0.out.belowW HD5.out)
    have R5i1 := Lib.hid (R2i1.out.belowW HD5.out)
    have R5e0 := Lib.hid (R2e0.out.belowW HD5.out)
    have R5e1 := Lib.hid (R2e1.out.belowW HD5.out)
    have R5bx := Lib.hid (R2bx.out.belowW HD5.out)
    clear hHeld
    refine hK.out _ _ ?_ (fun hHeld => ?_)
    case refine_1 => exact ⟨R5bx.out.cell 5, R5e0.out.c0, R5e0.out.c1, R5e0.out.c2, R5e0.out.c3, R5e0.out.c4, R5e0.out.c5, R5e1.out.c0, R5e1.out.c1, R5e1.out.c2, R5e1.out.c3, R5e1.out.c4, R5e1.out.c5⟩
    clear hK K
    try simp only [qa, qb, qc]
    refine wpAnyH_ready (rs := [11]) (by kernel_rfl) (by simp) ?_
    refine (AllReadyH.cons rfl (fun K hK => ?_) AllReadyH.nil)
    obtain ⟨ps0, fs0, ps1, fs1, ps2, fs2, ps3, fs3, ps4, fs4, ps5, fs5⟩ := HO5b.out.all6
    go_simp
    rw [store6_put HO5b.out]
    clear ps0 fs0 ps1 fs1 ps2 fs2 ps3 fs3 ps4 fs4 ps5 fs5
    have HN6 := Lib.hid (HO5b.out.put #[.int .i64 y.h.kind, .int .i64 y.h.n, .int .i64 y.h.d, .string y.h.name, .int .i64 y.h.k, .slice y.A y.len y.cap])
    have HO6a := Lib.hid (HN5.out.far (t' := 29) (Ne.symm NE4b.out) #[.int .i64 y.h.kind, .int .i64 y.h.n, .int .i64 y.h.d, .string y.h.name, .int .i64 y.h.k, .slice y.A y.len y.cap])
    have HD6 := Lib.hid (HD5.out.trans (putB_below w5 _ 29 #[.int .i64 y.h.kind, .int .i64 y.h.n, .int .i64 y.h.d, .string y.h.name, .int .i64 y.h.k, .slice y.A y.len y.cap] GE3.out))
    obtain ⟨w6, hw⟩ : ∃ z9 : World, z9 = putB w5 (wd2.heap.size) 29 #[.int .i64 y.h.kind, .int .i64 y.h.n, .int .i64 y.h.d, .string y.h.name, .int .i64 y.h.k, .slice y.A y.len y.cap] := ⟨_, rfl⟩
    rw [← hw] at HN6 HD6 HO6a ⊢
    clear hw
    have R6t := Lib.hid (R2t.out.belowW HD6.out)
    have R6i0 := Lib.hid (R2i0.out.belowW HD6.out)
    have R6i1 := Lib.hid (R2i1.out.belowW HD6.out)
    have R6e0 := Lib.hid (R2e0.out.belowW HD6.out)
    have R6e1 := Lib.hid (R2e1.out.belowW HD6.out)
    have R6bx := Lib.hid (R2bx.out.belowW HD6.out)
    clear hHeld
    refine hK.out _ _ ?_ (fun hHeld => ?_)
    case refine_1 => exact ⟨R6bx.out.cell 5, R6e0.out.c0, R6e0.out.c1, R6e0.out.c2, R6e0.out.c3, R6e0.out.c4, R6e0.out.c5, R6e1.out.c0, R6e1.out.c1, R6e1.out.c2, R6e1.out.c3, R6e1.out.c4, R6e1.out.c5⟩
    clear hK K
    try simp only [qa, qb, qc]
    refine wpAnyH_done (by kernel_rfl) ?_ _
    have HLR := Lib.hid (HR2.out.trans (HD6.out.mono HR2.out.size))
    go_wp2_with fail
    go_meet
    exact ⟨_, _, rfl, rfl, HO6a, HN6, HLR⟩
 case rest =>
  obtain ⟨ga, gb, rfl, rfl, FA2, FB2, HB2⟩ := hcut
  obtain ⟨w2, hw⟩ : ∃ z9 : World, z9 = wc := ⟨_, rfl⟩
  rw [← hw] at FA2 FB2 HB2 ⊢
  clear hw
  have F60t := Lib.hid (F1t.out.belowW HB2.out)
  have F60i0 := Lib.hid (F1i0.out.belowW HB2.out)
  have F60i1 := Lib.hid (F1i1.out.belowW HB2.out)
  have F60e0 := Lib.hid (F1e0.out.belowW HB2.out)
  have F60e1 := Lib.hid (F1e1.out.belowW HB2.out)
  have F60bx := Lib.hid (F1bx.out.belowW HB2.out)
  have HL60 := Lib.hid (HB1.out.trans (HB2.out.mono HB1.out.size))
  have pk : w2.cell? ⟨w.heap.size, 0, none⟩ = some (.int .i64 6) := F60bx.out.cell 0
  go_upto_region 18 with (fail)
  clear pk
  go_cut [7] (fun s7 wx => s7 = .bool na ∧ Hid (Below w2.heap.size w2 wx))
  case first =>
   cases ca : sumK x.h.kind with
   | false =>
    cases cwa : whl x.h with
    | false =>
     have HN2 := Lib.hid (show na = false by rw [HNA.out]; unfold need1; rw [ca, cwa]; rfl)
     have Hca := Lib.hid ca
     clear ca
     have Hcwa := Lib.hid cwa
     clear cwa
     obtain ⟨qa0, qa1, qa2, qa3, qa4, qa5⟩ := FA2.out.cs6
     obtain ⟨qb0, qb1, qb2, qb3, qb4, qb5⟩ := FB2.out.cs6
     have pk : w2.cell? ⟨w.heap.size, 0, none⟩ = some (.int .i64 6) := F60bx.out.cell 0
     go_wp2_with fail
     refine (sum_p x w2).mono ?_
     rw [Hca.out]
     rintro e w61 ⟨rfl, HB61⟩
     clear pk qa0 qb0 qa1 qb1 qa2 qb2 qa3 qb3 qa4 qb4 qa5 qb5
     have F61t := Lib.hid (F60t.out.belowW HB61.out)
     have F61i0 := Lib.hid (F60i0.out.belowW HB61.out)
     have F61i1 := Lib.hid (F60i1.out.belowW HB61.out)
     have F61e0 := Lib.hid (F60e0.out.belowW HB61.out)
     have F61e1 := Lib.hid (F60e1.out.belowW HB61.out)
     have F61bx := Lib.hid (F60bx.out.belowW HB61.out)
     have F61xa := Lib.hid (FA2.out.belowW HB61.out)
     have F61xb := Lib.hid (FB2.out.belowW HB61.out)
     obtain ⟨qa0, qa1, qa2, qa3, qa4, qa5⟩ := F61xa.out.cs6
     obtain ⟨qb0, qb1, qb2, qb3, qb4, qb5⟩ := F61xb.out.cs6
     have pk : w61.cell? ⟨w.heap.size, 0, none⟩ = some (.int .i64 6) := F61bx.out.cell 0
     go_wp2_with fail
     refine (whl_p x w61).mono ?_
     rw [Hcwa.out]
     rintro e w62 ⟨rfl, HB62⟩
     clear pk qa0 qb0 qa1 qb1 qa2 qb2 qa3 qb3 qa4 qb4 qa5 qb5
     have F62t := Lib.hid (F61t.out.belowW HB62.out)
     have F62i0 := Lib.hid (F61i0.out.belowW HB62.out)
     have F62i1 := Lib.hid (F61i1.out.belowW HB62.out)
     have F62e0 := Lib.hid (F61e0.out.belowW HB62.out)
     have F62e1 := Lib.hid (F61e1.out.belowW HB62.out)
     have F62bx := Lib.hid (F61bx.out.belowW HB62.out)
     have F62xa := Lib.hid (F61xa.out.belowW HB62.out)
     have F62xb := Lib.hid (F61xb.out.belowW HB62.out)
     have HL62 := Lib.hid (HB61.out.trans (HB62.out.mono HB61.out.size))
     obtain ⟨qa0, qa1, qa2, qa3, qa4, qa5⟩ := F62xa.out.cs6
     obtain ⟨qb0, qb1, qb2, qb3, qb4, qb5⟩ := F62xb.out.cs6
     have pk : w62.cell? ⟨w.heap.size, 0, none⟩ = some (.int .i64 6) := F62bx.out.cell 0
     go_wp2_with fail
     go_meet
     exact ⟨by rw [HN2.out], HL62⟩
    | true =>
     cases cwb : whl y.h with
     | false =>
      have HN2 := Lib.hid (show na = false by rw [HNA.out]; unfold need1; rw [ca, cwa, cwb]; rfl)
      have Hca := Lib.hid ca
      clear ca
      have Hcwa := Lib.hid cwa
      clear cwa
      have Hcwb := Lib.hid cwb
      clear cwb
      obtain ⟨qa0, qa1, qa2, qa3, qa4, qa5⟩ := FA2.out.cs6
      obtain ⟨qb0, qb1, qb2, qb3, qb4, qb5⟩ := FB2.out.cs6
      have pk : w2.cell? ⟨w.heap.size, 0, none⟩ = some (.int .i64 6) := F60bx.out.cell 0
      go_wp2_with fail
      refine (sum_p x w2).mono ?_
      rw [Hca.out]
      rintro e w61 ⟨rfl, HB61⟩
      clear pk qa0 qb0 qa1 qb1 qa2 qb2 qa3 qb3 qa4 qb4 qa5 qb5
      have F61t := Lib.hid (F60t.out.belowW HB61.out)
      have F61i0 := Lib.hid (F60i0.out.belowW HB61.out)
      have F61i1 := Lib.hid (F60i1.out.belowW HB61.out)
      have F61e0 := Lib.hid (F60e0.out.belowW HB61.out)
      have F61e1 := Lib.hid (F60e1.out.belowW HB61.out)
      have F61bx := Lib.hid (F60bx.out.belowW HB61.out)
      have F61xa := Lib.hid (FA2.out.belowW HB61.out)
      have F61xb := Lib.hid (FB2.out.belowW HB61.out)
      obtain ⟨qa0, qa1, qa2, qa3, qa4, qa5⟩ := F61xa.out.cs6
      obtain ⟨qb0, qb1, qb2, qb3, qb4, qb5⟩ := F61xb.out.cs6
      have pk : w61.cell? ⟨w.heap.size, 0, none⟩ = some (.int .i64 6) := F61bx.out.cell 0
      go_wp2_with fail
      refine (whl_p x w61).mono ?_
      rw [Hcwa.out]
      rintro e w62 ⟨rfl, HB62⟩
      clear pk qa0 qb0 qa1 qb1 qa2 qb2 qa3 qb3 qa4 qb4 qa5 qb5
      have F62t := Lib.hid (F61t.out.belowW HB62.out)
      have F62i0 := Lib.hid (F61i0.out.belowW HB62.out)
      have F62i1 := Lib.hid (F61i1.out.belowW HB62.out)
      have F62e0 := Lib.hid (F61e0.out.belowW HB62.out)
      have F62e1 := Lib.hid (F61e1.out.belowW HB62.out)
      have F62bx := Lib.hid (F61bx.out.belowW HB62.out)
      have F62xa := Lib.hid (F61xa.out.belowW HB62.out)
      have F62xb := Lib.hid (F61xb.out.belowW HB62.out)
      have HL62 := Lib.hid (HB61.out.trans (HB62.out.mono HB61.out.size))
      obtain ⟨qa0, qa1, qa2, qa3, qa4, qa5⟩ := F62xa.out.cs6
      obtain ⟨qb0, qb1, qb2, qb3, qb4, qb5⟩ := F62xb.out.cs6
      have pk : w62.cell? ⟨w.heap.size, 0, none⟩ = some (.int .i64 6) := F62bx.out.cell 0
      go_wp2_with fail
      refine (whl_p y w62).mono ?_
      rw [Hcwb.out]
      rintro e w63 ⟨rfl, HB63⟩
      clear pk qa0 qb0 qa1 qb1 qa2 qb2 qa3 qb3 qa4 qb4 qa5 qb5
      have F63t := Lib.hid (F62t.out.belowW HB63.out)
      have F63i0 := Lib.hid (F62i0.out.belowW HB63.out)
      have F63i1 := Lib.hid (F62i1.out.belowW HB63.out)
      have F63e0 := Lib.hid (F62e0.out.belowW HB63.out)
      have F63e1 := Lib.hid (F62e1.out.belowW HB63.out)
      have F63bx := Lib.hid (F62bx.out.belowW HB63.out)
      have F63xa := Lib.hid (F62xa.out.belowW HB63.out)
      have F63xb := Lib.hid (F62xb.out.belowW HB63.out)
      have HL63 := Lib.hid (HL62.out.trans (HB63.out.mono HL62.out.size))
      obtain ⟨qa0, qa1, qa2, qa3, qa4, qa5⟩ := F63xa.out.cs6
      obtain ⟨qb0, qb1, qb2, qb3, qb4, qb5⟩ := F63xb.out.cs6
      have pk : w63.cell? ⟨w.heap.size, 0, none⟩ = some (.int .i64 6) := F63bx.out.cell 0
      go_wp2_with fail
      go_meet
      exact ⟨by rw [HN2.out], HL63⟩
     | true =>
      cases cn : decide (0 ≤ y.h.n) with
      | false =>
       have HN2 := Lib.hid (show na = false by rw [HNA.out]; unfold need1; rw [ca, cwa, cwb, cn]; rfl)
       have Hca := Lib.hid ca
       clear ca
       have Hcwa := Lib.hid cwa
       clear cwa
       have Hcwb := Lib.hid cwb
       clear cwb
       obtain ⟨qa0, qa1, qa2, qa3, qa4, qa5⟩ := FA2.out.cs6
       obtain ⟨qb0, qb1, qb2, qb3, qb4, qb5⟩ := FB2.out.cs6
       have pk : w2.cell? ⟨w.heap.size, 0, none⟩ = some (.int .i64 6) := F60bx.out.cell 0
       go_wp2_with fail
       refine (sum_p x w2).mono ?_
       rw [Hca.out]
       rintro e w61 ⟨rfl, HB61⟩
       clear pk qa0 qb0 qa1 qb1 qa2 qb2 qa3 qb3 qa4 qb4 qa5 qb5
       have F61t := Lib.hid (F60t.out.belowW HB61.out)
       have F61i0 := Lib.hid (F60i0.out.belowW HB61.out)
       have F61i1 := Lib.hid (F60i1.out.belowW HB61.out)
       have F61e0 := Lib.hid (F60e0.out.belowW HB61.out)
       have F61e1 := Lib.hid (F60e1.out.belowW HB61.out)
       have F61bx := Lib.hid (F60bx.out.belowW HB61.out)
       have F61xa := Lib.hid (FA2.out.belowW HB61.out)
       have F61xb := Lib.hid (FB2.out.belowW HB61.out)
       obtain ⟨qa0, qa1, qa2, qa3, qa4, qa5⟩ := F61xa.out.cs6
       obtain ⟨qb0, qb1, qb2, qb3, qb4, qb5⟩ := F61xb.out.cs6
       have pk : w61.cell? ⟨w.heap.size, 0, none⟩ = some (.int .i64 6) := F61bx.out.cell 0
       go_wp2_with fail
       refine (whl_p x w61).mono ?_
       rw [Hcwa.out]
       rintro e w62 ⟨rfl, HB62⟩
       clear pk qa0 qb0 qa1 qb1 qa2 qb2 qa3 qb3 qa4 qb4 qa5 qb5
       have F62t := Lib.hid (F61t.out.belowW HB62.out)
       have F62i0 := Lib.hid (F61i0.out.belowW HB62.out)
       have F62i1 := Lib.hid (F61i1.out.belowW HB62.out)
       have F62e0 := Lib.hid (F61e0.out.belowW HB62.out)
       have F62e1 := Lib.hid (F61e1.out.belowW HB62.out)
       have F62bx := Lib.hid (F61bx.out.belowW HB62.out)
       have F62xa := Lib.hid (F61xa.out.belowW HB62.out)
       have F62xb := Lib.hid (F61xb.out.belowW HB62.out)
       have HL62 := Lib.hid (HB61.out.trans (HB62.out.mono HB61.out.size))
       obtain ⟨qa0, qa1, qa2, qa3, qa4, qa5⟩ := F62xa.out.cs6
       obtain ⟨qb0, qb1, qb2, qb3, qb4, qb5⟩ := F62xb.out.cs6
       have pk : w62.cell? ⟨w.heap.size, 0, none⟩ = some (.int .i64 6) := F62bx.out.cell 0
       go_wp2_with fail
       refine (whl_p y w62).mono ?_
       rw [Hcwb.out]
       rintro e w63 ⟨rfl, HB63⟩
       clear pk qa0 qb0 qa1 qb1 qa2 qb2 qa3 qb3 qa4 qb4 qa5 qb5
       have F63t := Lib.hid (F62t.out.belowW HB63.out)
       have F63i0 := Lib.hid (F62i0.out.belowW HB63.out)
       have F63i1 := Lib.hid (F62i1.out.belowW HB63.out)
       have F63e0 := Lib.hid (F62e0.out.belowW HB63.out)
       have F63e1 := Lib.hid (F62e1.out.belowW HB63.out)
       have F63bx := Lib.hid (F62bx.out.belowW HB63.out)
       have F63xa := Lib.hid (F62xa.out.belowW HB63.out)
       have F63xb := Lib.hid (F62xb.out.belowW HB63.out)
       have HL63 := Lib.hid (HL62.out.trans (HB63.out.mono HL62.out.size))
       obtain ⟨qa0, qa1, qa2, qa3, qa4, qa5⟩ := F63xa.out.cs6
       obtain ⟨qb0, qb1, qb2, qb3, qb4, qb5⟩ := F63xb.out.cs6
       have pk : w63.cell? ⟨w.heap.size, 0, none⟩ = some (.int .i64 6) := F63bx.out.cell 0
       go_wp2_with fail
       go_meet
       exact ⟨by rw [HN2.out], HL63⟩
      | true =>
       have HN2 := Lib.hid (show na = true by rw [HNA.out]; unfold need1; rw [ca, cwa, cwb, cn]; rfl)
       have Hca := Lib.hid ca
       clear ca
       have Hcwa := Lib.hid cwa
       clear cwa
       have Hcwb := Lib.hid cwb
       clear cwb
       obtain ⟨qa0, qa1, qa2, qa3, qa4, qa5⟩ := FA2.out.cs6
       obtain ⟨qb0, qb1, qb2, qb3, qb4, qb5⟩ := FB2.out.cs6
       have pk : w2.cell? ⟨w.heap.size, 0, none⟩ = some (.int .i64 6) := F60bx.out.cell 0
       go_wp2_with fail
       refine (sum_p x w2).mono ?_
       rw [Hca.out]
       rintro e w61 ⟨rfl, HB61⟩
       clear pk qa0 qb0 qa1 qb1 qa2 qb2 qa3 qb3 qa4 qb4 qa5 qb5
       have F61t := Lib.hid (F60t.out.belowW HB61.out)
       have F61i0 := Lib.hid (F60i0.out.belowW HB61.out)
       have F61i1 := Lib.hid (F60i1.out.belowW HB61.out)
       have F61e0 := Lib.hid (F60e0.out.belowW HB61.out)
       have F61e1 := Lib.hid (F60e1.out.belowW HB61.out)
       have F61bx := Lib.hid (F60bx.out.belowW HB61.out)
       have F61xa := Lib.hid (FA2.out.belowW HB61.out)
       have F61xb := Lib.hid (FB2.out.belowW HB61.out)
       obtain ⟨qa0, qa1, qa2, qa3, qa4, qa5⟩ := F61xa.out.cs6
       obtain ⟨qb0, qb1, qb2, qb3, qb4, qb5⟩ := F61xb.out.cs6
       have pk : w61.cell? ⟨w.heap.size, 0, none⟩ = some (.int .i64 6) := F61bx.out.cell 0
       go_wp2_with fail
       refine (whl_p x w61).mono ?_
       rw [Hcwa.out]
       rintro e w62 ⟨rfl, HB62⟩
       clear pk qa0 qb0 qa1 qb1 qa2 qb2 qa3 qb3 qa4 qb4 qa5 qb5
       have F62t := Lib.hid (F61t.out.belowW HB62.out)
       have F62i0 := Lib.hid (F61i0.out.belowW HB62.out)
       have F62i1 := Lib.hid (F61i1.out.belowW HB62.out)
       have F62e0 := Lib.hid (F61e0.out.belowW HB62.out)
       have F62e1 := Lib.hid (F61e1.out.belowW HB62.out)
       have F62bx := Lib.hid (F61bx.out.belowW HB62.out)
       have F62xa := Lib.hid (F61xa.out.belowW HB62.out)
       have F62xb := Lib.hid (F61xb.out.belowW HB62.out)
       have HL62 := Lib.hid (HB61.out.trans (HB62.out.mono HB61.out.size))
       obtain ⟨qa0, qa1, qa2, qa3, qa4, qa5⟩ := F62xa.out.cs6
       obtain ⟨qb0, qb1, qb2, qb3, qb4, qb5⟩ := F62xb.out.cs6
       have pk : w62.cell? ⟨w.heap.size, 0, none⟩ = some (.int .i64 6) := F62bx.out.cell 0
       go_wp2_with fail
       refine (whl_p y w62).mono ?_
       rw [Hcwb.out]
       rintro e w63 ⟨rfl, HB63⟩
       clear pk qa0 qb0 qa1 qb1 qa2 qb2 qa3 qb3 qa4 qb4 qa5 qb5
       have F63t := Lib.hid (F62t.out.belowW HB63.out)
       have F63i0 := Lib.hid (F62i0.out.belowW HB63.out)
       have F63i1 := Lib.hid (F62i1.out.belowW HB63.out)
       have F63e0 := Lib.hid (F62e0.out.belowW HB63.out)
       have F63e1 := Lib.hid (F62e1.out.belowW HB63.out)
       have F63bx := Lib.hid (F62bx.out.belowW HB63.out)
       have F63xa := Lib.hid (F62xa.out.belowW HB63.out)
       have F63xb := Lib.hid (F62xb.out.belowW HB63.out)
       have HL63 := Lib.hid (HL62.out.trans (HB63.out.mono HL62.out.size))
       obtain ⟨qa0, qa1, qa2, qa3, qa4, qa5⟩ := F63xa.out.cs6
       obtain ⟨qb0, qb1, qb2, qb3, qb4, qb5⟩ := F63xb.out.cs6
       have pk : w63.cell? ⟨w.heap.size, 0, none⟩ = some (.int .i64 6) := F63bx.out.cell 0
       go_wp2_with fail
       go_meet
       exact ⟨by rw [HN2.out], HL63⟩
   | true =>
    have HN2 := Lib.hid (show na = true by rw [HNA.out]; unfold need1; rw [ca]; rfl)
    have Hca := Lib.hid ca
    clear ca
    obtain ⟨qa0, qa1, qa2, qa3, qa4, qa5⟩ := FA2.out.cs6
    obtain ⟨qb0, qb1, qb2, qb3, qb4, qb5⟩ := FB2.out.cs6
    have pk : w2.cell? ⟨w.heap.size, 0, none⟩ = some (.int .i64 6) := F60bx.out.cell 0
    go_wp2_with fail
    refine (sum_p x w2).mono ?_
    rw [Hca.out]
    rintro e w61 ⟨rfl, HB61⟩
    clear pk qa0 qb0 qa1 qb1 qa2 qb2 qa3 qb3 qa4 qb4 qa5 qb5
    have F61t := Lib.hid (F60t.out.belowW HB61.out)
    have F61i0 := Lib.hid (F60i0.out.belowW HB61.out)
    have F61i1 := Lib.hid (F60i1.out.belowW HB61.out)
    have F61e0 := Lib.hid (F60e0.out.belowW HB61.out)
    have F61e1 := Lib.hid (F60e1.out.belowW HB61.out)
    have F61bx := Lib.hid (F60bx.out.belowW HB61.out)
    have F61xa := Lib.hid (FA2.out.belowW HB61.out)
    have F61xb := Lib.hid (FB2.out.belowW HB61.out)
    obtain ⟨qa0, qa1, qa2, qa3, qa4, qa5⟩ := F61xa.out.cs6
    obtain ⟨qb0, qb1, qb2, qb3, qb4, qb5⟩ := F61xb.out.cs6
    have pk : w61.cell? ⟨w.heap.size, 0, none⟩ = some (.int .i64 6) := F61bx.out.cell 0
    go_wp2_with fail
    go_meet
    exact ⟨by rw [HN2.out], HB61⟩
  case rest =>
   obtain ⟨rfl, HB3⟩ := hcut
   obtain ⟨w3, hw⟩ : ∃ z9 : World, z9 = wc := ⟨_, rfl⟩
   rw [← hw] at HB3 ⊢
   clear hw
   have F80t := Lib.hid (F60t.out.belowW HB3.out)
   have F80i0 := Lib.hid (F60i0.out.belowW HB3.out)
   have F80i1 := Lib.hid (F60i1.out.belowW HB3.out)
   have F80e0 := Lib.hid (F60e0.out.belowW HB3.out)
   have F80e1 := Lib.hid (F60e1.out.belowW HB3.out)
   have F80bx := Lib.hid (F60bx.out.belowW HB3.out)
   have F80xa := Lib.hid (FA2.out.belowW HB3.out)
   have F80xb := Lib.hid (FB2.out.belowW HB3.out)
   have HL80 := Lib.hid (HL60.out.trans (HB3.out.mono HL60.out.size))
   go_upto_region 19 with (fail)
   cases ds : sumK y.h.kind with
   | false =>
    cases dp : prodK y.h.kind with
    | false =>
     cases db : brok y.h with
     | false =>
      have HN2 := Lib.hid (show nb = false by rw [HNB.out]; unfold need2; rw [ds, dp, db]; rfl)
      rw [HN2.out] at c2 HTX hplb
      have Hds := Lib.hid ds
      clear ds
      have Hdp := Lib.hid dp
      clear dp
      have Hdb := Lib.hid db
      clear db
      have HR81 := Lib.hid (below_dr w3)
      have R81t := Lib.hid (F80t.out.belowW HR81.out)
      have R81i0 := Lib.hid (F80i0.out.belowW HR81.out)
      have R81i1 := Lib.hid (F80i1.out.belowW HR81.out)
      have R81e0 := Lib.hid (F80e0.out.belowW HR81.out)
      have R81e1 := Lib.hid (F80e1.out.belowW HR81.out)
      have R81bx := Lib.hid (F80bx.out.belowW HR81.out)
      have R81xa := Lib.hid (F80xa.out.belowW HR81.out)
      have R81xb := Lib.hid (F80xb.out.belowW HR81.out)
      refine wp_region_held_drew (S := fun w' => w'.cell? ⟨ga, 0, none⟩ = some (.int .i64 x.h.kind) ∧ w'.cell? ⟨ga, 1, none⟩ = some (.int .i64 x.h.n) ∧ w'.cell? ⟨ga, 2, none⟩ = some (.int .i64 x.h.d) ∧ w'.cell? ⟨ga, 3, none⟩ = some (.string x.h.name) ∧ w'.cell? ⟨ga, 4, none⟩ = some (.int .i64 x.h.k) ∧ w'.cell? ⟨ga, 5, none⟩ = some (.slice x.A x.len x.cap) ∧ w'.cell? ⟨gb, 0, none⟩ = some (.int .i64 y.h.kind) ∧ w'.cell? ⟨gb, 1, none⟩ = some (.int .i64 y.h.n) ∧ w'.cell? ⟨gb, 2, none⟩ = some (.int .i64 y.h.d) ∧ w'.cell? ⟨gb, 3, none⟩ = some (.string y.h.name) ∧ w'.cell? ⟨gb, 4, none⟩ = some (.int .i64 y.h.k) ∧ w'.cell? ⟨gb, 5, none⟩ = some (.slice y.A y.len y.cap)) (by kernel_rfl) ?_ (fun hHeld => ?_)
      case refine_1 => exact ⟨R81xa.out.cell 0, R81xa.out.cell 1, R81xa.out.cell 2, R81xa.out.cell 3, R81xa.out.cell 4, R81xa.out.cell 5, R81xb.out.cell 0, R81xb.out.cell 1, R81xb.out.cell 2, R81xb.out.cell 3, R81xb.out.cell 4, R81xb.out.cell 5⟩
      refine tkW 0 ?_
      refine tkW 1 ?_
      refine tkW 3 ?_
      refine tkW 5 ?_
      refine tkW 6 ?_
      refine wpAnyH_ready (rs := [2]) (by kernel_rfl) (by simp) ?_
      refine AllReadyH.cons rfl (fun K hK => ?_) AllReadyH.nil
      go_simp
      (with_reducible refine (operand_at f IH.out T.a x _ na R81i0.out HGA.out HLA.out R81t.out).mono ?_)
      rintro e w82 ⟨S1, rfl, HS1, HC82⟩
      have R82t := Lib.hid (R81t.out.belowW HC82.out)
      have R82i0 := Lib.hid (R81i0.out.belowW HC82.out)
      have R82i1 := Lib.hid (R81i1.out.belowW HC82.out)
      have R82e0 := Lib.hid (R81e0.out.belowW HC82.out)
      have R82e1 := Lib.hid (R81e1.out.belowW HC82.out)
      have R82bx := Lib.hid (R81bx.out.belowW HC82.out)
      have R82xa := Lib.hid (R81xa.out.belowW HC82.out)
      have R82xb := Lib.hid (R81xb.out.belowW HC82.out)
      have HR82 := Lib.hid (HR81.out.trans (HC82.out.mono HR81.out.size))
      have hS1 : S1.size = (par na la).length := by rw [strp_size HS1.out, ← HQA.out]
      go_wp2_with fail
      clear hHeld
      refine hK.out _ _ ?_ (fun hHeld => ?_)
      case refine_1 => exact ⟨R82xa.out.cell 0, R82xa.out.cell 1, R82xa.out.cell 2, R82xa.out.cell 3, R82xa.out.cell 4, R82xa.out.cell 5, R82xb.out.cell 0, R82xb.out.cell 1, R82xb.out.cell 2, R82xb.out.cell 3, R82xb.out.cell 4, R82xb.out.cell 5⟩
      clear hK K
      try simp only [qa, qb, qc]
      refine tkW 4 ?_
      refine wpAnyH_ready (rs := [7]) (by kernel_rfl) (by simp) ?_
      refine AllReadyH.cons rfl (fun K hK => ?_) AllReadyH.nil
      go_simp
      (with_reducible refine (sum_p y _).mono ?_)
      rw [Hds.out]
      rintro e w83 ⟨rfl, HC83⟩
      have R83t := Lib.hid (R82t.out.belowW HC83.out)
      have R83i0 := Lib.hid (R82i0.out.belowW HC83.out)
      have R83i1 := Lib.hid (R82i1.out.belowW HC83.out)
      have R83e0 := Lib.hid (R82e0.out.belowW HC83.out)
      have R83e1 := Lib.hid (R82e1.out.belowW HC83.out)
      have R83bx := Lib.hid (R82bx.out.belowW HC83.out)
      have R83xa := Lib.hid (R82xa.out.belowW HC83.out)
      have R83xb := Lib.hid (R82xb.out.belowW HC83.out)
      have HR83 := Lib.hid (HR82.out.trans (HC83.out.mono HR82.out.size))
      go_wp2_with fail
      clear hHeld
      refine hK.out _ _ ?_ (fun hHeld => ?_)
      case refine_1 => exact ⟨R83xa.out.cell 0, R83xa.out.cell 1, R83xa.out.cell 2, R83xa.out.cell 3, R83xa.out.cell 4, R83xa.out.cell 5, R83xb.out.cell 0, R83xb.out.cell 1, R83xb.out.cell 2, R83xb.out.cell 3, R83xb.out.cell 4, R83xb.out.cell 5⟩
      clear hK K
      try simp only [qa, qb, qc]
      refine tkW 8 ?_
      refine tkW 9 ?_
      refine wpAnyH_ready (rs := [10]) (by kernel_rfl) (by simp) ?_
      refine AllReadyH.cons rfl (fun K hK => ?_) AllReadyH.nil
      go_simp
      (with_reducible refine (prod_p y _).mono ?_)
      rw [Hdp.out]
      rintro e w84 ⟨rfl, HC84⟩
      have R84t := Lib.hid (R83t.out.belowW HC84.out)
      have R84i0 := Lib.hid (R83i0.out.belowW HC84.out)
      have R84i1 := Lib.hid (R83i1.out.belowW HC84.out)
      have R84e0 := Lib.hid (R83e0.out.belowW HC84.out)
      have R84e1 := Lib.hid (R83e1.out.belowW HC84.out)
      have R84bx := Lib.hid (R83bx.out.belowW HC84.out)
      have R84xa := Lib.hid (R83xa.out.belowW HC84.out)
      have R84xb := Lib.hid (R83xb.out.belowW HC84.out)
      have HR84 := Lib.hid (HR83.out.trans (HC84.out.mono HR83.out.size))
      go_wp2_with fail
      clear hHeld
      refine hK.out _ _ ?_ (fun hHeld => ?_)
      case refine_1 => exact ⟨R84xa.out.cell 0, R84xa.out.cell 1, R84xa.out.cell 2, R84xa.out.cell 3, R84xa.out.cell 4, R84xa.out.cell 5, R84xb.out.cell 0, R84xb.out.cell 1, R84xb.out.cell 2, R84xb.out.cell 3, R84xb.out.cell 4, R84xb.out.cell 5⟩
      clear hK K
      try simp only [qa, qb, qc]
      refine tkW 11 ?_
      refine tkW 12 ?_
      refine tkW 13 ?_
      refine wpAnyH_ready (rs := [14]) (by kernel_rfl) (by simp) ?_
      refine AllReadyH.cons rfl (fun K hK => ?_) AllReadyH.nil
      go_simp
      (with_reducible refine (brok_p y _).mono ?_)
      rw [Hdb.out]
      rintro e w85 ⟨rfl, HC85⟩
      have R85t := Lib.hid (R84t.out.belowW HC85.out)
      have R85i0 := Lib.hid (R84i0.out.belowW HC85.out)
      have R85i1 := Lib.hid (R84i1.out.belowW HC85.out)
      have R85e0 := Lib.hid (R84e0.out.belowW HC85.out)
      have R85e1 := Lib.hid (R84e1.out.belowW HC85.out)
      have R85bx := Lib.hid (R84bx.out.belowW HC85.out)
      have R85xa := Lib.hid (R84xa.out.belowW HC85.out)
      have R85xb := Lib.hid (R84xb.out.belowW HC85.out)
      have HR85 := Lib.hid (HR84.out.trans (HC85.out.mono HR84.out.size))
      go_wp2_with fail
      clear hHeld
      refine hK.out _ _ ?_ (fun hHeld => ?_)
      case refine_1 => exact ⟨R85xa.out.cell 0, R85xa.out.cell 1, R85xa.out.cell 2, R85xa.out.cell 3, R85xa.out.cell 4, R85xa.out.cell 5, R85xb.out.cell 0, R85xb.out.cell 1, R85xb.out.cell 2, R85xb.out.cell 3, R85xb.out.cell 4, R85xb.out.cell 5⟩
      clear hK K
      try simp only [qa, qb, qc]
      refine tkW 15 ?_
      refine wpAnyH_ready (rs := [16]) (by kernel_rfl) (by simp) ?_
      refine AllReadyH.cons rfl (fun K hK => ?_) AllReadyH.nil
      go_simp
      (with_reducible refine (operand_at f IH.out T.b y _ false R85i1.out HGB.out HLB.out R85t.out).mono ?_)
      rintro e w86 ⟨S2, rfl, HS2, HC86⟩
      have R86t := Lib.hid (R85t.out.belowW HC86.out)
      have R86i0 := Lib.hid (R85i0.out.belowW HC86.out)
      have R86i1 := Lib.hid (R85i1.out.belowW HC86.out)
      have R86e0 := Lib.hid (R85e0.out.belowW HC86.out)
      have R86e1 := Lib.hid (R85e1.out.belowW HC86.out)
      have R86bx := Lib.hid (R85bx.out.belowW HC86.out)
      have R86xa := Lib.hid (R85xa.out.belowW HC86.out)
      have R86xb := Lib.hid (R85xb.out.belowW HC86.out)
      have HR86 := Lib.hid (HR85.out.trans (HC86.out.mono HR85.out.size))
      have hS2 : S2.size = (par false lb).length := by rw [strp_size HS2.out, ← HQB.out]
      go_wp2_with fail
      clear hHeld
      refine hK.out _ _ ?_ (fun hHeld => ?_)
      case refine_1 => exact ⟨R86xa.out.cell 0, R86xa.out.cell 1, R86xa.out.cell 2, R86xa.out.cell 3, R86xa.out.cell 4, R86xa.out.cell 5, R86xb.out.cell 0, R86xb.out.cell 1, R86xb.out.cell 2, R86xb.out.cell 3, R86xb.out.cell 4, R86xb.out.cell 5⟩
      clear hK K
      try simp only [qa, qb, qc]
      refine tkW 17 ?_
      refine tkW 18 ?_
      refine wpAnyH_done (by kernel_rfl) ?_ _
      have HL86 := Lib.hid (HL80.out.trans (HR86.out.mono HL80.out.size))
      go_wp2_with fail
      go_ret
      exact ⟨_, rfl, Lib.hid (by rw [data_app, data_app, HS1.out, HS2.out, ← HQA.out, ← HQB.out, HTX.out, List.append_assoc]), HL86⟩
     | true =>
      have HN2 := Lib.hid (show nb = true by rw [HNB.out]; unfold need2; rw [ds, dp, db]; rfl)
      rw [HN2.out] at c2 HTX hplb
      have Hds := Lib.hid ds
      clear ds
      have Hdp := Lib.hid dp
      clear dp
      have Hdb := Lib.hid db
      clear db
      have HR81 := Lib.hid (below_dr w3)
      have R81t := Lib.hid (F80t.out.belowW HR81.out)
      have R81i0 := Lib.hid (F80i0.out.belowW HR81.out)
      have R81i1 := Lib.hid (F80i1.out.belowW HR81.out)
      have R81e0 := Lib.hid (F80e0.out.belowW HR81.out)
      have R81e1 := Lib.hid (F80e1.out.belowW HR81.out)
      have R81bx := Lib.hid (F80bx.out.belowW HR81.out)
      have R81xa := Lib.hid (F80xa.out.belowW HR81.out)
      have R81xb := Lib.hid (F80xb.out.belowW HR81.out)
      refine wp_region_held_drew (S := fun w' => w'.cell? ⟨ga, 0, none⟩ = some (.int .i64 x.h.kind) ∧ w'.cell? ⟨ga, 1, none⟩ = some (.int .i64 x.h.n) ∧ w'.cell? ⟨ga, 2, none⟩ = some (.int .i64 x.h.d) ∧ w'.cell? ⟨ga, 3, none⟩ = some (.string x.h.name) ∧ w'.cell? ⟨ga, 4, none⟩ = some (.int .i64 x.h.k) ∧ w'.cell? ⟨ga, 5, none⟩ = some (.slice x.A x.len x.cap) ∧ w'.cell? ⟨gb, 0, none⟩ = some (.int .i64 y.h.kind) ∧ w'.cell? ⟨gb, 1, none⟩ = some (.int .i64 y.h.n) ∧ w'.cell? ⟨gb, 2, none⟩ = some (.int .i64 y.h.d) ∧ w'.cell? ⟨gb, 3, none⟩ = some (.string y.h.name) ∧ w'.cell? ⟨gb, 4, none⟩ = some (.int .i64 y.h.k) ∧ w'.cell? ⟨gb, 5, none⟩ = some (.slice y.A y.len y.cap)) (by kernel_rfl) ?_ (fun hHeld => ?_)
      case refine_1 => exact ⟨R81xa.out.cell 0, R81xa.out.cell 1, R81xa.out.cell 2, R81xa.out.cell 3, R81xa.out.cell 4, R81xa.out.cell 5, R81xb.out.cell 0, R81xb.out.cell 1, R81xb.out.cell 2, R81xb.out.cell 3, R81xb.out.cell 4, R81xb.out.cell 5⟩
      refine tkW 0 ?_
      refine tkW 1 ?_
      refine tkW 3 ?_
      refine tkW 5 ?_
      refine tkW 6 ?_
      refine wpAnyH_ready (rs := [2]) (by kernel_rfl) (by simp) ?_
      refine AllReadyH.cons rfl (fun K hK => ?_) AllReadyH.nil
      go_simp
      (with_reducible refine (operand_at f IH.out T.a x _ na R81i0.out HGA.out HLA.out R81t.out).mono ?_)
      rintro e w82 ⟨S1, rfl, HS1, HC82⟩
      have R82t := Lib.hid (R81t.out.belowW HC82.out)
      have R82i0 := Lib.hid (R81i0.out.belowW HC82.out)
      have R82i1 := Lib.hid (R81i1.out.belowW HC82.out)
      have R82e0 := Lib.hid (R81e0.out.belowW HC82.out)
      have R82e1 := Lib.hid (R81e1.out.belowW HC82.out)
      have R82bx := Lib.hid (R81bx.out.belowW HC82.out)
      have R82xa := Lib.hid (R81xa.out.belowW HC82.out)
      have R82xb := Lib.hid (R81xb.out.belowW HC82.out)
      have HR82 := Lib.hid (HR81.out.trans (HC82.out.mono HR81.out.size))
      have hS1 : S1.size = (par na la).length := by rw [strp_size HS1.out, ← HQA.out]
      go_wp2_with fail
      clear hHeld
      refine hK.out _ _ ?_ (fun hHeld => ?_)
      case refine_1 => exact ⟨R82xa.out.cell 0, R82xa.out.cell 1, R82xa.out.cell 2, R82xa.out.cell 3, R82xa.out.cell 4, R82xa.out.cell 5, R82xb.out.cell 0, R82xb.out.cell 1, R82xb.out.cell 2, R82xb.out.cell 3, R82xb.out.cell 4, R82xb.out.cell 5⟩
      clear hK K
      try simp only [qa, qb, qc]
      refine tkW 4 ?_
      refine wpAnyH_ready (rs := [7]) (by kernel_rfl) (by simp) ?_
      refine AllReadyH.cons rfl (fun K hK => ?_) AllReadyH.nil
      go_simp
      (with_reducible refine (sum_p y _).mono ?_)
      rw [Hds.out]
      rintro e w83 ⟨rfl, HC83⟩
      have R83t := Lib.hid (R82t.out.belowW HC83.out)
      have R83i0 := Lib.hid (R82i0.out.belowW HC83.out)
      have R83i1 := Lib.hid (R82i1.out.belowW HC83.out)
      have R83e0 := Lib.hid (R82e0.out.belowW HC83.out)
      have R83e1 := Lib.hid (R82e1.out.belowW HC83.out)
      have R83bx := Lib.hid (R82bx.out.belowW HC83.out)
      have R83xa := Lib.hid (R82xa.out.belowW HC83.out)
      have R83xb := Lib.hid (R82xb.out.belowW HC83.out)
      have HR83 := Lib.hid (HR82.out.trans (HC83.out.mono HR82.out.size))
      go_wp2_with fail
      clear hHeld
      refine hK.out _ _ ?_ (fun hHeld => ?_)
      case refine_1 => exact ⟨R83xa.out.cell 0, R83xa.out.cell 1, R83xa.out.cell 2, R83xa.out.cell 3, R83xa.out.cell 4, R83xa.out.cell 5, R83xb.out.cell 0, R83xb.out.cell 1, R83xb.out.cell 2, R83xb.out.cell 3, R83xb.out.cell 4, R83xb.out.cell 5⟩
      clear hK K
      try simp only [qa, qb, qc]
      refine tkW 8 ?_
      refine tkW 9 ?_
      refine wpAnyH_ready (rs := [10]) (by kernel_rfl) (by simp) ?_
      refine AllReadyH.cons rfl (fun K hK => ?_) AllReadyH.nil
      go_simp
      (with_reducible refine (prod_p y _).mono ?_)
      rw [Hdp.out]
      rintro e w84 ⟨rfl, HC84⟩
      have R84t := Lib.hid (R83t.out.belowW HC84.out)
      have R84i0 := Lib.hid (R83i0.out.belowW HC84.out)
      have R84i1 := Lib.hid (R83i1.out.belowW HC84.out)
      have R84e0 := Lib.hid (R83e0.out.belowW HC84.out)
      have R84e1 := Lib.hid (R83e1.out.belowW HC84.out)
      have R84bx := Lib.hid (R83bx.out.belowW HC84.out)
      have R84xa := Lib.hid (R83xa.out.belowW HC84.out)
      have R84xb := Lib.hid (R83xb.out.belowW HC84.out)
      have HR84 := Lib.hid (HR83.out.trans (HC84.out.mono HR83.out.size))
      go_wp2_with fail
      clear hHeld
      refine hK.out _ _ ?_ (fun hHeld => ?_)
      case refine_1 => exact ⟨R84xa.out.cell 0, R84xa.out.cell 1, R84xa.out.cell 2, R84xa.out.cell 3, R84xa.out.cell 4, R84xa.out.cell 5, R84xb.out.cell 0, R84xb.out.cell 1, R84xb.out.cell 2, R84xb.out.cell 3, R84xb.out.cell 4, R84xb.out.cell 5⟩
      clear hK K
      try simp only [qa, qb, qc]
      refine tkW 11 ?_
      refine tkW 12 ?_
      refine tkW 13 ?_
      refine wpAnyH_ready (rs := [14]) (by kernel_rfl) (by simp) ?_
      refine AllReadyH.cons rfl (fun K hK => ?_) AllReadyH.nil
      go_simp
      (with_reducible refine (brok_p y _).mono ?_)
      rw [Hdb.out]
      rintro e w85 ⟨rfl, HC85⟩
      have R85t := Lib.hid (R84t.out.belowW HC85.out)
      have R85i0 := Lib.hid (R84i0.out.belowW HC85.out)
      have R85i1 := Lib.hid (R84i1.out.belowW HC85.out)
      have R85e0 := Lib.hid (R84e0.out.belowW HC85.out)
      have R85e1 := Lib.hid (R84e1.out.belowW HC85.out)
      have R85bx := Lib.hid (R84bx.out.belowW HC85.out)
      have R85xa := Lib.hid (R84xa.out.belowW HC85.out)
      have R85xb := Lib.hid (R84xb.out.belowW HC85.out)
      have HR85 := Lib.hid (HR84.out.trans (HC85.out.mono HR84.out.size))
      go_wp2_with fail
      clear hHeld
      refine hK.out _ _ ?_ (fun hHeld => ?_)
      case refine_1 => exact ⟨R85xa.out.cell 0, R85xa.out.cell 1, R85xa.out.cell 2, R85xa.out.cell 3, R85xa.out.cell 4, R85xa.out.cell 5, R85xb.out.cell 0, R85xb.out.cell 1, R85xb.out.cell 2, R85xb.out.cell 3, R85xb.out.cell 4, R85xb.out.cell 5⟩
      clear hK K
      try simp only [qa, qb, qc]
      refine tkW 15 ?_
      refine wpAnyH_ready (rs := [16]) (by kernel_rfl) (by simp) ?_
      refine AllReadyH.cons rfl (fun K hK => ?_) AllReadyH.nil
      go_simp
      (with_reducible refine (operand_at f IH.out T.b y _ true R85i1.out HGB.out HLB.out R85t.out).mono ?_)
      rintro e w86 ⟨S2, rfl, HS2, HC86⟩
      have R86t := Lib.hid (R85t.out.belowW HC86.out)
      have R86i0 := Lib.hid (R85i0.out.belowW HC86.out)
      have R86i1 := Lib.hid (R85i1.out.belowW HC86.out)
      have R86e0 := Lib.hid (R85e0.out.belowW HC86.out)
      have R86e1 := Lib.hid (R85e1.out.belowW HC86.out)
      have R86bx := Lib.hid (R85bx.out.belowW HC86.out)
      have R86xa := Lib.hid (R85xa.out.belowW HC86.out)
      have R86xb := Lib.hid (R85xb.out.belowW HC86.out)
      have HR86 := Lib.hid (HR85.out.trans (HC86.out.mono HR85.out.size))
      have hS2 : S2.size = (par true lb).length := by rw [strp_size HS2.out, ← HQB.out]
      go_wp2_with fail
      clear hHeld
      refine hK.out _ _ ?_ (fun hHeld => ?_)
      case refine_1 => exact ⟨R86xa.out.cell 0, R86xa.out.cell 1, R86xa.out.cell 2, R86xa.out.cell 3, R86xa.out.cell 4, R86xa.out.cell 5, R86xb.out.cell 0, R86xb.out.cell 1, R86xb.out.cell 2, R86xb.out.cell 3, R86xb.out.cell 4, R86xb.out.cell 5⟩
      clear hK K
      try simp only [qa, qb, qc]
      refine tkW 17 ?_
      refine tkW 18 ?_
      refine wpAnyH_done (by kernel_rfl) ?_ _
      have HL86 := Lib.hid (HL80.out.trans (HR86.out.mono HL80.out.size))
      go_wp2_with fail
      go_ret
      exact ⟨_, rfl, Lib.hid (by rw [data_app, data_app, HS1.out, HS2.out, ← HQA.out, ← HQB.out, HTX.out, List.append_assoc]), HL86⟩
    | true =>
     have HN2 := Lib.hid (show nb = true by rw [HNB.out]; unfold need2; rw [ds, dp]; rfl)
     rw [HN2.out] at c2 HTX hplb
     have Hds := Lib.hid ds
     clear ds
     have Hdp := Lib.hid dp
     clear dp
     have HR81 := Lib.hid (below_dr w3)
     have R81t := Lib.hid (F80t.out.belowW HR81.out)
     have R81i0 := Lib.hid (F80i0.out.belowW HR81.out)
     have R81i1 := Lib.hid (F80i1.out.belowW HR81.out)
     have R81e0 := Lib.hid (F80e0.out.belowW HR81.out)
     have R81e1 := Lib.hid (F80e1.out.belowW HR81.out)
     have R81bx := Lib.hid (F80bx.out.belowW HR81.out)
     have R81xa := Lib.hid (F80xa.out.belowW HR81.out)
     have R81xb := Lib.hid (F80xb.out.belowW HR81.out)
     refine wp_region_held_drew (S := fun w' => w'.cell? ⟨ga, 0, none⟩ = some (.int .i64 x.h.kind) ∧ w'.cell? ⟨ga, 1, none⟩ = some (.int .i64 x.h.n) ∧ w'.cell? ⟨ga, 2, none⟩ = some (.int .i64 x.h.d) ∧ w'.cell? ⟨ga, 3, none⟩ = some (.string x.h.name) ∧ w'.cell? ⟨ga, 4, none⟩ = some (.int .i64 x.h.k) ∧ w'.cell? ⟨ga, 5, none⟩ = some (.slice x.A x.len x.cap) ∧ w'.cell? ⟨gb, 0, none⟩ = some (.int .i64 y.h.kind) ∧ w'.cell? ⟨gb, 1, none⟩ = some (.int .i64 y.h.n) ∧ w'.cell? ⟨gb, 2, none⟩ = some (.int .i64 y.h.d) ∧ w'.cell? ⟨gb, 3, none⟩ = some (.string y.h.name) ∧ w'.cell? ⟨gb, 4, none⟩ = some (.int .i64 y.h.k) ∧ w'.cell? ⟨gb, 5, none⟩ = some (.slice y.A y.len y.cap)) (by kernel_rfl) ?_ (fun hHeld => ?_)
     case refine_1 => exact ⟨R81xa.out.cell 0, R81xa.out.cell 1, R81xa.out.cell 2, R81xa.out.cell 3, R81xa.out.cell 4, R81xa.out.cell 5, R81xb.out.cell 0, R81xb.out.cell 1, R81xb.out.cell 2, R81xb.out.cell 3, R81xb.out.cell 4, R81xb.out.cell 5⟩
     refine tkW 0 ?_
     refine tkW 1 ?_
     refine tkW 3 ?_
     refine tkW 5 ?_
     refine tkW 6 ?_
     refine wpAnyH_ready (rs := [2]) (by kernel_rfl) (by simp) ?_
     refine AllReadyH.cons rfl (fun K hK => ?_) AllReadyH.nil
     go_simp
     (with_reducible refine (operand_at f IH.out T.a x _ na R81i0.out HGA.out HLA.out R81t.out).mono ?_)
     rintro e w82 ⟨S1, rfl, HS1, HC82⟩
     have R82t := Lib.hid (R81t.out.belowW HC82.out)
     have R82i0 := Lib.hid (R81i0.out.belowW HC82.out)
     have R82i1 := Lib.hid (R81i1.out.belowW HC82.out)
     have R82e0 := Lib.hid (R81e0.out.belowW HC82.out)
     have R82e1 := Lib.hid (R81e1.out.belowW HC82.out)
     have R82bx := Lib.hid (R81bx.out.belowW HC82.out)
     have R82xa := Lib.hid (R81xa.out.belowW HC82.out)
     have R82xb := Lib.hid (R81xb.out.belowW HC82.out)
     have HR82 := Lib.hid (HR81.out.trans (HC82.out.mono HR81.out.size))
     have hS1 : S1.size = (par na la).length := by rw [strp_size HS1.out, ← HQA.out]
     go_wp2_with fail
     clear hHeld
     refine hK.out _ _ ?_ (fun hHeld => ?_)
     case refine_1 => exact ⟨R82xa.out.cell 0, R82xa.out.cell 1, R82xa.out.cell 2, R82xa.out.cell 3, R82xa.out.cell 4, R82xa.out.cell 5, R82xb.out.cell 0, R82xb.out.cell 1, R82xb.out.cell 2, R82xb.out.cell 3, R82xb.out.cell 4, R82xb.out.cell 5⟩
     clear hK K
     try simp only [qa, qb, qc]
     refine tkW 4 ?_
     refine wpAnyH_ready (rs := [7]) (by kernel_rfl) (by simp) ?_
     refine AllReadyH.cons rfl (fun K hK => ?_) AllReadyH.nil
     go_simp
     (with_reducible refine (sum_p y _).mono ?_)
     rw [Hds.out]
     rintro e w83 ⟨rfl, HC83⟩
     have R83t := Lib.hid (R82t.out.belowW HC83.out)
     have R83i0 := Lib.hid (R82i0.out.belowW HC83.out)
     have R83i1 := Lib.hid (R82i1.out.belowW HC83.out)
     have R83e0 := Lib.hid (R82e0.out.belowW HC83.out)
     have R83e1 := Lib.hid (R82e1.out.belowW HC83.out)
     have R83bx := Lib.hid (R82bx.out.belowW HC83.out)
     have R83xa := Lib.hid (R82xa.out.belowW HC83.out)
     have R83xb := Lib.hid (R82xb.out.belowW HC83.out)
     have HR83 := Lib.hid (HR82.out.trans (HC83.out.mono HR82.out.size))
     go_wp2_with fail
     clear hHeld
     refine hK.out _ _ ?_ (fun hHeld => ?_)
     case refine_1 => exact ⟨R83xa.out.cell 0, R83xa.out.cell 1, R83xa.out.cell 2, R83xa.out.cell 3, R83xa.out.cell 4, R83xa.out.cell 5, R83xb.out.cell 0, R83xb.out.cell 1, R83xb.out.cell 2, R83xb.out.cell 3, R83xb.out.cell 4, R83xb.out.cell 5⟩
     clear hK K
     try simp only [qa, qb, qc]
     refine tkW 8 ?_
     refine tkW 9 ?_
     refine wpAnyH_ready (rs := [10]) (by kernel_rfl) (by simp) ?_
     refine AllReadyH.cons rfl (fun K hK => ?_) AllReadyH.nil
     go_simp
     (with_reducible refine (prod_p y _).mono ?_)
     rw [Hdp.out]
     rintro e w84 ⟨rfl, HC84⟩
     have R84t := Lib.hid (R83t.out.belowW HC84.out)
     have R84i0 := Lib.hid (R83i0.out.belowW HC84.out)
     have R84i1 := Lib.hid (R83i1.out.belowW HC84.out)
     have R84e0 := Lib.hid (R83e0.out.belowW HC84.out)
     have R84e1 := Lib.hid (R83e1.out.belowW HC84.out)
     have R84bx := Lib.hid (R83bx.out.belowW HC84.out)
     have R84xa := Lib.hid (R83xa.out.belowW HC84.out)
     have R84xb := Lib.hid (R83xb.out.belowW HC84.out)
     have HR84 := Lib.hid (HR83.out.trans (HC84.out.mono HR83.out.size))
     go_wp2_with fail
     clear hHeld
     refine hK.out _ _ ?_ (fun hHeld => ?_)
     case refine_1 => exact ⟨R84xa.out.cell 0, R84xa.out.cell 1, R84xa.out.cell 2, R84xa.out.cell 3, R84xa.out.cell 4, R84xa.out.cell 5, R84xb.out.cell 0, R84xb.out.cell 1, R84xb.out.cell 2, R84xb.out.cell 3, R84xb.out.cell 4, R84xb.out.cell 5⟩
     clear hK K
     try simp only [qa, qb, qc]
     refine tkW 11 ?_
     refine tkW 12 ?_
     refine tkV 13 ?_
     refine tkV 14 ?_
     refine tkW 15 ?_
     refine wpAnyH_ready (rs := [16]) (by kernel_rfl) (by simp) ?_
     refine AllReadyH.cons rfl (fun K hK => ?_) AllReadyH.nil
     go_simp
     (with_reducible refine (operand_at f IH.out T.b y _ true R84i1.out HGB.out HLB.out R84t.out).mono ?_)
     rintro e w85 ⟨S2, rfl, HS2, HC85⟩
     have R85t := Lib.hid (R84t.out.belowW HC85.out)
     have R85i0 := Lib.hid (R84i0.out.belowW HC85.out)
     have R85i1 := Lib.hid (R84i1.out.belowW HC85.out)
     have R85e0 := Lib.hid (R84e0.out.belowW HC85.out)
     have R85e1 := Lib.hid (R84e1.out.belowW HC85.out)
     have R85bx := Lib.hid (R84bx.out.belowW HC85.out)
     have R85xa := Lib.hid (R84xa.out.belowW HC85.out)
     have R85xb := Lib.hid (R84xb.out.belowW HC85.out)
     have HR85 := Lib.hid (HR84.out.trans (HC85.out.mono HR84.out.size))
     have hS2 : S2.size = (par true lb).length := by rw [strp_size HS2.out, ← HQB.out]
     go_wp2_with fail
     clear hHeld
     refine hK.out _ _ ?_ (fun hHeld => ?_)
     case refine_1 => exact ⟨R85xa.out.cell 0, R85xa.out.cell 1, R85xa.out.cell 2, R85xa.out.cell 3, R85xa.out.cell 4, R85xa.out.cell 5, R85xb.out.cell 0, R85xb.out.cell 1, R85xb.out.cell 2, R85xb.out.cell 3, R85xb.out.cell 4, R85xb.out.cell 5⟩
     clear hK K
     try simp only [qa, qb, qc]
     refine tkW 17 ?_
     refine tkW 18 ?_
     refine wpAnyH_done (by kernel_rfl) ?_ _
     have HL85 := Lib.hid (HL80.out.trans (HR85.out.mono HL80.out.size))
     go_wp2_with fail
     go_ret
     exact ⟨_, rfl, Lib.hid (by rw [data_app, data_app, HS1.out, HS2.out, ← HQA.out, ← HQB.out, HTX.out, List.append_assoc]), HL85⟩
   | true =>
    have HN2 := Lib.hid (show nb = true by rw [HNB.out]; unfold need2; rw [ds]; rfl)
    rw [HN2.out] at c2 HTX hplb
    have Hds := Lib.hid ds
    clear ds
    have HR81 := Lib.hid (below_dr w3)
    have R81t := Lib.hid (F80t.out.belowW HR81.out)
    have R81i0 := Lib.hid (F80i0.out.belowW HR81.out)
    have R81i1 := Lib.hid (F80i1.out.belowW HR81.out)
    have R81e0 := Lib.hid (F80e0.out.belowW HR81.out)
    have R81e1 := Lib.hid (F80e1.out.belowW HR81.out)
    have R81bx := Lib.hid (F80bx.out.belowW HR81.out)
    have R81xa := Lib.hid (F80xa.out.belowW HR81.out)
    have R81xb := Lib.hid (F80xb.out.belowW HR81.out)
    refine wp_region_held_drew (S := fun w' => w'.cell? ⟨ga, 0, none⟩ = some (.int .i64 x.h.kind) ∧ w'.cell? ⟨ga, 1, none⟩ = some (.int .i64 x.h.n) ∧ w'.cell? ⟨ga, 2, none⟩ = some (.int .i64 x.h.d) ∧ w'.cell? ⟨ga, 3, none⟩ = some (.string x.h.name) ∧ w'.cell? ⟨ga, 4, none⟩ = some (.int .i64 x.h.k) ∧ w'.cell? ⟨ga, 5, none⟩ = some (.slice x.A x.len x.cap) ∧ w'.cell? ⟨gb, 0, none⟩ = some (.int .i64 y.h.kind) ∧ w'.cell? ⟨gb, 1, none⟩ = some (.int .i64 y.h.n) ∧ w'.cell? ⟨gb, 2, none⟩ = some (.int .i64 y.h.d) ∧ w'.cell? ⟨gb, 3, none⟩ = some (.string y.h.name) ∧ w'.cell? ⟨gb, 4, none⟩ = some (.int .i64 y.h.k) ∧ w'.cell? ⟨gb, 5, none⟩ = some (.slice y.A y.len y.cap)) (by kernel_rfl) ?_ (fun hHeld => ?_)
    case refine_1 => exact ⟨R81xa.out.cell 0, R81xa.out.cell 1, R81xa.out.cell 2, R81xa.out.cell 3, R81xa.out.cell 4, R81xa.out.cell 5, R81xb.out.cell 0, R81xb.out.cell 1, R81xb.out.cell 2, R81xb.out.cell 3, R81xb.out.cell 4, R81xb.out.cell 5⟩
    refine tkW 0 ?_
    refine tkW 1 ?_
    refine tkW 3 ?_
    refine tkW 5 ?_
    refine tkW 6 ?_
    refine wpAnyH_ready (rs := [2]) (by kernel_rfl) (by simp) ?_
    refine AllReadyH.cons rfl (fun K hK => ?_) AllReadyH.nil
    go_simp
    (with_reducible refine (operand_at f IH.out T.a x _ na R81i0.out HGA.out HLA.out R81t.out).mono ?_)
    rintro e w82 ⟨S1, rfl, HS1, HC82⟩
    have R82t := Lib.hid (R81t.out.belowW HC82.out)
    have R82i0 := Lib.hid (R81i0.out.belowW HC82.out)
    have R82i1 := Lib.hid (R81i1.out.belowW HC82.out)
    have R82e0 := Lib.hid (R81e0.out.belowW HC82.out)
    have R82e1 := Lib.hid (R81e1.out.belowW HC82.out)
    have R82bx := Lib.hid (R81bx.out.belowW HC82.out)
    have R82xa := Lib.hid (R81xa.out.belowW HC82.out)
    have R82xb := Lib.hid (R81xb.out.belowW HC82.out)
    have HR82 := Lib.hid (HR81.out.trans (HC82.out.mono HR81.out.size))
    have hS1 : S1.size = (par na la).length := by rw [strp_size HS1.out, ← HQA.out]
    go_wp2_with fail
    clear hHeld
    refine hK.out _ _ ?_ (fun hHeld => ?_)
    case refine_1 => exact ⟨R82xa.out.cell 0, R82xa.out.cell 1, R82xa.out.cell 2, R82xa.out.cell 3, R82xa.out.cell 4, R82xa.out.cell 5, R82xb.out.cell 0, R82xb.out.cell 1, R82xb.out.cell 2, R82xb.out.cell 3, R82xb.out.cell 4, R82xb.out.cell 5⟩
    clear hK K
    try simp only [qa, qb, qc]
    refine tkW 4 ?_
    refine wpAnyH_ready (rs := [7]) (by kernel_rfl) (by simp) ?_
    refine AllReadyH.cons rfl (fun K hK => ?_) AllReadyH.nil
    go_simp
    (with_reducible refine (sum_p y _).mono ?_)
    rw [Hds.out]
    rintro e w83 ⟨rfl, HC83⟩
    have R83t := Lib.hid (R82t.out.belowW HC83.out)
    have R83i0 := Lib.hid (R82i0.out.belowW HC83.out)
    have R83i1 := Lib.hid (R82i1.out.belowW HC83.out)
    have R83e0 := Lib.hid (R82e0.out.belowW HC83.out)
    have R83e1 := Lib.hid (R82e1.out.belowW HC83.out)
    have R83bx := Lib.hid (R82bx.out.belowW HC83.out)
    have R83xa := Lib.hid (R82xa.out.belowW HC83.out)
    have R83xb := Lib.hid (R82xb.out.belowW HC83.out)
    have HR83 := Lib.hid (HR82.out.trans (HC83.out.mono HR82.out.size))
    go_wp2_with fail
    clear hHeld
    refine hK.out _ _ ?_ (fun hHeld => ?_)
    case refine_1 => exact ⟨R83xa.out.cell 0, R83xa.out.cell 1, R83xa.out.cell 2, R83xa.out.cell 3, R83xa.out.cell 4, R83xa.out.cell 5, R83xb.out.cell 0, R83xb.out.cell 1, R83xb.out.cell 2, R83xb.out.cell 3, R83xb.out.cell 4, R83xb.out.cell 5⟩
    clear hK K
    try simp only [qa, qb, qc]
    refine tkW 8 ?_
    refine tkV 9 ?_
    refine tkV 10 ?_
    refine tkW 11 ?_
    refine tkW 12 ?_
    refine tkV 13 ?_
    refine tkV 14 ?_
    refine tkW 15 ?_
    refine wpAnyH_ready (rs := [16]) (by kernel_rfl) (by simp) ?_
    refine AllReadyH.cons rfl (fun K hK => ?_) AllReadyH.nil
    go_simp
    (with_reducible refine (operand_at f IH.out T.b y _ true R83i1.out HGB.out HLB.out R83t.out).mono ?_)
    rintro e w84 ⟨S2, rfl, HS2, HC84⟩
    have R84t := Lib.hid (R83t.out.belowW HC84.out)
    have R84i0 := Lib.hid (R83i0.out.belowW HC84.out)
    have R84i1 := Lib.hid (R83i1.out.belowW HC84.out)
    have R84e0 := Lib.hid (R83e0.out.belowW HC84.out)
    have R84e1 := Lib.hid (R83e1.out.belowW HC84.out)
    have R84bx := Lib.hid (R83bx.out.belowW HC84.out)
    have R84xa := Lib.hid (R83xa.out.belowW HC84.out)
    have R84xb := Lib.hid (R83xb.out.belowW HC84.out)
    have HR84 := Lib.hid (HR83.out.trans (HC84.out.mono HR83.out.size))
    have hS2 : S2.size = (par true lb).length := by rw [strp_size HS2.out, ← HQB.out]
    go_wp2_with fail
    clear hHeld
    refine hK.out _ _ ?_ (fun hHeld => ?_)
    case refine_1 => exact ⟨R84xa.out.cell 0, R84xa.out.cell 1, R84xa.out.cell 2, R84xa.out.cell 3, R84xa.out.cell 4, R84xa.out.cell 5, R84xb.out.cell 0, R84xb.out.cell 1, R84xb.out.cell 2, R84xb.out.cell 3, R84xb.out.cell 4, R84xb.out.cell 5⟩
    clear hK K
    try simp only [qa, qb, qc]
    refine tkW 17 ?_
    refine tkW 18 ?_
    refine wpAnyH_done (by kernel_rfl) ?_ _
    have HL84 := Lib.hid (HL80.out.trans (HR84.out.mono HL80.out.size))
    go_wp2_with fail
    go_ret
    exact ⟨_, rfl, Lib.hid (by rw [data_app, data_app, HS1.out, HS2.out, ← HQA.out, ← HQB.out, HTX.out, List.append_assoc]), HL84⟩
end Go.Proofs.YtkjoohnndobjeaaGreatDoor
