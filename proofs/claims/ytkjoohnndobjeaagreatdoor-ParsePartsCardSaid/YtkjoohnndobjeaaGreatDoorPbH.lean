/-
 The walk of parse.Problem.
-/
import Derived.Test.YtkjoohnndobjeaaGreatDoorPbG
import Derived.Test.YtkjoohnndobjeaaGreatDoorQL
set_option linter.unusedVariables false
set_option maxHeartbeats 4000000
set_option maxRecDepth 100000
namespace Go.Proofs.YtkjoohnndobjeaaGreatDoor
open Go.RowKit Go.Fl Go.Fl.Lx Go.Fl.Nm Go.Fl.Fm Go.Fl.Rt Go.Fl.Pa
open List (setIfInBounds_toArray set_cons_zero set_cons_succ getElem_toArray getElem_cons_zero getElem_cons_succ)
def probR (l : List UInt8) : (Nat × Nat × Nat) × Option PbP := runR l (fun ts => probP nameP ts 0) PbP.ok
def GotPb (o : Option PbP) (bx : Nat) (w w' : World) : Prop := ∃ T v, o = some T ∧ Hid (Blk w' bx 68 #[.slice v.A v.n v.c, .slice v.B v.m v.d, .slice v.C v.k v.e, .int .i64 v.t, .int .i64 v.u]) ∧ Hid (InXP w.heap.size w' T v)

theorem pRunProblem (s : ByteArray) (w : World) (hs : s.size ≤ maxLen) (bx : Nat) (hB : Blk w bx 68 #[.slice none 0 0, .slice none 0 0, .slice none 0 0, .int .i64 0, .int .i64 0]) (hR : RX w) (hX : FX w) :
    Calls Tryz.prog 46 #[.string s, .func (.func 68) #[] #[.pointer (some ⟨bx, 0, none⟩)]] w (RunP (GotPb (probR s.data.toList).2 bx) bx (probR s.data.toList).1 w) := by
  have cz : ∀ (fn : Fn) (first H : Array Value) (w : World), (Instr.makeFunc fn first H).run Tryz.prog w = .ok (.func fn first H) w := fun _ _ _ _ => rfl
  have cg := hI hB
  have HR := hI hR
  have HX := hI hX
  obtain ⟨E, a9⟩ := eX (probR s.data.toList)
  have av := hI a9
  rw [← a9]
  have cj : bx < w.heap.size := Blk.lt hB
  clear hB hR hX a9
  go_enter_defers Tryz.func46, Tryz.ntmps46
  go_upto_region 1 with (fail)
  obtain ⟨w1, ac⟩ := eX ((w.alloc (Obj.cells #[.int .i64 0, .int .i64 0] 40)).alloc (Obj.cells #[.int .i64 0] 41))
  have O1 := hI (show Below w.heap.size w w1 by rw [ac]; exact (below_box _ _).trans ((below_box _ _).mono (by simp)))
  have A1 := hI (show Blk w1 w.heap.size 40 #[.int .i64 0, .int .i64 0] by rw [ac]; exact (Blk.new w 40 #[.int .i64 0, .int .i64 0]).belowW (below_box _ _))
  have B1 := hI (show Blk w1 (w.heap.size + 1) 41 #[.int .i64 0] by rw [ac]; exact (by have := Blk.new (w.alloc (Obj.cells #[.int .i64 0, .int .i64 0] 40)) 41 #[.int .i64 0]; simpa using this))
  rw [← ac]
  clear ac
  have c0 : w.heap.size + 1 < w1.heap.size := B1.out.lt
  have c1 : s.size ≤ maxLen := hs
  go_wp2_with fail
  refine (split_any s w1 hs).mono ?_
  rintro e w2 ⟨hb2, hres⟩
  have O2 := hI (show Below w.heap.size w w2 from O1.out.trans (hb2.mono O1.out.size))
  have P := hI (A1.out.belowW hb2)
  have B2 := hI (B1.out.belowW hb2)
  have bn := hI (cg.out.belowW O2.out)
  have c2 := hb2.size
  have bo := hI (grown_of (some bx) O2.out)
  have I : w.heap.size ≠ w.heap.size + 1 := by omega
  have ad : w.heap.size + 1 ≠ w.heap.size := by omega
  have Q : bx ≠ w.heap.size := by omega
  have R : bx ≠ w.heap.size + 1 := by omega
  clear hb2
  cases hl : lexRes s.data.toList with
  | error p =>
    obtain ⟨c, d, i⟩ := p
    have cl := (lexRes_err hl).1
    have ae : ¬ i = 0 := cl
    rw [hl] at hres
    simp only at hres
    have l := hI (show E = ((c, d, i), none) by rw [av.out]; unfold probR runR; rw [hl])
    subst hres
    clear hl av
    have d1 : (((i : Nat) : Int) != 0) = true := by rw [bne_iff_ne]; omega
    obtain ⟨j, U, k, V⟩ := P.out.all2
    obtain ⟨a, y⟩ := B2.out.all1
    go_upto_region 2 with (fail)
    rw [pst2 P.out]
    have m := hI (B2.out.far (t' := 40) ad #[.int .i64 (c : Nat), .int .i64 (d : Nat)])
    rw [pst1 m.out]
    have A3 := hI ((P.out.put #[.int .i64 (c : Nat), .int .i64 (d : Nat)]).far (t' := 41) I #[.int .i64 (i : Nat)])
    have F := hI (m.out.put #[.int .i64 (i : Nat)])
    have ay := hI ((bn.out.far (t' := 40) Q #[.int .i64 (c : Nat), .int .i64 (d : Nat)]).far (t' := 41) R #[.int .i64 (i : Nat)])
    have az := hI (grown_new (grown_new bo.out (Nat.le_refl _) 40 #[.int .i64 (c : Nat), .int .i64 (d : Nat)]) (Nat.le_succ _) 41 #[.int .i64 (i : Nat)])
    have J := hI ((O2.out.trans (putB_below w2 w.heap.size 40 #[.int .i64 (c : Nat), .int .i64 (d : Nat)] (Nat.le_refl _))).trans (putB_below (putB w2 w.heap.size 40 #[.int .i64 (c : Nat), .int .i64 (d : Nat)]) (w.heap.size + 1) 41 #[.int .i64 (i : Nat)] (Nat.le_succ _)))
    obtain ⟨z, L⟩ := eX (putB (putB w2 w.heap.size 40 #[.int .i64 (c : Nat), .int .i64 (d : Nat)]) (w.heap.size + 1) 41 #[.int .i64 (i : Nat)])
    rw [← L] at A3 F ay az J ⊢
    clear L m
    clear j U k V a y
    obtain ⟨a, y⟩ := F.out.all1
    go_upto_region 3 with (fail)
    clear a y
    refine wp_norm ?_
    have a0 := hI (below_dr z)
    have W := hI (A3.out.belowW a0.out)
    have ba := hI (F.out.belowW a0.out)
    have bq := hI (grown_tr az.out (grown_of (some bx) a0.out))
    refine wp_region_held_drew (S := fun w' => w'.cell? ⟨w.heap.size, 0, none⟩ = some (.int .i64 (c : Nat)) ∧ w'.cell? ⟨w.heap.size, 1, none⟩ = some (.int .i64 (d : Nat)) ∧ w'.cell? ⟨w.heap.size + 1, 0, none⟩ = some (.int .i64 (i : Nat))) (by kernel_rfl) ?_ (fun hHeld => ?_)
    case refine_1 => exact ⟨W.out.cell 0, W.out.cell 1, ba.out.cell 0⟩
    obtain ⟨cm, G⟩ := eX (z.drew)
    rw [← G] at a0 W ba bq hHeld ⊢
    clear G
    refine tkY 0 rfl (v := ?_) (.inl ⟨by rfl, ?_⟩) ?_
    case refine_2 => intro w9 hSw; (try dsimp only at hSw); go_simp; (try with_reducible rfl)
    try simp only [Act.put, setIfInBounds_toArray, set_cons_zero, set_cons_succ, getElem_toArray, getElem_cons_zero]
    refine tkY 1 rfl (v := ?_) (.inl ⟨by rfl, ?_⟩) ?_
    case refine_2 => intro w9 hSw; (try dsimp only at hSw); go_simp; (try with_reducible rfl)
    try simp only [Act.put, setIfInBounds_toArray, set_cons_zero, set_cons_succ, getElem_toArray, getElem_cons_zero, getElem_cons_succ]
    refine wpAnyH_ready (rs := [2]) (by kernel_rfl) (by simp) ?_
    refine (AllReadyH.cons rfl (fun K hK => ?_) AllReadyH.nil)
    obtain ⟨bb, bc, cn, cp⟩ := W.out.all2
    go_simp
    rw [pst2 W.out]
    clear bb bc cn cp
    have ag := hI (ba.out.far (t' := 40) ad #[.int .i64 (c : Nat), .int .i64 (d : Nat)])
    have br := hI (grown_new bq.out (Nat.le_refl _) 40 #[.int .i64 (c : Nat), .int .i64 (d : Nat)])
    have a1 := hI (W.out.put #[.int .i64 (c : Nat), .int .i64 (d : Nat)])
    obtain ⟨cq, u⟩ := eX (putB cm (w.heap.size) 40 #[.int .i64 (c : Nat), .int .i64 (d : Nat)])
    try rw [← u] at ag
    try rw [← u] at br
    try rw [← u] at a1
    rw [← u]
    clear u hHeld
    refine hK.out _ _ ?_ (fun hHeld => ?_)
    case refine_1 => exact ⟨a1.out.cell 0, a1.out.cell 1, ag.out.cell 0⟩
    clear hK K
    try simp only [setIfInBounds_toArray, set_cons_zero, set_cons_succ]
    refine wpAnyH_ready (rs := [3]) (by kernel_rfl) (by simp) ?_
    refine (AllReadyH.cons rfl (fun K hK => ?_) AllReadyH.nil)
    obtain ⟨bb, bc⟩ := ag.out.all1
    go_simp
    rw [pst1 ag.out]
    clear bb bc
    have bs := hI (grown_new br.out (Nat.le_succ _) 41 #[.int .i64 (i : Nat)])
    have a2 := hI (a1.out.far (t' := 41) I #[.int .i64 (i : Nat)])
    have bd := hI (ag.out.put #[.int .i64 (i : Nat)])
    obtain ⟨c3, u⟩ := eX (putB cq (w.heap.size + 1) 41 #[.int .i64 (i : Nat)])
    try rw [← u] at bs
    try rw [← u] at a2
    try rw [← u] at bd
    rw [← u]
    clear u hHeld
    refine hK.out _ _ ?_ (fun hHeld => ?_)
    case refine_1 => exact ⟨a2.out.cell 0, a2.out.cell 1, bd.out.cell 0⟩
    clear hK K
    try simp only [setIfInBounds_toArray, set_cons_zero, set_cons_succ]
    refine wpAnyH_done (by kernel_rfl) ?_ _
    obtain ⟨j, _, k, _⟩ := a2.out.all2
    obtain ⟨a, _⟩ := bd.out.all1
    go_wp2_with fail
    simp [bodyPostD, Leaves, results, Tryz.results46, go_sem, j, k, a]
    exact ⟨by rw [l.out], bs, hI (fun h => absurd h (by rw [l.out]; exact ae))⟩
  | ok ts =>
    rw [hl] at hres
    obtain ⟨v0, X, ho⟩ := hres
    obtain ⟨hD, A, q, H, cr, bv, hT, bz⟩ := ts_of hl ho
    have b0 := hI (show E = runR s.data.toList (fun ts => probP nameP ts 0) PbP.ok from av.out)
    have b1 := hI hl
    have cs := hI hT
    have be := hI bz
    have c5 := hI bv
    have ct := hI hD
    subst X
    subst cr
    clear hl av ho hT bz bv hD
    have cu := hI (show 0 < q → ∀ b o, A = some ⟨b, o, none⟩ → b ≠ w.heap.size from fun h b o e => by have := be.out h b o e; omega)
    have cv := hI (show 0 < q → ∀ b o, A = some ⟨b, o, none⟩ → b ≠ w.heap.size + 1 from fun h b o e => by have := be.out h b o e; omega)
    have cw := hI (show 0 < q → ∀ b o, A = some ⟨b, o, none⟩ → b ≠ bx from fun h b o e => by have := be.out h b o e; omega)
    obtain ⟨j, U, k, V⟩ := P.out.all2
    obtain ⟨a, y⟩ := B2.out.all1
    go_upto_region 2 with (fail)
    rw [pst2 P.out]
    have m := hI (B2.out.far (t' := 40) ad #[.int .i64 0, .int .i64 0])
    rw [pst1 m.out]
    have A3 := hI ((P.out.put #[.int .i64 0, .int .i64 0]).far (t' := 41) I #[.int .i64 0])
    have F := hI (m.out.put #[.int .i64 0])
    have ay := hI ((bn.out.far (t' := 40) Q #[.int .i64 0, .int .i64 0]).far (t' := 41) R #[.int .i64 0])
    have az := hI (grown_new (grown_new bo.out (Nat.le_refl _) 40 #[.int .i64 0, .int .i64 0]) (Nat.le_succ _) 41 #[.int .i64 0])
    have J := hI ((O2.out.trans (putB_below w2 w.heap.size 40 #[.int .i64 0, .int .i64 0] (Nat.le_refl _))).trans (putB_below (putB w2 w.heap.size 40 #[.int .i64 0, .int .i64 0]) (w.heap.size + 1) 41 #[.int .i64 0] (Nat.le_succ _)))
    have b2 := hI ((cs.out.put cu.out 40 #[.int .i64 0, .int .i64 0]).put cv.out 41 #[.int .i64 0])
    obtain ⟨z, L⟩ := eX (putB (putB w2 w.heap.size 40 #[.int .i64 0, .int .i64 0]) (w.heap.size + 1) 41 #[.int .i64 0])
    rw [← L] at A3 F ay az J b2 ⊢
    clear L m
    clear j U k V a y
    obtain ⟨a, y⟩ := F.out.all1
    go_upto_region 6 with (fail)
    clear a y
    obtain ⟨w4, a3⟩ := eX (z.alloc (Obj.cells #[.slice A q H, .int .i64 0, .int .i64 0] 140))
    have bg := hI (show Env z z.heap.size A q H ts 0 0 w4 by rw [a3]; exact Env.at0 b2.out)
    have bh := hI (show Below z.heap.size z w4 by rw [a3]; exact below_box _ _)
    rw [← a3]
    clear a3
    have A4 := hI (A3.out.belowW bh.out)
    have B4 := hI (F.out.belowW bh.out)
    have O4 := hI (J.out.trans (bh.out.mono J.out.size))
    have L : w.heap.size + 1 < z.heap.size := F.out.lt
    have HK := hI (pProblem1 bg.out (HR.out.belowW J.out) (HX.out.belowW J.out) ct.out bx (Nat.lt_trans cj (by omega)) ay.out cw.out)
    obtain ⟨g, hg⟩ := eX (z.heap.size)
    rw [← hg] at bg HK L ⊢
    have b7 : w.heap.size ≠ g := by omega
    have b8 : w.heap.size + 1 ≠ g := by omega
    clear hg
    have c6 : g < w4.heap.size := bg.out.gl
    obtain ⟨r, hr⟩ := eX (probP nameP ts 0)
    have x := hI (show E = runS ts PbP.ok r by rw [b0.out]; unfold runR; rw [b1.out, hr])
    rw [← hr] at HK
    have cx := hI hr
    clear hr b0 b1
    cases r with
    | out =>
      go_wp2_with fail
      refine HK.out.mono ?_
      rintro e w5 X
      exact X.elim
    | bad c d i =>
      have l := hI (show E = ((c, d, i), none) from x.out)
      have ae : ¬ i = 0 := errat_ne (prob_eb (nm := nameP) (ts := ts) 0 c d i cx.out.symm)
      clear x
      go_wp2_with fail
      refine HK.out.mono ?_
      rintro e w5 ⟨rfl, HG5⟩
      go_wp2_with fail
      have Y := hI (Blk.gr2 A4.out HG5.out b7 (Ne.symm Q))
      have Z := hI (Blk.gr2 B4.out HG5.out b8 (Ne.symm R))
      have GW := hI (gr2_w O4.out (by omega) HG5.out)
      refine leaves_cons (f := 90) (args := #[.pointer (some ⟨w.heap.size, 0, none⟩), .pointer (some ⟨w.heap.size + 1, 0, none⟩)]) (by simp) (by simp [go_sem]) ?_
      refine (run1_panic w.heap.size (w.heap.size + 1) 0 0 0 c d i [] w5 Y.out Z.out I).mono ?_
      rintro e u' w6 ⟨rfl, rfl, HA6, HB6, HG6⟩
      obtain ⟨j, _, k, _⟩ := HA6.out.all2
      obtain ⟨a, _⟩ := HB6.out.all1
      simp [Leaves, settle, results, Tryz.results46, go_sem, j, k, a]
      exact ⟨(by rw [l.out]; try rfl), hI (gr2_new GW.out (Nat.le_refl _) (Nat.le_succ _) HG6.out), hI (fun h => absurd h (by rw [l.out]; exact ae))⟩
    | ok T k1 =>
      go_wp2_with fail
      refine HK.out.mono ?_
      rintro e w5 ⟨v, wb, rfl, HBX5, HX5, HV5, HG5⟩
      have Y := hI (Blk.gr2 A4.out HG5.out b7 (Ne.symm Q))
      have Z := hI (Blk.gr2 B4.out HG5.out b8 (Ne.symm R))
      have a5 := hI (gr2_w O4.out (by omega) HG5.out)
      have b9 := hI HV5.out.t.hl
      by_cases hlt : k1 < q
      · have bj : k1 < ts.length := by rw [b9.out]; exact hlt
        have l := hI (show E = (((tk ts k1).line, (tk ts k1).col, 3), none) from x.out.trans (if_pos bj))
        have ae : ¬ (3 : Nat) = 0 := by decide
        have d1 : decide ((k1 : Int) < (q : Int)) = true := decide_eq_true (by omega)
        have d2 : decide (k1 < q) = true := decide_eq_true hlt
        have ca : panU ts k1 = pan (tk ts k1).line (tk ts k1).col 3 := by unfold panU; rw [if_neg (by omega)]
        have cb := hI ca
        obtain ⟨c, cc⟩ := eX ((tk ts k1).line)
        obtain ⟨d, cd⟩ := eX ((tk ts k1).col)
        rw [← cc, ← cd] at l cb
        clear x ca cc cd
        go_upto_region 7 with (fail)
        refine wp_norm ?_
        have n := hI (below_dr w5)
        have aj := hI (Y.out.belowW n.out)
        have ak := hI (Z.out.belowW n.out)
        have al := hI (HBX5.out.belowW n.out)
        have am := hI (HX5.out.belowW n.out)
        have B := hI (HV5.out.belowW n.out)
        have an := hI (grown_tr a5.out (grown_of (some bx) n.out))
        refine wp_region_held_drew (S := fun w' => w'.cell? ⟨g, 0, none⟩ = some (.slice A q H) ∧ w'.cell? ⟨g, 1, none⟩ = some (.int .i64 (k1 : Nat))) (by kernel_rfl) ?_ (fun hHeld => ?_)
        case refine_1 => exact ⟨Blk.cell B.out.p 0, Blk.cell B.out.p 1⟩
        obtain ⟨bk, G⟩ := eX (w5.drew)
        rw [← G] at n aj ak al am B an hHeld ⊢
        clear G
        refine tkY 0 rfl (v := ?_) (.inl ⟨by rfl, ?_⟩) ?_
        case refine_2 => intro w9 hSw; (try dsimp only at hSw); go_simp; (try with_reducible rfl)
        try simp only [Act.put, setIfInBounds_toArray, set_cons_zero, set_cons_succ, getElem_toArray, getElem_cons_zero]
        refine tkY 1 rfl (v := ?_) (.inl ⟨by rfl, ?_⟩) ?_
        case refine_2 => intro w9 hSw; (try dsimp only at hSw); go_simp; (try with_reducible rfl)
        try simp only [Act.put, setIfInBounds_toArray, set_cons_zero, set_cons_succ, getElem_toArray, getElem_cons_zero, getElem_cons_succ]
        refine tkY 2 rfl (v := ?_) (.inl ⟨by rfl, ?_⟩) ?_
        case refine_2 => intro w9 hSw; (try dsimp only at hSw); go_simp; (try with_reducible rfl)
        try simp only [Act.put, setIfInBounds_toArray, set_cons_zero, set_cons_succ, getElem_toArray, getElem_cons_zero, getElem_cons_succ]
        refine tkY 3 rfl (v := ?_) (.inl ⟨by rfl, ?_⟩) ?_
        case refine_2 => intro w9 hSw; (try dsimp only at hSw); go_simp; (try with_reducible rfl)
        try simp only [Act.put, setIfInBounds_toArray, set_cons_zero, set_cons_succ, getElem_toArray, getElem_cons_zero, getElem_cons_succ]
        refine tkY 4 rfl (v := ?_) (.inl ⟨by rfl, ?_⟩) ?_
        case refine_2 => intro w9 hSw; (try dsimp only at hSw); go_simp; (try with_reducible rfl)
        try simp only [Act.put, setIfInBounds_toArray, set_cons_zero, set_cons_succ, getElem_toArray, getElem_cons_zero, getElem_cons_succ]
        refine tkY 5 rfl (v := ?_) (.inl ⟨by rfl, ?_⟩) ?_
        case refine_2 => intro w9 hSw; (try dsimp only at hSw); go_simp; (try with_reducible rfl)
        try simp only [Act.put, setIfInBounds_toArray, set_cons_zero, set_cons_succ, getElem_toArray, getElem_cons_zero, getElem_cons_succ]
        refine tkY 6 rfl (v := ?_) (.inl ⟨by rfl, ?_⟩) ?_
        case refine_2 => intro w9 hSw; (try dsimp only at hSw); go_simp; (try with_reducible rfl)
        try simp only [Act.put, setIfInBounds_toArray, set_cons_zero, set_cons_succ, getElem_toArray, getElem_cons_zero, getElem_cons_succ]
        refine tkY 7 rfl (v := ?_) (.inl ⟨by rfl, ?_⟩) ?_
        case refine_2 => intro w9 hSw; (try dsimp only at hSw); go_simp; (try with_reducible rfl)
        try simp only [Act.put, setIfInBounds_toArray, set_cons_zero, set_cons_succ, getElem_toArray, getElem_cons_zero, getElem_cons_succ]
        refine tkY 8 rfl (v := ?_) (.inl ⟨by rfl, ?_⟩) ?_
        case refine_2 => intro w9 hSw; (try dsimp only at hSw); go_simp; (try with_reducible rfl)
        try simp only [Act.put, setIfInBounds_toArray, set_cons_zero, set_cons_succ, getElem_toArray, getElem_cons_zero, getElem_cons_succ]
        refine tkY 9 rfl (v := ?_) (.inl ⟨by rfl, ?_⟩) ?_
        case refine_2 => intro w9 hSw; (try dsimp only at hSw); go_simp; (try with_reducible rfl)
        try simp only [Act.put, setIfInBounds_toArray, set_cons_zero, set_cons_succ, getElem_toArray, getElem_cons_zero, getElem_cons_succ]
        refine wpAnyH_done (by kernel_rfl) ?_ _
        go_wp2_with fail
        have D := aj
        have M := ak
        have ao := al
        have a6 := am
        have a7 := B
        have aa := an
        clear Y Z HBX5 HX5 HV5 a5
        obtain ⟨w6, ap⟩ := eX (bk)
        rw [← ap] at D M ao a6 a7 aa ⊢
        clear ap
        refine a7.out.unx.mono ?_
        rintro e w7 ⟨X, HB7⟩
        rw [cb.out] at X
        subst X
        have N := hI (D.out.belowW HB7.out)
        have O := hI (M.out.belowW HB7.out)
        have GW := hI (grown_tr aa.out (grown_of (some bx) HB7.out))
        go_wp2_with fail
        refine leaves_cons (f := 90) (args := #[.pointer (some ⟨w.heap.size, 0, none⟩), .pointer (some ⟨w.heap.size + 1, 0, none⟩)]) (by simp) (by simp [go_sem]) ?_
        refine (run1_panic w.heap.size (w.heap.size + 1) 0 0 0 c d 3 [] w7 N.out O.out I).mono ?_
        rintro e u' w6 ⟨rfl, rfl, HA6, HB6, HG6⟩
        obtain ⟨j, _, k, _⟩ := HA6.out.all2
        obtain ⟨a, _⟩ := HB6.out.all1
        simp [Leaves, settle, results, Tryz.results46, go_sem, j, k, a]
        exact ⟨(by rw [l.out]; try rfl), hI (gr2_new GW.out (Nat.le_refl _) (Nat.le_succ _) HG6.out), hI (fun h => absurd h (by rw [l.out]; exact ae))⟩
      · have bj : ¬ k1 < ts.length := by rw [b9.out]; exact hlt
        have x := hI (show E = (if PbP.ok T then ((0, 0, 0), some T) else ((0, 0, 5), some T)) from x.out.trans (if_neg bj))
        have d1 : decide ((k1 : Int) < (q : Int)) = false := decide_eq_false (by omega)
        have d2 : decide (k1 < q) = false := decide_eq_false hlt
        obtain ⟨b, hb⟩ := eX (PbP.ok T)
        rw [← hb] at x ⊢
        clear hb
        go_upto_region 7 with (fail)
        refine wp_norm ?_
        have n := hI (below_dr w5)
        have aj := hI (Y.out.belowW n.out)
        have ak := hI (Z.out.belowW n.out)
        have al := hI (HBX5.out.belowW n.out)
        have am := hI (HX5.out.belowW n.out)
        have B := hI (HV5.out.belowW n.out)
        have an := hI (grown_tr a5.out (grown_of (some bx) n.out))
        refine wp_region_held_drew (S := fun w' => w'.cell? ⟨g, 0, none⟩ = some (.slice A q H) ∧ w'.cell? ⟨g, 1, none⟩ = some (.int .i64 (k1 : Nat))) (by kernel_rfl) ?_ (fun hHeld => ?_)
        case refine_1 => exact ⟨Blk.cell B.out.p 0, Blk.cell B.out.p 1⟩
        obtain ⟨bk, G⟩ := eX (w5.drew)
        rw [← G] at n aj ak al am B an hHeld ⊢
        clear G
        refine tkY 0 rfl (v := ?_) (.inl ⟨by rfl, ?_⟩) ?_
        case refine_2 => intro w9 hSw; (try dsimp only at hSw); go_simp; (try with_reducible rfl)
        try simp only [Act.put, setIfInBounds_toArray, set_cons_zero, set_cons_succ, getElem_toArray, getElem_cons_zero]
        refine tkY 1 rfl (v := ?_) (.inl ⟨by rfl, ?_⟩) ?_
        case refine_2 => intro w9 hSw; (try dsimp only at hSw); go_simp; (try with_reducible rfl)
        try simp only [Act.put, setIfInBounds_toArray, set_cons_zero, set_cons_succ, getElem_toArray, getElem_cons_zero, getElem_cons_succ]
        refine tkY 2 rfl (v := ?_) (.inl ⟨by rfl, ?_⟩) ?_
        case refine_2 => intro w9 hSw; (try dsimp only at hSw); go_simp; (try with_reducible rfl)
        try simp only [Act.put, setIfInBounds_toArray, set_cons_zero, set_cons_succ, getElem_toArray, getElem_cons_zero, getElem_cons_succ]
        refine tkY 3 rfl (v := ?_) (.inl ⟨by rfl, ?_⟩) ?_
        case refine_2 => intro w9 hSw; (try dsimp only at hSw); go_simp; (try with_reducible rfl)
        try simp only [Act.put, setIfInBounds_toArray, set_cons_zero, set_cons_succ, getElem_toArray, getElem_cons_zero, getElem_cons_succ]
        refine tkY 4 rfl (v := ?_) (.inl ⟨by rfl, ?_⟩) ?_
        case refine_2 => intro w9 hSw; (try dsimp only at hSw); go_simp; (try with_reducible rfl)
        try simp only [Act.put, setIfInBounds_toArray, set_cons_zero, set_cons_succ, getElem_toArray, getElem_cons_zero, getElem_cons_succ]
        refine tkY 5 rfl (v := ?_) (.inl ⟨by rfl, ?_⟩) ?_
        case refine_2 => intro w9 hSw; (try dsimp only at hSw); go_simp; (try with_reducible rfl)
        try simp only [Act.put, setIfInBounds_toArray, set_cons_zero, set_cons_succ, getElem_toArray, getElem_cons_zero, getElem_cons_succ]
        refine tkY 6 rfl (v := ?_) (.inl ⟨by rfl, ?_⟩) ?_
        case refine_2 => intro w9 hSw; (try dsimp only at hSw); go_simp; (try with_reducible rfl)
        try simp only [Act.put, setIfInBounds_toArray, set_cons_zero, set_cons_succ, getElem_toArray, getElem_cons_zero, getElem_cons_succ]
        refine tkY 7 rfl (v := ?_) (.inl ⟨by rfl, ?_⟩) ?_
        case refine_2 => intro w9 hSw; (try dsimp only at hSw); go_simp; (try with_reducible rfl)
        try simp only [Act.put, setIfInBounds_toArray, set_cons_zero, set_cons_succ, getElem_toArray, getElem_cons_zero, getElem_cons_succ]
        refine tkY 8 rfl (v := ?_) (.inl ⟨by rfl, ?_⟩) ?_
        case refine_2 => intro w9 hSw; (try dsimp only at hSw); go_simp; (try with_reducible rfl)
        try simp only [Act.put, setIfInBounds_toArray, set_cons_zero, set_cons_succ, getElem_toArray, getElem_cons_zero, getElem_cons_succ]
        refine tkY 9 rfl (v := ?_) (.inl ⟨by rfl, ?_⟩) ?_
        case refine_2 => intro w9 hSw; (try dsimp only at hSw); go_simp; (try with_reducible rfl)
        try simp only [Act.put, setIfInBounds_toArray, set_cons_zero, set_cons_succ, getElem_toArray, getElem_cons_zero, getElem_cons_succ]
        refine wpAnyH_done (by kernel_rfl) ?_ _
        go_upto_region 9 with (fail)
        have D := aj
        have M := ak
        have ao := al
        have a6 := am
        have a7 := B
        have aa := an
        clear Y Z HBX5 HX5 HV5 a5
        obtain ⟨w6, ap⟩ := eX (bk)
        rw [← ap] at D M ao a6 a7 aa ⊢
        clear ap
        obtain ⟨j, U, k, V⟩ := D.out.all2
        obtain ⟨a, y⟩ := M.out.all1
        cases b with
        | false =>
          have l := hI (show E = ((0, 0, 5), some T) from x.out)
          clear x
          go_wp2_with fail
          rw [pst2 D.out]
          have m := hI (M.out.far (t' := 40) ad #[.int .i64 0, .int .i64 0])
          rw [pst1 m.out]
          have N := hI ((D.out.put #[.int .i64 0, .int .i64 0]).far (t' := 41) I #[.int .i64 5])
          have O := hI (m.out.put #[.int .i64 5])
          have a8 := hI ((ao.out.far (t' := 40) Q #[.int .i64 0, .int .i64 0]).far (t' := 41) R #[.int .i64 5])
          have ar := hI (grown_new (grown_new aa.out (Nat.le_refl _) 40 #[.int .i64 0, .int .i64 0]) (Nat.le_succ _) 41 #[.int .i64 5])
          obtain ⟨w7, au⟩ := eX (putB (putB w6 w.heap.size 40 #[.int .i64 0, .int .i64 0]) (w.heap.size + 1) 41 #[.int .i64 5])
          rw [← au] at N O a8 ar ⊢
          clear au m
          clear j U k V a y
          refine leaves_cons (f := 90) (args := #[.pointer (some ⟨w.heap.size, 0, none⟩), .pointer (some ⟨w.heap.size + 1, 0, none⟩)]) (by simp) (by simp [go_sem]) ?_
          refine (run1_idle ⟨w.heap.size, 0, none⟩ ⟨w.heap.size + 1, 0, none⟩ w7).mono ?_
          rintro e u' w8 ⟨rfl, rfl, rfl⟩
          obtain ⟨j, _, k, _⟩ := N.out.all2
          obtain ⟨a, _⟩ := O.out.all1
          simp [Leaves, settle, results, Tryz.results46, go_sem, j, k, a]
          exact ⟨(by rw [l.out]; try rfl), ar, hI (fun h => absurd h (by rw [l.out]; simp))⟩
        | true =>
          have l := hI (show E = ((0, 0, 0), some T) from x.out)
          clear x
          go_wp2_with fail
          rw [pst2 D.out]
          have m := hI (M.out.far (t' := 40) ad #[.int .i64 0, .int .i64 0])
          rw [pst1 m.out]
          have N := hI ((D.out.put #[.int .i64 0, .int .i64 0]).far (t' := 41) I #[.int .i64 0])
          have O := hI (m.out.put #[.int .i64 0])
          have a8 := hI ((ao.out.far (t' := 40) Q #[.int .i64 0, .int .i64 0]).far (t' := 41) R #[.int .i64 0])
          have ar := hI (grown_new (grown_new aa.out (Nat.le_refl _) 40 #[.int .i64 0, .int .i64 0]) (Nat.le_succ _) 41 #[.int .i64 0])
          have cf := hI (((a6.out.far (r := w.heap.size) (by omega) 40 #[.int .i64 0, .int .i64 0]).far (r := w.heap.size + 1) (by omega) 41 #[.int .i64 0]).weaken (C := w.heap.size) (by omega))
          obtain ⟨w7, au⟩ := eX (putB (putB w6 w.heap.size 40 #[.int .i64 0, .int .i64 0]) (w.heap.size + 1) 41 #[.int .i64 0])
          rw [← au] at N O a8 ar cf ⊢
          clear au m
          clear j U k V a y
          refine leaves_cons (f := 90) (args := #[.pointer (some ⟨w.heap.size, 0, none⟩), .pointer (some ⟨w.heap.size + 1, 0, none⟩)]) (by simp) (by simp [go_sem]) ?_
          refine (run1_idle ⟨w.heap.size, 0, none⟩ ⟨w.heap.size + 1, 0, none⟩ w7).mono ?_
          rintro e u' w8 ⟨rfl, rfl, rfl⟩
          obtain ⟨j, _, k, _⟩ := N.out.all2
          obtain ⟨a, _⟩ := O.out.all1
          simp [Leaves, settle, results, Tryz.results46, go_sem, j, k, a]
          exact ⟨(by rw [l.out]; try rfl), ar, hI (fun h => ⟨T, v, by rw [l.out], a8, cf⟩)⟩
def zPb : PbN := ⟨none, 0, 0, [], none, 0, 0, [], none, 0, 0, [], 0, 0⟩
def ProblemOut (r : (Nat × Nat × Nat) × Option PbP) (v : PbN) (w w' : World) : Prop := (r.1.2.2 ≠ 0 → v = zPb) ∧ (r.1.2.2 = 0 → ∃ T, r.2 = some T ∧ InXP w.heap.size w' T v)
def ProblemP (l : List UInt8) (w : World) (e : Ending) (w' : World) : Prop :=
 ∃ v : PbN, e = .returned (.tuple #[v.val, .agg #[.int .i64 (probR l).1.1, .int .i64 (probR l).1.2.1], .int .i64 (probR l).1.2.2]) ∧ Hid (Below w.heap.size w w') ∧ ProblemOut (probR l) v w w'
theorem pProblemX (s : ByteArray) (w : World) (hs : s.size ≤ maxLen) (hR : RX w) (hX : FX w) : Calls Tryz.prog 35 #[.string s] w (ProblemP s.data.toList w) := by
  have bo : ∀ (fn : Fn) (first cap : Array Value) (w : World), (Instr.makeFunc fn first cap).run Tryz.prog w = .ok (.func fn first cap) w := fun _ _ _ _ => rfl
  have HR := hI hR
  have HX := hI hX
  have KR := hI (fun (w' : World) (hB : Blk w' (w.heap.size + 2) 68 #[.slice none 0 0, .slice none 0 0, .slice none 0 0, .int .i64 0, .int .i64 0]) (hR' : RX w') (hX' : FX w') => pRunProblem s w' hs (w.heap.size + 2) hB hR' hX')
  unfold ProblemP
  obtain ⟨RR, av⟩ := eX (probR s.data.toList)
  rw [← av] at KR ⊢
  clear hR hX av
  obtain ⟨⟨b, g, er⟩, o⟩ := RR
  simp only at KR ⊢
  go_enter Tryz.func35, Tryz.ntmps35
  go_upto_region 2 with (fail)
  obtain ⟨I, J⟩ := eX (((w.alloc (Obj.cells #[.slice none 0 0, .slice none 0 0, .slice none 0 0, .int .i64 0, .int .i64 0] 68)).alloc (Obj.cells #[.int .i64 0, .int .i64 0] 40)).alloc (Obj.cells #[.slice none 0 0, .slice none 0 0, .slice none 0 0, .int .i64 0, .int .i64 0] 68))
  have O1 := hI (show Below w.heap.size w I by rw [J]; exact ((below_box _ _).trans ((below_box _ _).mono (by simp))).trans ((below_box _ _).mono (by simp; omega)))
  have A1 := hI (show Blk I w.heap.size 68 #[.slice none 0 0, .slice none 0 0, .slice none 0 0, .int .i64 0, .int .i64 0] by rw [J]; exact ((Blk.new w 68 #[.slice none 0 0, .slice none 0 0, .slice none 0 0, .int .i64 0, .int .i64 0]).belowW (below_box _ _)).belowW (below_box _ _))
  have B1 := hI (show Blk I (w.heap.size + 1) 40 #[.int .i64 0, .int .i64 0] by rw [J]; exact Blk.belowW (by have := Blk.new (w.alloc (Obj.cells #[.slice none 0 0, .slice none 0 0, .slice none 0 0, .int .i64 0, .int .i64 0] 68)) 40 #[.int .i64 0, .int .i64 0]; simpa using this) (below_box _ _))
  have X1 := hI (show Blk I (w.heap.size + 2) 68 #[.slice none 0 0, .slice none 0 0, .slice none 0 0, .int .i64 0, .int .i64 0] by rw [J]; exact (by have := Blk.new ((w.alloc (Obj.cells #[.slice none 0 0, .slice none 0 0, .slice none 0 0, .int .i64 0, .int .i64 0] 68)).alloc (Obj.cells #[.int .i64 0, .int .i64 0] 40)) 68 #[.slice none 0 0, .slice none 0 0, .slice none 0 0, .int .i64 0, .int .i64 0]; simpa using this))
  rw [← J]
  clear J
  have bp : w.heap.size + 2 < I.heap.size := X1.out.lt
  go_wp2_with fail
  refine (KR.out I X1.out (HR.out.belowW O1.out) (HX.out.belowW O1.out)).mono ?_
  rintro e w2 ⟨rfl, HG2, HQ2⟩
  have O2 := hI (below_grown O1.out (by omega) HG2.out)
  have A2 := hI (A1.out.grown HG2.out (by simp))
  have B2 := hI (B1.out.grown HG2.out (by simp))
  have bq := HG2.out.size
  go_upto_region 3 with (fail)
  obtain ⟨L, aa⟩ := eX (w2.alloc (Obj.cells #[.int .i64 (b : Nat), .int .i64 (g : Nat)] 40))
  have N := hI (show Below w2.heap.size w2 L by rw [aa]; exact below_box _ _)
  have T4 := hI (show Blk L w2.heap.size 40 #[.int .i64 (b : Nat), .int .i64 (g : Nat)] by rw [aa]; exact Blk.new _ _ _)
  rw [← aa]
  clear aa
  have O4 := hI (O2.out.trans (N.out.mono O2.out.size))
  have A4 := hI (A2.out.belowW N.out)
  have B4 := hI (B2.out.belowW N.out)
  obtain ⟨x, a0⟩ := eX (w2.heap.size)
  have br : w.heap.size + 2 < x := by omega
  rw [← a0] at T4 ⊢
  clear a0
  have a1 : w.heap.size + 1 ≠ w.heap.size := by omega
  have a2 : w.heap.size ≠ w.heap.size + 1 := by omega
  have a3 : x ≠ w.heap.size := by omega
  have a4 : x ≠ w.heap.size + 1 := by omega
  have bg : w.heap.size + 2 ≠ w.heap.size := by omega
  have bh : w.heap.size + 2 ≠ w.heap.size + 1 := by omega
  by_cases her : er = 0
  · obtain ⟨T, v, hT, bi, bj⟩ := HQ2.out her
    subst her
    have HT := hI hT
    clear hT
    have X4 := hI (bi.out.belowW N.out)
    have bm := hI (bj.out.belowW N.out)
    go_upto_region 5 with (fail)
    have i := hI (below_dr L)
    have j := hI (A4.out.belowW i.out)
    have O := hI (B4.out.belowW i.out)
    have l := hI (T4.out.belowW i.out)
    have P := hI (O4.out.trans (i.out.mono O4.out.size))
    have y := hI (X4.out.belowW i.out)
    have a6 := hI (bm.out.belowW i.out)
    refine wp_region_held_drew (S := fun w' => w'.cell? ⟨x, 0, none⟩ = some (.int .i64 (b : Nat)) ∧ w'.cell? ⟨x, 1, none⟩ = some (.int .i64 (g : Nat)) ∧ w'.cell? ⟨w.heap.size + 2, 0, none⟩ = some (.slice v.A v.n v.c) ∧ w'.cell? ⟨w.heap.size + 2, 1, none⟩ = some (.slice v.B v.m v.d) ∧ w'.cell? ⟨w.heap.size + 2, 2, none⟩ = some (.slice v.C v.k v.e) ∧ w'.cell? ⟨w.heap.size + 2, 3, none⟩ = some (.int .i64 v.t) ∧ w'.cell? ⟨w.heap.size + 2, 4, none⟩ = some (.int .i64 v.u)) (by kernel_rfl) ?_ (fun hHeld => ?_)
    case refine_1 => exact ⟨l.out.cell 0, l.out.cell 1, y.out.cell 0, y.out.cell 1, y.out.cell 2, y.out.cell 3, y.out.cell 4⟩
    obtain ⟨Q, R⟩ := eX (L.drew)
    rw [← R] at i j O l P y a6 hHeld ⊢
    clear R
    refine tkY 0 rfl (v := ?_) (.inl ⟨by rfl, ?_⟩) ?_
    case refine_2 => intro w9 hSw; (try dsimp only at hSw); go_simp; (try with_reducible rfl)
    try simp only [Act.put, setIfInBounds_toArray, set_cons_zero, set_cons_succ, getElem_toArray, getElem_cons_zero]
    refine tkY 1 rfl (v := ?_) (.inl ⟨by rfl, ?_⟩) ?_
    case refine_2 => intro w9 hSw; (try dsimp only at hSw); go_simp; (try with_reducible rfl)
    try simp only [Act.put, setIfInBounds_toArray, set_cons_zero, set_cons_succ, getElem_toArray, getElem_cons_zero, getElem_cons_succ]
    refine tkY 2 rfl (v := ?_) (.inl ⟨by rfl, ?_⟩) ?_
    case refine_2 => intro w9 hSw; (try dsimp only at hSw); go_simp; (try with_reducible rfl)
    try simp only [Act.put, setIfInBounds_toArray, set_cons_zero, set_cons_succ, getElem_toArray, getElem_cons_zero, getElem_cons_succ]
    refine wpAnyH_ready (rs := [3]) (by kernel_rfl) (by simp) ?_
    refine (AllReadyH.cons rfl (fun K hK => ?_) AllReadyH.nil)
    obtain ⟨z, D, E, F, ag, ah, ai, aj, ak, al⟩ := j.out.all5
    go_simp
    rw [pst5 j.out]
    clear z D E F ag ah ai aj ak al
    have p := hI (O.out.far (t' := 68) a1 #[.slice v.A v.n v.c, .slice v.B v.m v.d, .slice v.C v.k v.e, .int .i64 v.t, .int .i64 v.u])
    have q := hI (l.out.far (t' := 68) a3 #[.slice v.A v.n v.c, .slice v.B v.m v.d, .slice v.C v.k v.e, .int .i64 v.t, .int .i64 v.u])
    have U := hI (P.out.trans (putB_below Q w.heap.size 68 #[.slice v.A v.n v.c, .slice v.B v.m v.d, .slice v.C v.k v.e, .int .i64 v.t, .int .i64 v.u] (Nat.le_refl _)))
    have G := hI (y.out.far (t' := 68) bg #[.slice v.A v.n v.c, .slice v.B v.m v.d, .slice v.C v.k v.e, .int .i64 v.t, .int .i64 v.u])
    have a7 := hI (a6.out.far (r := w.heap.size) (by omega) 68 #[.slice v.A v.n v.c, .slice v.B v.m v.d, .slice v.C v.k v.e, .int .i64 v.t, .int .i64 v.u])
    have V := hI (j.out.put #[.slice v.A v.n v.c, .slice v.B v.m v.d, .slice v.C v.k v.e, .int .i64 v.t, .int .i64 v.u])
    obtain ⟨W, a⟩ := eX (putB Q (w.heap.size) 68 #[.slice v.A v.n v.c, .slice v.B v.m v.d, .slice v.C v.k v.e, .int .i64 v.t, .int .i64 v.u])
    try rw [← a] at p
    try rw [← a] at q
    try rw [← a] at U
    try rw [← a] at G
    try rw [← a] at a7
    try rw [← a] at V
    rw [← a]
    clear a hHeld
    refine hK.out _ _ ?_ (fun hHeld => ?_)
    case refine_1 => exact ⟨q.out.cell 0, q.out.cell 1, G.out.cell 0, G.out.cell 1, G.out.cell 2, G.out.cell 3, G.out.cell 4⟩
    clear hK K
    try simp only [setIfInBounds_toArray, set_cons_zero, set_cons_succ]
    refine wpAnyH_ready (rs := [4]) (by kernel_rfl) (by simp) ?_
    refine (AllReadyH.cons rfl (fun K hK => ?_) AllReadyH.nil)
    obtain ⟨z, D, E, F⟩ := p.out.all2
    go_simp
    rw [pst2 p.out]
    clear z D E F
    have H := hI (q.out.far (t' := 40) a4 #[.int .i64 (b : Nat), .int .i64 (g : Nat)])
    have X := hI (U.out.trans (putB_below W (w.heap.size + 1) 40 #[.int .i64 (b : Nat), .int .i64 (g : Nat)] (Nat.le_succ _)))
    have M := hI (G.out.far (t' := 40) bh #[.int .i64 (b : Nat), .int .i64 (g : Nat)])
    have a8 := hI (a7.out.far (r := w.heap.size + 1) (by omega) 40 #[.int .i64 (b : Nat), .int .i64 (g : Nat)])
    have Y := hI (V.out.far (t' := 40) a2 #[.int .i64 (b : Nat), .int .i64 (g : Nat)])
    have Z := hI (p.out.put #[.int .i64 (b : Nat), .int .i64 (g : Nat)])
    obtain ⟨bn, a⟩ := eX (putB W (w.heap.size + 1) 40 #[.int .i64 (b : Nat), .int .i64 (g : Nat)])
    try rw [← a] at H
    try rw [← a] at X
    try rw [← a] at M
    try rw [← a] at a8
    try rw [← a] at Y
    try rw [← a] at Z
    rw [← a]
    clear a hHeld
    refine hK.out _ _ ?_ (fun hHeld => ?_)
    case refine_1 => exact ⟨H.out.cell 0, H.out.cell 1, M.out.cell 0, M.out.cell 1, M.out.cell 2, M.out.cell 3, M.out.cell 4⟩
    clear hK K
    try simp only [setIfInBounds_toArray, set_cons_zero, set_cons_succ]
    refine tkY 5 rfl (v := ?_) (.inl ⟨by rfl, ?_⟩) ?_
    case refine_2 => intro w9 hSw; (try dsimp only at hSw); go_simp; (try with_reducible rfl)
    try simp only [Act.put, setIfInBounds_toArray, set_cons_zero, set_cons_succ, getElem_toArray, getElem_cons_zero, getElem_cons_succ]
    refine wpAnyH_done (by kernel_rfl) ?_ _
    obtain ⟨z0, _, z1, _, z2, _, z3, _, z4, _⟩ := Y.out.all5
    obtain ⟨y0, _, y1, _⟩ := Z.out.all2
    go_wp2_with fail
    refine bodyPost_ret (v := .tuple #[.agg #[.slice v.A v.n v.c, .slice v.B v.m v.d, .slice v.C v.k v.e, .int .i64 v.t, .int .i64 v.u], .agg #[.int .i64 (b : Nat), .int .i64 (g : Nat)], .int .i64 0]) (by simp [results, Tryz.results35, go_sem, z0, z1, z2, z3, z4, y0, y1]) rfl ?_
    exact ⟨v, rfl, X, ⟨fun h => absurd rfl h, fun _ => ⟨T, HT.out, a8.out.weaken (by omega)⟩⟩⟩
  · have d1 : (((er : Nat) : Int) != 0) = true := by rw [bne_iff_ne]; omega
    go_upto_region 4 with (fail)
    have i := hI (below_dr L)
    have j := hI (A4.out.belowW i.out)
    have O := hI (B4.out.belowW i.out)
    have l := hI (T4.out.belowW i.out)
    have P := hI (O4.out.trans (i.out.mono O4.out.size))
    refine wp_region_held_drew (S := fun w' => w'.cell? ⟨x, 0, none⟩ = some (.int .i64 (b : Nat)) ∧ w'.cell? ⟨x, 1, none⟩ = some (.int .i64 (g : Nat))) (by kernel_rfl) ?_ (fun hHeld => ?_)
    case refine_1 => exact ⟨l.out.cell 0, l.out.cell 1⟩
    obtain ⟨Q, R⟩ := eX (L.drew)
    rw [← R] at i j O l P hHeld ⊢
    clear R
    refine tkY 0 rfl (v := ?_) (.inl ⟨by rfl, ?_⟩) ?_
    case refine_2 => intro w9 hSw; (try dsimp only at hSw); go_simp; (try with_reducible rfl)
    try simp only [Act.put, setIfInBounds_toArray, set_cons_zero, set_cons_succ, getElem_toArray, getElem_cons_zero]
    refine tkY 1 rfl (v := ?_) (.inl ⟨by rfl, ?_⟩) ?_
    case refine_2 => intro w9 hSw; (try dsimp only at hSw); go_simp; (try with_reducible rfl)
    try simp only [Act.put, setIfInBounds_toArray, set_cons_zero, set_cons_succ, getElem_toArray, getElem_cons_zero, getElem_cons_succ]
    refine tkY 2 rfl (v := ?_) (.inl ⟨by rfl, ?_⟩) ?_
    case refine_2 => intro w9 hSw; (try dsimp only at hSw); go_simp; (try with_reducible rfl)
    try simp only [Act.put, setIfInBounds_toArray, set_cons_zero, set_cons_succ, getElem_toArray, getElem_cons_zero, getElem_cons_succ]
    refine wpAnyH_ready (rs := [3]) (by kernel_rfl) (by simp) ?_
    refine (AllReadyH.cons rfl (fun K hK => ?_) AllReadyH.nil)
    obtain ⟨z, D, E, F, ag, ah, ai, aj, ak, al⟩ := j.out.all5
    go_simp
    rw [pst5 j.out]
    clear z D E F ag ah ai aj ak al
    have p := hI (O.out.far (t' := 68) a1 #[.slice none 0 0, .slice none 0 0, .slice none 0 0, .int .i64 0, .int .i64 0])
    have q := hI (l.out.far (t' := 68) a3 #[.slice none 0 0, .slice none 0 0, .slice none 0 0, .int .i64 0, .int .i64 0])
    have U := hI (P.out.trans (putB_below Q w.heap.size 68 #[.slice none 0 0, .slice none 0 0, .slice none 0 0, .int .i64 0, .int .i64 0] (Nat.le_refl _)))
    have V := hI (j.out.put #[.slice none 0 0, .slice none 0 0, .slice none 0 0, .int .i64 0, .int .i64 0])
    obtain ⟨W, a⟩ := eX (putB Q (w.heap.size) 68 #[.slice none 0 0, .slice none 0 0, .slice none 0 0, .int .i64 0, .int .i64 0])
    try rw [← a] at p
    try rw [← a] at q
    try rw [← a] at U
    try rw [← a] at V
    rw [← a]
    clear a hHeld
    refine hK.out _ _ ?_ (fun hHeld => ?_)
    case refine_1 => exact ⟨q.out.cell 0, q.out.cell 1⟩
    clear hK K
    try simp only [setIfInBounds_toArray, set_cons_zero, set_cons_succ]
    refine wpAnyH_ready (rs := [4]) (by kernel_rfl) (by simp) ?_
    refine (AllReadyH.cons rfl (fun K hK => ?_) AllReadyH.nil)
    obtain ⟨z, D, E, F⟩ := p.out.all2
    go_simp
    rw [pst2 p.out]
    clear z D E F
    have H := hI (q.out.far (t' := 40) a4 #[.int .i64 (b : Nat), .int .i64 (g : Nat)])
    have X := hI (U.out.trans (putB_below W (w.heap.size + 1) 40 #[.int .i64 (b : Nat), .int .i64 (g : Nat)] (Nat.le_succ _)))
    have Y := hI (V.out.far (t' := 40) a2 #[.int .i64 (b : Nat), .int .i64 (g : Nat)])
    have Z := hI (p.out.put #[.int .i64 (b : Nat), .int .i64 (g : Nat)])
    obtain ⟨bn, a⟩ := eX (putB W (w.heap.size + 1) 40 #[.int .i64 (b : Nat), .int .i64 (g : Nat)])
    try rw [← a] at H
    try rw [← a] at X
    try rw [← a] at Y
    try rw [← a] at Z
    rw [← a]
    clear a hHeld
    refine hK.out _ _ ?_ (fun hHeld => ?_)
    case refine_1 => exact ⟨H.out.cell 0, H.out.cell 1⟩
    clear hK K
    try simp only [setIfInBounds_toArray, set_cons_zero, set_cons_succ]
    refine tkY 5 rfl (v := ?_) (.inl ⟨by rfl, ?_⟩) ?_
    case refine_2 => intro w9 hSw; (try dsimp only at hSw); go_simp; (try with_reducible rfl)
    try simp only [Act.put, setIfInBounds_toArray, set_cons_zero, set_cons_succ, getElem_toArray, getElem_cons_zero, getElem_cons_succ]
    refine wpAnyH_done (by kernel_rfl) ?_ _
    obtain ⟨z0, _, z1, _, z2, _, z3, _, z4, _⟩ := Y.out.all5
    obtain ⟨y0, _, y1, _⟩ := Z.out.all2
    go_wp2_with fail
    refine bodyPost_ret (v := .tuple #[.agg #[.slice none 0 0, .slice none 0 0, .slice none 0 0, .int .i64 0, .int .i64 0], .agg #[.int .i64 (b : Nat), .int .i64 (g : Nat)], .int .i64 (er : Nat)]) (by simp [results, Tryz.results35, go_sem, z0, z1, z2, z3, z4, y0, y1]) rfl ?_
    exact ⟨zPb, rfl, X, ⟨fun _ => rfl, fun h => absurd h her⟩⟩
end Go.Proofs.YtkjoohnndobjeaaGreatDoor
