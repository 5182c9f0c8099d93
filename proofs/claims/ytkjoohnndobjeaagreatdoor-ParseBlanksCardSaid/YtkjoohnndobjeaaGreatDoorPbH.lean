/-
  The walk of parse.Problem.
-/
import Derived.Test.YtkjoohnndobjeaaGreatDoorPbG
import Derived.Test.YtkjoohnndobjeaaGreatDoorQL
set_option linter.unusedVariables false
set_option maxHeartbeats 4000000
set_option maxRecDepth 100000
namespace Go.Proofs.YtkjoohnndobjeaaGreatDoor
open Go.RowKit Go.Fl Go.Fl.Lx Go.Fl.Nm Go.Fl.Fm Go.Fl.Rt Go.Fl.Pa
open List (setIfInBounds_toArray set_cons_zero set_cons_succ getElem_toArray getElem_cons_zero getElem_cons_succ)
def probR (l : List UInt8) : (Nat × Nat × Nat) × Option PbP := runR l (fun ts => probP nameP ts 0) PbP.ok
def GotPb (o : Option PbP) (bx : Nat) (w w' : World) : Prop := ∃ T v, o = some T ∧ Hid (Blk w' bx 68 #[.slice v.A v.n v.c, .slice v.B v.m v.d, .slice v.C v.k v.e, .int .i64 v.t, .int .i64 v.u]) ∧ Hid (InXP w.heap.size w' T v)

theorem pRunProblem (s : ByteArray) (w : World) (hs : s.size ≤ maxLen) (bx : Nat) (hB : Blk w bx 68 #[.slice none 0 0, .slice none 0 0, .slice none 0 0, .int .i64 0, .int .i64 0]) (hR : RX w) (hX : FX w) :
 Calls Tryz.prog 46 #[.string s, .func (.func 68) #[] #[.pointer (some ⟨bx, 0, none⟩)]] w (RunP (GotPb (probR s.data.toList).2 bx) bx (probR s.data.toList).1 w) := by
 have c8 : ∀ (fn : Fn) (first H : Array Value) (w : World), (Instr.makeFunc fn first H).run Tryz.prog w = .ok (.func fn first H) w := fun _ _ _ _ => rfl
 have cn := hI hB
 have HR := hI hR
 have HX := hI hX
 obtain ⟨E, bb⟩ := eX (probR s.data.toList)
 have ar := hI bb
 rw [← bb]
 have cr : bx < w.heap.size := Blk.lt hB
 clear hB hR hX bb
 go_enter_defers Tryz.func46, Tryz.ntmps46
 go_upto_region 1 with (fail)
 obtain ⟨V, W⟩ := eX ((w.alloc (Obj.cells #[.int .i64 0, .int .i64 0] 40)).alloc (Obj.cells #[.int .i64 0] 41))
 have O1 := hI (show Below w.heap.size w V by rw [W]; exact (below_box _ _).trans ((below_box _ _).mono (by simp)))
 have A1 := hI (show Blk V w.heap.size 40 #[.int .i64 0, .int .i64 0] by rw [W]; exact (Blk.new w 40 #[.int .i64 0, .int .i64 0]).belowW (below_box _ _))
 have B1 := hI (show Blk V (w.heap.size + 1) 41 #[.int .i64 0] by rw [W]; exact (by have := Blk.new (w.alloc (Obj.cells #[.int .i64 0, .int .i64 0] 40)) 41 #[.int .i64 0]; simpa using this))
 rw [← W]
 clear W
 have c9 : w.heap.size + 1 < V.heap.size := B1.out.lt
 have da : s.size ≤ maxLen := hs
 go_wp2_with fail
 refine (split_any s V hs).mono ?_
 rintro e w2 ⟨X, Y⟩
 have O2 := hI (show Below w.heap.size w w2 from O1.out.trans (X.mono O1.out.size))
 have N := hI (A1.out.belowW X)
 have B2 := hI (B1.out.belowW X)
 have db := X.size
 have I : w.heap.size ≠ w.heap.size + 1 := by omega
 have Z : w.heap.size + 1 ≠ w.heap.size := by omega
 have av : bx ≠ w.heap.size := by omega
 have aw : bx ≠ w.heap.size + 1 := by omega
 clear X
 cases hl : lexRes s.data.toList with
 | error p =>
  obtain ⟨d, i, c⟩ := p; have ct := (lexRes_err hl).1; have aa : ¬ c = 0 := ct; rw [hl] at Y; simp only at Y; have l := hI (show E = ((d, i, c), none) by rw [ar.out]; unfold probR runR; rw [hl]); subst Y; clear hl ar; have d1 : (((c : Nat) : Int) != 0) = true := (by rw [bne_iff_ne]; omega); obtain ⟨j, O, k, P⟩ := N.out.all2; obtain ⟨a, y⟩ := B2.out.all1
  go_upto_region 2 with (fail)
  rw [pst2 N.out]; have m := hI (B2.out.far (t' := 40) Z #[.int .i64 (d : Nat), .int .i64 (i : Nat)]); rw [pst1 m.out]; have A3 := hI ((N.out.put #[.int .i64 (d : Nat), .int .i64 (i : Nat)]).far (t' := 41) I #[.int .i64 (c : Nat)]); have F := hI (m.out.put #[.int .i64 (c : Nat)]); have bu := hI (grown_new (grown_new (grown_of (some bx) O2.out) (Nat.le_refl _) 40 #[.int .i64 (d : Nat), .int .i64 (i : Nat)]) (Nat.le_succ _) 41 #[.int .i64 (c : Nat)]); obtain ⟨z, J⟩ := eX (putB (putB w2 w.heap.size 40 #[.int .i64 (d : Nat), .int .i64 (i : Nat)]) (w.heap.size + 1) 41 #[.int .i64 (c : Nat)]); rw [← J] at A3 F bu ⊢; clear J m; clear j O k P a y; obtain ⟨a, y⟩ := F.out.all1
  go_upto_region 3 with (fail)
  clear a y
  refine wp_norm ?_
  have ax := hI (below_dr z); have Q := A3.out.b9 ax; have bd := F.out.b9 ax; have bv := hI (grown_tr bu.out (grown_of (some bx) ax.out))
  refine wp_region_held_drew (S := fun w' => w'.cell? ⟨w.heap.size, 0, none⟩ = some (.int .i64 (d : Nat)) ∧ w'.cell? ⟨w.heap.size, 1, none⟩ = some (.int .i64 (i : Nat)) ∧ w'.cell? ⟨w.heap.size + 1, 0, none⟩ = some (.int .i64 (c : Nat))) (by kernel_rfl) ?_ (fun hHeld => ?_)
  case refine_1 => exact ⟨Q.out.cell 0, Q.out.cell 1, bd.out.cell 0⟩
  obtain ⟨cu, G⟩ := eX (z.drew); rw [← G] at ax Q bd bv hHeld ⊢; clear G
  refine tkY 0 rfl (v := ?_) (.inl ⟨by rfl, ?_⟩) ?_
  case refine_2 => intro w9 hSw; (try dsimp only at hSw); go_simp; (try with_reducible rfl)
  try simp only [Act.put, setIfInBounds_toArray, set_cons_zero, set_cons_succ, getElem_toArray, getElem_cons_zero]
  refine tkY 1 rfl (v := ?_) (.inl ⟨by rfl, ?_⟩) ?_
  case refine_2 => intro w9 hSw; (try dsimp only at hSw); go_simp; (try with_reducible rfl)
  try simp only [Act.put, setIfInBounds_toArray, set_cons_zero, set_cons_succ, getElem_toArray, getElem_cons_zero, getElem_cons_succ]
  refine wpAnyH_ready (rs := [2]) (by kernel_rfl) (by simp) ?_
  refine (AllReadyH.cons rfl (fun K hK => ?_) AllReadyH.nil)
  obtain ⟨be, bf, cv, cw⟩ := Q.out.all2
  go_simp
  rw [pst2 Q.out]; clear be bf cv cw; have ac := hI (bd.out.far (t' := 40) Z #[.int .i64 (d : Nat), .int .i64 (i : Nat)]); have bw := hI (grown_new bv.out (Nat.le_refl _) 40 #[.int .i64 (d : Nat), .int .i64 (i : Nat)]); have ay := hI (Q.out.put #[.int .i64 (d : Nat), .int .i64 (i : Nat)]); obtain ⟨cx, u⟩ := eX (putB cu (w.heap.size) 40 #[.int .i64 (d : Nat), .int .i64 (i : Nat)])
  try rw [← u] at ac
  try rw [← u] at bw
  try rw [← u] at ay
  rw [← u]; clear u hHeld
  refine hK.out _ _ ?_ (fun hHeld => ?_)
  case refine_1 => exact ⟨ay.out.cell 0, ay.out.cell 1, ac.out.cell 0⟩
  clear hK K
  try simp only [setIfInBounds_toArray, set_cons_zero, set_cons_succ]
  refine wpAnyH_ready (rs := [3]) (by kernel_rfl) (by simp) ?_
  refine (AllReadyH.cons rfl (fun K hK => ?_) AllReadyH.nil)
  obtain ⟨be, bf⟩ := ac.out.all1
  go_simp
  rw [pst1 ac.out]; clear be bf; have bz := hI (grown_new bw.out (Nat.le_succ _) 41 #[.int .i64 (c : Nat)]); have az := hI (ay.out.far (t' := 41) I #[.int .i64 (c : Nat)]); have bg := hI (ac.out.put #[.int .i64 (c : Nat)]); obtain ⟨dc, u⟩ := eX (putB cx (w.heap.size + 1) 41 #[.int .i64 (c : Nat)])
  try rw [← u] at bz
  try rw [← u] at az
  try rw [← u] at bg
  rw [← u]; clear u hHeld
  refine hK.out _ _ ?_ (fun hHeld => ?_)
  case refine_1 => exact ⟨az.out.cell 0, az.out.cell 1, bg.out.cell 0⟩
  clear hK K
  try simp only [setIfInBounds_toArray, set_cons_zero, set_cons_succ]
  refine wpAnyH_done (by kernel_rfl) ?_ _
  obtain ⟨j, _, k, _⟩ := az.out.all2; obtain ⟨a, _⟩ := bg.out.all1
  go_wp2_with fail
  simp [bodyPostD, Leaves, results, Tryz.results46, go_sem, j, k, a]
  exact ⟨by rw [l.out], bz, hI (fun h => absurd h (by rw [l.out]; exact aa))⟩
 | ok ts =>
  rw [hl] at Y; obtain ⟨v0, R, ho⟩ := Y; obtain ⟨hD, A, q, H, cy, cz, hT, b3⟩ := ts_of hl ho; have b4 := hI (show E = runR s.data.toList (fun ts => probP nameP ts 0) PbP.ok from ar.out); have b5 := hI hl; have c0 := hI hT; have bh := hI b3; have c1 := hI hD; subst R; subst cy; clear hl ar ho hT b3 cz hD; have c2 := hI (show 0 < q → ∀ b o, A = some ⟨b, o, none⟩ → b ≠ w.heap.size from fun h b o e => by have := bh.out h b o e; omega); have c3 := hI (show 0 < q → ∀ b o, A = some ⟨b, o, none⟩ → b ≠ w.heap.size + 1 from fun h b o e => by have := bh.out h b o e; omega); have c4 := hI (show 0 < q → ∀ b o, A = some ⟨b, o, none⟩ → b ≠ bx from fun h b o e => by have := bh.out h b o e; omega); obtain ⟨j, O, k, P⟩ := N.out.all2; obtain ⟨a, y⟩ := B2.out.all1
  go_upto_region 2 with (fail)
  rw [pst2 N.out]; have m := hI (B2.out.far (t' := 40) Z #[.int .i64 0, .int .i64 0]); rw [pst1 m.out]; have A3 := hI ((N.out.put #[.int .i64 0, .int .i64 0]).far (t' := 41) I #[.int .i64 0]); have F := hI (m.out.put #[.int .i64 0]); have b6 := hI (((cn.out.belowW O2.out).far (t' := 40) av #[.int .i64 0, .int .i64 0]).far (t' := 41) aw #[.int .i64 0]); have O3 := hI ((O2.out.trans (putB_below w2 w.heap.size 40 #[.int .i64 0, .int .i64 0] (Nat.le_refl _))).trans (putB_below (putB w2 w.heap.size 40 #[.int .i64 0, .int .i64 0]) (w.heap.size + 1) 41 #[.int .i64 0] (Nat.le_succ _))); have b7 := hI ((c0.out.put c2.out 40 #[.int .i64 0, .int .i64 0]).put c3.out 41 #[.int .i64 0]); obtain ⟨z, J⟩ := eX (putB (putB w2 w.heap.size 40 #[.int .i64 0, .int .i64 0]) (w.heap.size + 1) 41 #[.int .i64 0]); rw [← J] at A3 F b6 O3 b7 ⊢; clear J m; clear j O k P a y; obtain ⟨a, y⟩ := F.out.all1
  go_upto_region 6 with (fail)
  clear a y; obtain ⟨w4, a1⟩ := eX (z.alloc (Obj.cells #[.slice A q H, .int .i64 0, .int .i64 0] 140)); have bj := hI (show Env z z.heap.size A q H ts 0 0 w4 by rw [a1]; exact Env.at0 b7.out); have bk := hI (show Below z.heap.size z w4 by rw [a1]; exact below_box _ _); rw [← a1]; clear a1; have A4 := A3.out.b9 bk; have B4 := F.out.b9 bk; have O4 := O3.out.t bk; have J : w.heap.size + 1 < z.heap.size := F.out.lt; have HK := hI (pProblem1 bj.out (HR.out.belowW O3.out) (HX.out.belowW O3.out) c1.out bx (Nat.lt_trans cr (by omega)) b6.out c4.out); obtain ⟨g, hg⟩ := eX (z.heap.size); rw [← hg] at bj HK J ⊢; have cd : w.heap.size ≠ g := (by omega); have ce : w.heap.size + 1 ≠ g := (by omega); clear hg; have de : g < w4.heap.size := bj.out.gl; obtain ⟨r, hr⟩ := eX (probP nameP ts 0); have x := hI (show E = runS ts PbP.ok r by rw [b4.out]; unfold runR; rw [b5.out, hr]); rw [← hr] at HK; have c5 := hI hr; clear hr b4 b5
  cases r with
  | out =>
   go_wp2_with fail
   refine HK.out.mono ?_
   rintro e w5 R
   exact R.elim
  | bad d i c =>
   have l := hI (show E = ((d, i, c), none) from x.out); have aa : ¬ c = 0 := errat_ne (prob_eb (nm := nameP) (ts := ts) 0 d i c c5.out.symm); clear x
   go_wp2_with fail
   refine HK.out.mono ?_
   rintro e w5 ⟨rfl, L⟩
   go_wp2_with fail
   have GW := hI (gr2_w O4.out (by omega) L.out)
   refine leaves_cons (f := 90) (args := #[.pointer (some ⟨w.heap.size, 0, none⟩), .pointer (some ⟨w.heap.size + 1, 0, none⟩)]) (by simp) (by simp [go_sem]) ?_
   refine (run1_panic w.heap.size (w.heap.size + 1) 0 0 0 d i c [] w5 (Blk.gr2 A4.out L.out cd (Ne.symm av)) (Blk.gr2 B4.out L.out ce (Ne.symm aw)) I).mono ?_
   rintro e u' w6 ⟨rfl, rfl, bl, bm, bn⟩; obtain ⟨j, _, k, _⟩ := bl.out.all2; obtain ⟨a, _⟩ := bm.out.all1
   simp [Leaves, settle, results, Tryz.results46, go_sem, j, k, a]
   exact ⟨(by rw [l.out]; try rfl), hI (gr2_new GW.out (Nat.le_refl _) (Nat.le_succ _) bn.out), hI (fun h => absurd h (by rw [l.out]; exact aa))⟩
  | ok T k1 =>
   go_wp2_with fail
   refine HK.out.mono ?_
   rintro e w5 ⟨v, wb, rfl, a3, a4, af, L⟩; have A5 := hI (Blk.gr2 A4.out L.out cd (Ne.symm av)); have B5 := hI (Blk.gr2 B4.out L.out ce (Ne.symm aw)); have a7 := hI (gr2_w O4.out (by omega) L.out); have cf := hI af.out.t.hl
   by_cases hlt : k1 < q
   ·
    have bo : k1 < ts.length := (by rw [cf.out]; exact hlt); have l := hI (show E = (((tk ts k1).line, (tk ts k1).col, 3), none) from x.out.trans (if_pos bo)); have aa : ¬ (3 : Nat) = 0 := (by decide); have d1 : decide ((k1 : Int) < (q : Int)) = true := decide_eq_true (by omega); have d2 : decide (k1 < q) = true := decide_eq_true hlt; have cg : panU ts k1 = pan (tk ts k1).line (tk ts k1).col 3 := (by unfold panU; rw [if_neg (by omega)]); have ch := hI cg; obtain ⟨d, ci⟩ := eX ((tk ts k1).line); obtain ⟨i, cj⟩ := eX ((tk ts k1).col); rw [← ci, ← cj] at l ch; clear x cg ci cj
    go_upto_region 7 with (fail)
    refine wp_norm ?_
    have n := hI (below_dr w5); have ag := A5.out.b9 n; have ah := B5.out.b9 n; have ai := a3.out.b9 n; have aj := a4.out.b9 n; have B := af.out.b9 n; have ak := hI (grown_tr a7.out (grown_of (some bx) n.out))
    refine wp_region_held_drew (S := fun w' => w'.cell? ⟨g, 0, none⟩ = some (.slice A q H) ∧ w'.cell? ⟨g, 1, none⟩ = some (.int .i64 (k1 : Nat))) (by kernel_rfl) ?_ (fun hHeld => ?_)
    case refine_1 => exact ⟨Blk.cell B.out.p 0, Blk.cell B.out.p 1⟩
    obtain ⟨bp, G⟩ := eX (w5.drew); rw [← G] at n ag ah ai aj B ak hHeld ⊢; clear G
    refine tkY 0 rfl (v := ?_) (.inl ⟨by rfl, ?_⟩) ?_
    case refine_2 => intro w9 hSw; (try dsimp only at hSw); go_simp; (try with_reducible rfl)
    try simp only [Act.put, setIfInBounds_toArray, set_cons_zero, set_cons_succ, getElem_toArray, getElem_cons_zero]
    refine tkY 1 rfl (v := ?_) (.inl ⟨by rfl, ?_⟩) ?_
    case refine_2 => intro w9 hSw; (try dsimp only at hSw); go_simp; (try with_reducible rfl)
    try simp only [Act.put, setIfInBounds_toArray, set_cons_zero, set_cons_succ, getElem_toArray, getElem_cons_zero, getElem_cons_succ]
    refine tkY 2 rfl (v := ?_) (.inl ⟨by rfl, ?_⟩) ?_
    case refine_2 => intro w9 hSw; (try dsimp only at hSw); go_simp; (try with_reducible rfl)
    try simp only [Act.put, setIfInBounds_toArray, set_cons_zero, set_cons_succ, getElem_toArray, getElem_cons_zero, getElem_cons_succ]
    refine tkY 3 rfl (v := ?_) (.inl ⟨by rfl, ?_⟩) ?_
    case refine_2 => intro w9 hSw; (try dsimp only at hSw); go_simp; (try with_reducible rfl)
    try simp only [Act.put, setIfInBounds_toArray, set_cons_zero, set_cons_succ, getElem_toArray, getElem_cons_zero, getElem_cons_succ]
    refine tkY 4 rfl (v := ?_) (.inl ⟨by rfl, ?_⟩) ?_
    case refine_2 => intro w9 hSw; (try dsimp only at hSw); go_simp; (try with_reducible rfl)
    try simp only [Act.put, setIfInBounds_toArray, set_cons_zero, set_cons_succ, getElem_toArray, getElem_cons_zero, getElem_cons_succ]
    refine tkY 5 rfl (v := ?_) (.inl ⟨by rfl, ?_⟩) ?_
    case refine_2 => intro w9 hSw; (try dsimp only at hSw); go_simp; (try with_reducible rfl)
    try simp only [Act.put, setIfInBounds_toArray, set_cons_zero, set_cons_succ, getElem_toArray, getElem_cons_zero, getElem_cons_succ]
    refine tkY 6 rfl (v := ?_) (.inl ⟨by rfl, ?_⟩) ?_
    case refine_2 => intro w9 hSw; (try dsimp only at hSw); go_simp; (try with_reducible rfl)
    try simp only [Act.put, setIfInBounds_toArray, set_cons_zero, set_cons_succ, getElem_toArray, getElem_cons_zero, getElem_cons_succ]
    refine tkY 7 rfl (v := ?_) (.inl ⟨by rfl, ?_⟩) ?_
    case refine_2 => intro w9 hSw; (try dsimp only at hSw); go_simp; (try with_reducible rfl)
    try simp only [Act.put, setIfInBounds_toArray, set_cons_zero, set_cons_succ, getElem_toArray, getElem_cons_zero, getElem_cons_succ]
    refine tkY 8 rfl (v := ?_) (.inl ⟨by rfl, ?_⟩) ?_
    case refine_2 => intro w9 hSw; (try dsimp only at hSw); go_simp; (try with_reducible rfl)
    try simp only [Act.put, setIfInBounds_toArray, set_cons_zero, set_cons_succ, getElem_toArray, getElem_cons_zero, getElem_cons_succ]
    refine tkY 9 rfl (v := ?_) (.inl ⟨by rfl, ?_⟩) ?_
    case refine_2 => intro w9 hSw; (try dsimp only at hSw); go_simp; (try with_reducible rfl)
    try simp only [Act.put, setIfInBounds_toArray, set_cons_zero, set_cons_succ, getElem_toArray, getElem_cons_zero, getElem_cons_succ]
    refine wpAnyH_done (by kernel_rfl) ?_ _
    go_wp2_with fail
    have D := ag; have M := ah; have a8 := ai; have a9 := aj; have ba := B; have U := ak; clear A5 B5 a3 a4 af a7; obtain ⟨w6, al⟩ := eX (bp); rw [← al] at D M a8 a9 ba U ⊢; clear al
    refine ba.out.unx.mono ?_
    rintro e w7 ⟨R, bq⟩; rw [ch.out] at R; subst R
    go_wp2_with fail
    refine leaves_cons (f := 90) (args := #[.pointer (some ⟨w.heap.size, 0, none⟩), .pointer (some ⟨w.heap.size + 1, 0, none⟩)]) (by simp) (by simp [go_sem]) ?_
    refine (run1_panic w.heap.size (w.heap.size + 1) 0 0 0 d i 3 [] w7 (D.out.belowW bq.out) (M.out.belowW bq.out) I).mono ?_
    rintro e u' w6 ⟨rfl, rfl, bl, bm, bn⟩; obtain ⟨j, _, k, _⟩ := bl.out.all2; obtain ⟨a, _⟩ := bm.out.all1
    simp [Leaves, settle, results, Tryz.results46, go_sem, j, k, a]
    exact ⟨(by rw [l.out]; try rfl), hI (gr2_new (grown_tr U.out (grown_of (some bx) bq.out)) (Nat.le_refl _) (Nat.le_succ _) bn.out), hI (fun h => absurd h (by rw [l.out]; exact aa))⟩
   have bo : ¬ k1 < ts.length := (by rw [cf.out]; exact hlt); have x := hI (show E = (if PbP.ok T then ((0, 0, 0), some T) else ((0, 0, 5), some T)) from x.out.trans (if_neg bo)); have d1 : decide ((k1 : Int) < (q : Int)) = false := decide_eq_false (by omega); have d2 : decide (k1 < q) = false := decide_eq_false hlt; obtain ⟨b, hb⟩ := eX (PbP.ok T); rw [← hb] at x ⊢; clear hb
   go_upto_region 7 with (fail)
   refine wp_norm ?_
   have n := hI (below_dr w5); have ag := A5.out.b9 n; have ah := B5.out.b9 n; have ai := a3.out.b9 n; have aj := a4.out.b9 n; have B := af.out.b9 n; have ak := hI (grown_tr a7.out (grown_of (some bx) n.out))
   refine wp_region_held_drew (S := fun w' => w'.cell? ⟨g, 0, none⟩ = some (.slice A q H) ∧ w'.cell? ⟨g, 1, none⟩ = some (.int .i64 (k1 : Nat))) (by kernel_rfl) ?_ (fun hHeld => ?_)
   case refine_1 => exact ⟨Blk.cell B.out.p 0, Blk.cell B.out.p 1⟩
   obtain ⟨bp, G⟩ := eX (w5.drew); rw [← G] at n ag ah ai aj B ak hHeld ⊢; clear G
   refine tkY 0 rfl (v := ?_) (.inl ⟨by rfl, ?_⟩) ?_
   case refine_2 => intro w9 hSw; (try dsimp only at hSw); go_simp; (try with_reducible rfl)
   try simp only [Act.put, setIfInBounds_toArray, set_cons_zero, set_cons_succ, getElem_toArray, getElem_cons_zero]
   refine tkY 1 rfl (v := ?_) (.inl ⟨by rfl, ?_⟩) ?_
   case refine_2 => intro w9 hSw; (try dsimp only at hSw); go_simp; (try with_reducible rfl)
   try simp only [Act.put, setIfInBounds_toArray, set_cons_zero, set_cons_succ, getElem_toArray, getElem_cons_zero, getElem_cons_succ]
   refine tkY 2 rfl (v := ?_) (.inl ⟨by rfl, ?_⟩) ?_
   case refine_2 => intro w9 hSw; (try dsimp only at hSw); go_simp; (try with_reducible rfl)
   try simp only [Act.put, setIfInBounds_toArray, set_cons_zero, set_cons_succ, getElem_toArray, getElem_cons_zero, getElem_cons_succ]
   refine tkY 3 rfl (v := ?_) (.inl ⟨by rfl, ?_⟩) ?_
   case refine_2 => intro w9 hSw; (try dsimp only at hSw); go_simp; (try with_reducible rfl)
   try simp only [Act.put, setIfInBounds_toArray, set_cons_zero, set_cons_succ, getElem_toArray, getElem_cons_zero, getElem_cons_succ]
   refine tkY 4 rfl (v := ?_) (.inl ⟨by rfl, ?_⟩) ?_
   case refine_2 => intro w9 hSw; (try dsimp only at hSw); go_simp; (try with_reducible rfl)
   try simp only [Act.put, setIfInBounds_toArray, set_cons_zero, set_cons_succ, getElem_toArray, getElem_cons_zero, getElem_cons_succ]
   refine tkY 5 rfl (v := ?_) (.inl ⟨by rfl, ?_⟩) ?_
   case refine_2 => intro w9 hSw; (try dsimp only at hSw); go_simp; (try with_reducible rfl)
   try simp only [Act.put, setIfInBounds_toArray, set_cons_zero, set_cons_succ, getElem_toArray, getElem_cons_zero, getElem_cons_succ]
   refine tkY 6 rfl (v := ?_) (.inl ⟨by rfl, ?_⟩) ?_
   case refine_2 => intro w9 hSw; (try dsimp only at hSw); go_simp; (try with_reducible rfl)
   try simp only [Act.put, setIfInBounds_toArray, set_cons_zero, set_cons_succ, getElem_toArray, getElem_cons_zero, getElem_cons_succ]
   refine tkY 7 rfl (v := ?_) (.inl ⟨by rfl, ?_⟩) ?_
   case refine_2 => intro w9 hSw; (try dsimp only at hSw); go_simp; (try with_reducible rfl)
   try simp only [Act.put, setIfInBounds_toArray, set_cons_zero, set_cons_succ, getElem_toArray, getElem_cons_zero, getElem_cons_succ]
   refine tkY 8 rfl (v := ?_) (.inl ⟨by rfl, ?_⟩) ?_
   case refine_2 => intro w9 hSw; (try dsimp only at hSw); go_simp; (try with_reducible rfl)
   try simp only [Act.put, setIfInBounds_toArray, set_cons_zero, set_cons_succ, getElem_toArray, getElem_cons_zero, getElem_cons_succ]
   refine tkY 9 rfl (v := ?_) (.inl ⟨by rfl, ?_⟩) ?_
   case refine_2 => intro w9 hSw; (try dsimp only at hSw); go_simp; (try with_reducible rfl)
   try simp only [Act.put, setIfInBounds_toArray, set_cons_zero, set_cons_succ, getElem_toArray, getElem_cons_zero, getElem_cons_succ]
   refine wpAnyH_done (by kernel_rfl) ?_ _
   go_upto_region 9 with (fail)
   have D := ag; have M := ah; have a8 := ai; have a9 := aj; have ba := B; have U := ak; clear A5 B5 a3 a4 af a7; obtain ⟨w6, al⟩ := eX (bp); rw [← al] at D M a8 a9 ba U ⊢; clear al; obtain ⟨j, O, k, P⟩ := D.out.all2; obtain ⟨a, y⟩ := M.out.all1
   cases b with
   | false =>
    have l := hI (show E = ((0, 0, 5), some T) from x.out); clear x
    go_wp2_with fail
    rw [pst2 D.out]; have m := hI (M.out.far (t' := 40) Z #[.int .i64 0, .int .i64 0]); rw [pst1 m.out]; have A7 := hI ((D.out.put #[.int .i64 0, .int .i64 0]).far (t' := 41) I #[.int .i64 5]); have B7 := hI (m.out.put #[.int .i64 5]); have ap := hI (grown_new (grown_new U.out (Nat.le_refl _) 40 #[.int .i64 0, .int .i64 0]) (Nat.le_succ _) 41 #[.int .i64 5]); obtain ⟨w7, aq⟩ := eX (putB (putB w6 w.heap.size 40 #[.int .i64 0, .int .i64 0]) (w.heap.size + 1) 41 #[.int .i64 5]); rw [← aq] at A7 B7 ap ⊢; clear aq m; clear j O k P a y
    refine leaves_cons (f := 90) (args := #[.pointer (some ⟨w.heap.size, 0, none⟩), .pointer (some ⟨w.heap.size + 1, 0, none⟩)]) (by simp) (by simp [go_sem]) ?_
    refine (run1_idle ⟨w.heap.size, 0, none⟩ ⟨w.heap.size + 1, 0, none⟩ w7).mono ?_
    rintro e u' w8 ⟨rfl, rfl, rfl⟩; obtain ⟨j, _, k, _⟩ := A7.out.all2; obtain ⟨a, _⟩ := B7.out.all1
    simp [Leaves, settle, results, Tryz.results46, go_sem, j, k, a]
    exact ⟨(by rw [l.out]; try rfl), ap, hI (fun h => absurd h (by rw [l.out]; simp))⟩
   | true =>
    have l := hI (show E = ((0, 0, 0), some T) from x.out); clear x
    go_wp2_with fail
    rw [pst2 D.out]; have m := hI (M.out.far (t' := 40) Z #[.int .i64 0, .int .i64 0]); rw [pst1 m.out]; have A7 := hI ((D.out.put #[.int .i64 0, .int .i64 0]).far (t' := 41) I #[.int .i64 0]); have B7 := hI (m.out.put #[.int .i64 0]); have cl := hI ((a8.out.far (t' := 40) av #[.int .i64 0, .int .i64 0]).far (t' := 41) aw #[.int .i64 0]); have ap := hI (grown_new (grown_new U.out (Nat.le_refl _) 40 #[.int .i64 0, .int .i64 0]) (Nat.le_succ _) 41 #[.int .i64 0]); have cm := hI (((a9.out.far (r := w.heap.size) (by omega) 40 #[.int .i64 0, .int .i64 0]).far (r := w.heap.size + 1) (by omega) 41 #[.int .i64 0]).weaken (C := w.heap.size) (by omega)); obtain ⟨w7, aq⟩ := eX (putB (putB w6 w.heap.size 40 #[.int .i64 0, .int .i64 0]) (w.heap.size + 1) 41 #[.int .i64 0]); rw [← aq] at A7 B7 cl ap cm ⊢; clear aq m; clear j O k P a y
    refine leaves_cons (f := 90) (args := #[.pointer (some ⟨w.heap.size, 0, none⟩), .pointer (some ⟨w.heap.size + 1, 0, none⟩)]) (by simp) (by simp [go_sem]) ?_
    refine (run1_idle ⟨w.heap.size, 0, none⟩ ⟨w.heap.size + 1, 0, none⟩ w7).mono ?_
    rintro e u' w8 ⟨rfl, rfl, rfl⟩; obtain ⟨j, _, k, _⟩ := A7.out.all2; obtain ⟨a, _⟩ := B7.out.all1
    simp [Leaves, settle, results, Tryz.results46, go_sem, j, k, a]
    exact ⟨(by rw [l.out]; try rfl), ap, hI (fun h => ⟨T, v, by rw [l.out], cl, cm⟩)⟩
def zPb : PbN := ⟨none, 0, 0, [], none, 0, 0, [], none, 0, 0, [], 0, 0⟩
def ProblemOut (r : (Nat × Nat × Nat) × Option PbP) (v : PbN) (w w' : World) : Prop := (r.1.2.2 ≠ 0 → v = zPb) ∧ (r.1.2.2 = 0 → ∃ T, r.2 = some T ∧ InXP w.heap.size w' T v)
def ProblemP (l : List UInt8) (w : World) (e : Ending) (w' : World) : Prop :=
  ∃ v : PbN, e = .returned (.tuple #[v.val, .agg #[.int .i64 (probR l).1.1, .int .i64 (probR l).1.2.1], .int .i64 (probR l).1.2.2]) ∧ Hid (Below w.heap.size w w') ∧ ProblemOut (probR l) v w w'
theorem pProblemX (s : ByteArray) (w : World) (hs : s.size ≤ maxLen) (hR : RX w) (hX : FX w) : Calls Tryz.prog 35 #[.string s] w (ProblemP s.data.toList w) := by
 have bo : ∀ (fn : Fn) (first cap : Array Value) (w : World), (Instr.makeFunc fn first cap).run Tryz.prog w = .ok (.func fn first cap) w := fun _ _ _ _ => rfl
 have HR := hI hR
 have HX := hI hX
 have KR := hI (fun (w' : World) (hB : Blk w' (w.heap.size + 2) 68 #[.slice none 0 0, .slice none 0 0, .slice none 0 0, .int .i64 0, .int .i64 0]) (hR' : RX w') (hX' : FX w') => pRunProblem s w' hs (w.heap.size + 2) hB hR' hX')
 unfold ProblemP
 obtain ⟨RR, au⟩ := eX (probR s.data.toList)
 rw [← au] at KR ⊢
 clear hR hX au
 obtain ⟨⟨b, g, er⟩, o⟩ := RR
 simp only at KR ⊢
 go_enter Tryz.func35, Tryz.ntmps35
 go_upto_region 2 with (fail)
 obtain ⟨I, J⟩ := eX (((w.alloc (Obj.cells #[.slice none 0 0, .slice none 0 0, .slice none 0 0, .int .i64 0, .int .i64 0] 68)).alloc (Obj.cells #[.int .i64 0, .int .i64 0] 40)).alloc (Obj.cells #[.slice none 0 0, .slice none 0 0, .slice none 0 0, .int .i64 0, .int .i64 0] 68))
 have O1 := hI (show Below w.heap.size w I by rw [J]; exact ((below_box _ _).trans ((below_box _ _).mono (by simp))).trans ((below_box _ _).mono (by simp; omega)))
 have A1 := hI (show Blk I w.heap.size 68 #[.slice none 0 0, .slice none 0 0, .slice none 0 0, .int .i64 0, .int .i64 0] by rw [J]; exact ((Blk.new w 68 #[.slice none 0 0, .slice none 0 0, .slice none 0 0, .int .i64 0, .int .i64 0]).belowW (below_box _ _)).belowW (below_box _ _))
 have B1 := hI (show Blk I (w.heap.size + 1) 40 #[.int .i64 0, .int .i64 0] by rw [J]; exact Blk.belowW (by have := Blk.new (w.alloc (Obj.cells #[.slice none 0 0, .slice none 0 0, .slice none 0 0, .int .i64 0, .int .i64 0] 68)) 40 #[.int .i64 0, .int .i64 0]; simpa using this) (below_box _ _))
 have X1 := hI (show Blk I (w.heap.size + 2) 68 #[.slice none 0 0, .slice none 0 0, .slice none 0 0, .int .i64 0, .int .i64 0] by rw [J]; exact (by have := Blk.new ((w.alloc (Obj.cells #[.slice none 0 0, .slice none 0 0, .slice none 0 0, .int .i64 0, .int .i64 0] 68)).alloc (Obj.cells #[.int .i64 0, .int .i64 0] 40)) 68 #[.slice none 0 0, .slice none 0 0, .slice none 0 0, .int .i64 0, .int .i64 0]; simpa using this))
 rw [← J]
 clear J
 have bp : w.heap.size + 2 < I.heap.size := X1.out.lt
 go_wp2_with fail
 refine (KR.out I X1.out (HR.out.belowW O1.out) (HX.out.belowW O1.out)).mono ?_
 rintro e w2 ⟨rfl, Z, be⟩
 have O2 := hI (below_grown O1.out (by omega) Z.out)
 have A2 := hI (A1.out.grown Z.out (by simp))
 have B2 := hI (B1.out.grown Z.out (by simp))
 have bq := Z.out.size
 go_upto_region 3 with (fail)
 obtain ⟨w4, aw, M, T4⟩ := aX w2 40 #[.int .i64 (b : Nat), .int .i64 (g : Nat)]
 rw [← aw]
 clear aw
 have O4 := O2.out.t M
 have A4 := A2.out.b9 M
 have B4 := B2.out.b9 M
 obtain ⟨x, a0⟩ := eX (w2.heap.size)
 have br : w.heap.size + 2 < x := by omega
 rw [← a0] at T4 ⊢
 clear a0
 have a1 : w.heap.size + 1 ≠ w.heap.size := by omega
 have a2 : w.heap.size ≠ w.heap.size + 1 := by omega
 have a3 : x ≠ w.heap.size := by omega
 have a4 : x ≠ w.heap.size + 1 := by omega
 have bi : w.heap.size + 2 ≠ w.heap.size := by omega
 have bj : w.heap.size + 2 ≠ w.heap.size + 1 := by omega
 by_cases her : er = 0
 ·
  obtain ⟨T, v, hT, bk, bl⟩ := be.out her; subst her; have HT := hI hT; clear hT
  go_upto_region 5 with (fail)
  have i := hI (below_dr w4); have j := A4.out.b9 i; have N := B4.out.b9 i; have l := T4.out.b9 i; have O := O4.out.t i; have y := hI ((bk.out.belowW M.out).belowW i.out); have a6 := hI ((bl.out.belowW M.out).belowW i.out)
  refine wp_region_held_drew (S := fun w' => w'.cell? ⟨x, 0, none⟩ = some (.int .i64 (b : Nat)) ∧ w'.cell? ⟨x, 1, none⟩ = some (.int .i64 (g : Nat)) ∧ w'.cell? ⟨w.heap.size + 2, 0, none⟩ = some (.slice v.A v.n v.c) ∧ w'.cell? ⟨w.heap.size + 2, 1, none⟩ = some (.slice v.B v.m v.d) ∧ w'.cell? ⟨w.heap.size + 2, 2, none⟩ = some (.slice v.C v.k v.e) ∧ w'.cell? ⟨w.heap.size + 2, 3, none⟩ = some (.int .i64 v.t) ∧ w'.cell? ⟨w.heap.size + 2, 4, none⟩ = some (.int .i64 v.u)) (by kernel_rfl) ?_ (fun hHeld => ?_)
  case refine_1 => exact ⟨l.out.cell 0, l.out.cell 1, y.out.cell 0, y.out.cell 1, y.out.cell 2, y.out.cell 3, y.out.cell 4⟩
  obtain ⟨P, Q⟩ := eX (w4.drew); rw [← Q] at i j N l O y a6 hHeld ⊢; clear Q
  refine tkY 0 rfl (v := ?_) (.inl ⟨by rfl, ?_⟩) ?_
  case refine_2 => intro w9 hSw; (try dsimp only at hSw); go_simp; (try with_reducible rfl)
  try simp only [Act.put, setIfInBounds_toArray, set_cons_zero, set_cons_succ, getElem_toArray, getElem_cons_zero]
  refine tkY 1 rfl (v := ?_) (.inl ⟨by rfl, ?_⟩) ?_
  case refine_2 => intro w9 hSw; (try dsimp only at hSw); go_simp; (try with_reducible rfl)
  try simp only [Act.put, setIfInBounds_toArray, set_cons_zero, set_cons_succ, getElem_toArray, getElem_cons_zero, getElem_cons_succ]
  refine tkY 2 rfl (v := ?_) (.inl ⟨by rfl, ?_⟩) ?_
  case refine_2 => intro w9 hSw; (try dsimp only at hSw); go_simp; (try with_reducible rfl)
  try simp only [Act.put, setIfInBounds_toArray, set_cons_zero, set_cons_succ, getElem_toArray, getElem_cons_zero, getElem_cons_succ]
  refine wpAnyH_ready (rs := [3]) (by kernel_rfl) (by simp) ?_
  refine (AllReadyH.cons rfl (fun K hK => ?_) AllReadyH.nil)
  obtain ⟨z, D, E, F, af, ag, ah, ai, aj, ak⟩ := j.out.all5
  go_simp
  rw [pst5 j.out]; clear z D E F af ag ah ai aj ak; have p := hI (N.out.far (t' := 68) a1 #[.slice v.A v.n v.c, .slice v.B v.m v.d, .slice v.C v.k v.e, .int .i64 v.t, .int .i64 v.u]); have q := hI (l.out.far (t' := 68) a3 #[.slice v.A v.n v.c, .slice v.B v.m v.d, .slice v.C v.k v.e, .int .i64 v.t, .int .i64 v.u]); have R := hI (O.out.trans (putB_below P w.heap.size 68 #[.slice v.A v.n v.c, .slice v.B v.m v.d, .slice v.C v.k v.e, .int .i64 v.t, .int .i64 v.u] (Nat.le_refl _))); have G := hI (y.out.far (t' := 68) bi #[.slice v.A v.n v.c, .slice v.B v.m v.d, .slice v.C v.k v.e, .int .i64 v.t, .int .i64 v.u]); have a7 := hI (a6.out.far (r := w.heap.size) (by omega) 68 #[.slice v.A v.n v.c, .slice v.B v.m v.d, .slice v.C v.k v.e, .int .i64 v.t, .int .i64 v.u]); have U := hI (j.out.put #[.slice v.A v.n v.c, .slice v.B v.m v.d, .slice v.C v.k v.e, .int .i64 v.t, .int .i64 v.u]); obtain ⟨V, a⟩ := eX (putB P (w.heap.size) 68 #[.slice v.A v.n v.c, .slice v.B v.m v.d, .slice v.C v.k v.e, .int .i64 v.t, .int .i64 v.u])
  try rw [← a] at p
  try rw [← a] at q
  try rw [← a] at R
  try rw [← a] at G
  try rw [← a] at a7
  try rw [← a] at U
  rw [← a]; clear a hHeld
  refine hK.out _ _ ?_ (fun hHeld => ?_)
  case refine_1 => exact ⟨q.out.cell 0, q.out.cell 1, G.out.cell 0, G.out.cell 1, G.out.cell 2, G.out.cell 3, G.out.cell 4⟩
  clear hK K
  try simp only [setIfInBounds_toArray, set_cons_zero, set_cons_succ]
  refine wpAnyH_ready (rs := [4]) (by kernel_rfl) (by simp) ?_
  refine (AllReadyH.cons rfl (fun K hK => ?_) AllReadyH.nil)
  obtain ⟨z, D, E, F⟩ := p.out.all2
  go_simp
  rw [pst2 p.out]; clear z D E F; have H := hI (q.out.far (t' := 40) a4 #[.int .i64 (b : Nat), .int .i64 (g : Nat)]); have W := hI (R.out.trans (putB_below V (w.heap.size + 1) 40 #[.int .i64 (b : Nat), .int .i64 (g : Nat)] (Nat.le_succ _))); have L := hI (G.out.far (t' := 40) bj #[.int .i64 (b : Nat), .int .i64 (g : Nat)]); have a8 := hI (a7.out.far (r := w.heap.size + 1) (by omega) 40 #[.int .i64 (b : Nat), .int .i64 (g : Nat)]); have X := hI (U.out.far (t' := 40) a2 #[.int .i64 (b : Nat), .int .i64 (g : Nat)]); have Y := hI (p.out.put #[.int .i64 (b : Nat), .int .i64 (g : Nat)]); obtain ⟨bn, a⟩ := eX (putB V (w.heap.size + 1) 40 #[.int .i64 (b : Nat), .int .i64 (g : Nat)])
  try rw [← a] at H
  try rw [← a] at W
  try rw [← a] at L
  try rw [← a] at a8
  try rw [← a] at X
  try rw [← a] at Y
  rw [← a]; clear a hHeld
  refine hK.out _ _ ?_ (fun hHeld => ?_)
  case refine_1 => exact ⟨H.out.cell 0, H.out.cell 1, L.out.cell 0, L.out.cell 1, L.out.cell 2, L.out.cell 3, L.out.cell 4⟩
  clear hK K
  try simp only [setIfInBounds_toArray, set_cons_zero, set_cons_succ]
  refine tkY 5 rfl (v := ?_) (.inl ⟨by rfl, ?_⟩) ?_
  case refine_2 => intro w9 hSw; (try dsimp only at hSw); go_simp; (try with_reducible rfl)
  try simp only [Act.put, setIfInBounds_toArray, set_cons_zero, set_cons_succ, getElem_toArray, getElem_cons_zero, getElem_cons_succ]
  refine wpAnyH_done (by kernel_rfl) ?_ _
  obtain ⟨z0, _, z1, _, z2, _, z3, _, z4, _⟩ := X.out.all5; obtain ⟨y0, _, y1, _⟩ := Y.out.all2
  go_wp2_with fail
  refine bodyPost_ret (v := .tuple #[.agg #[.slice v.A v.n v.c, .slice v.B v.m v.d, .slice v.C v.k v.e, .int .i64 v.t, .int .i64 v.u], .agg #[.int .i64 (b : Nat), .int .i64 (g : Nat)], .int .i64 0]) (by simp [results, Tryz.results35, go_sem, z0, z1, z2, z3, z4, y0, y1]) rfl ?_
  exact ⟨v, rfl, W, ⟨fun h => absurd rfl h, fun _ => ⟨T, HT.out, a8.out.weaken (by omega)⟩⟩⟩
 have d1 : (((er : Nat) : Int) != 0) = true := by rw [bne_iff_ne]; omega
 go_upto_region 4 with (fail)
 have i := hI (below_dr w4)
 have j := A4.out.b9 i
 have N := B4.out.b9 i
 have l := T4.out.b9 i
 have O := O4.out.t i
 refine wp_region_held_drew (S := fun w' => w'.cell? ⟨x, 0, none⟩ = some (.int .i64 (b : Nat)) ∧ w'.cell? ⟨x, 1, none⟩ = some (.int .i64 (g : Nat))) (by kernel_rfl) ?_ (fun hHeld => ?_)
 case refine_1 => exact ⟨l.out.cell 0, l.out.cell 1⟩
 obtain ⟨P, Q⟩ := eX (w4.drew)
 rw [← Q] at i j N l O hHeld ⊢
 clear Q
 refine tkY 0 rfl (v := ?_) (.inl ⟨by rfl, ?_⟩) ?_
 case refine_2 => intro w9 hSw; (try dsimp only at hSw); go_simp; (try with_reducible rfl)
 try simp only [Act.put, setIfInBounds_toArray, set_cons_zero, set_cons_succ, getElem_toArray, getElem_cons_zero]
 refine tkY 1 rfl (v := ?_) (.inl ⟨by rfl, ?_⟩) ?_
 case refine_2 => intro w9 hSw; (try dsimp only at hSw); go_simp; (try with_reducible rfl)
 try simp only [Act.put, setIfInBounds_toArray, set_cons_zero, set_cons_succ, getElem_toArray, getElem_cons_zero, getElem_cons_succ]
 refine tkY 2 rfl (v := ?_) (.inl ⟨by rfl, ?_⟩) ?_
 case refine_2 => intro w9 hSw; (try dsimp only at hSw); go_simp; (try with_reducible rfl)
 try simp only [Act.put, setIfInBounds_toArray, set_cons_zero, set_cons_succ, getElem_toArray, getElem_cons_zero, getElem_cons_succ]
 refine wpAnyH_ready (rs := [3]) (by kernel_rfl) (by simp) ?_
 refine (AllReadyH.cons rfl (fun K hK => ?_) AllReadyH.nil)
 obtain ⟨z, D, E, F, af, ag, ah, ai, aj, ak⟩ := j.out.all5
 go_simp
 rw [pst5 j.out]
 clear z D E F af ag ah ai aj ak
 have p := hI (N.out.far (t' := 68) a1 #[.slice none 0 0, .slice none 0 0, .slice none 0 0, .int .i64 0, .int .i64 0])
 have q := hI (l.out.far (t' := 68) a3 #[.slice none 0 0, .slice none 0 0, .slice none 0 0, .int .i64 0, .int .i64 0])
 have R := hI (O.out.trans (putB_below P w.heap.size 68 #[.slice none 0 0, .slice none 0 0, .slice none 0 0, .int .i64 0, .int .i64 0] (Nat.le_refl _)))
 have U := hI (j.out.put #[.slice none 0 0, .slice none 0 0, .slice none 0 0, .int .i64 0, .int .i64 0])
 obtain ⟨V, a⟩ := eX (putB P (w.heap.size) 68 #[.slice none 0 0, .slice none 0 0, .slice none 0 0, .int .i64 0, .int .i64 0])
 try rw [← a] at p
 try rw [← a] at q
 try rw [← a] at R
 try rw [← a] at U
 rw [← a]
 clear a hHeld
 refine hK.out _ _ ?_ (fun hHeld => ?_)
 case refine_1 => exact ⟨q.out.cell 0, q.out.cell 1⟩
 clear hK K
 try simp only [setIfInBounds_toArray, set_cons_zero, set_cons_succ]
 refine wpAnyH_ready (rs := [4]) (by kernel_rfl) (by simp) ?_
 refine (AllReadyH.cons rfl (fun K hK => ?_) AllReadyH.nil)
 obtain ⟨z, D, E, F⟩ := p.out.all2
 go_simp
 rw [pst2 p.out]
 clear z D E F
 have H := hI (q.out.far (t' := 40) a4 #[.int .i64 (b : Nat), .int .i64 (g : Nat)])
 have W := hI (R.out.trans (putB_below V (w.heap.size + 1) 40 #[.int .i64 (b : Nat), .int .i64 (g : Nat)] (Nat.le_succ _)))
 have X := hI (U.out.far (t' := 40) a2 #[.int .i64 (b : Nat), .int .i64 (g : Nat)])
 have Y := hI (p.out.put #[.int .i64 (b : Nat), .int .i64 (g : Nat)])
 obtain ⟨bn, a⟩ := eX (putB V (w.heap.size + 1) 40 #[.int .i64 (b : Nat), .int .i64 (g : Nat)])
 try rw [← a] at H
 try rw [← a] at W
 try rw [← a] at X
 try rw [← a] at Y
 rw [← a]
 clear a hHeld
 refine hK.out _ _ ?_ (fun hHeld => ?_)
 case refine_1 => exact ⟨H.out.cell 0, H.out.cell 1⟩
 clear hK K
 try simp only [setIfInBounds_toArray, set_cons_zero, set_cons_succ]
 refine tkY 5 rfl (v := ?_) (.inl ⟨by rfl, ?_⟩) ?_
 case refine_2 => intro w9 hSw; (try dsimp only at hSw); go_simp; (try with_reducible rfl)
 try simp only [Act.put, setIfInBounds_toArray, set_cons_zero, set_cons_succ, getElem_toArray, getElem_cons_zero, getElem_cons_succ]
 refine wpAnyH_done (by kernel_rfl) ?_ _
 obtain ⟨z0, _, z1, _, z2, _, z3, _, z4, _⟩ := X.out.all5
 obtain ⟨y0, _, y1, _⟩ := Y.out.all2
 go_wp2_with fail
 refine bodyPost_ret (v := .tuple #[.agg #[.slice none 0 0, .slice none 0 0, .slice none 0 0, .int .i64 0, .int .i64 0], .agg #[.int .i64 (b : Nat), .int .i64 (g : Nat)], .int .i64 (er : Nat)]) (by simp [results, Tryz.results35, go_sem, z0, z1, z2, z3, z4, y0, y1]) rfl ?_
 exact ⟨zPb, rfl, W, ⟨fun _ => rfl, fun h => absurd h her⟩⟩
end Go.Proofs.YtkjoohnndobjeaaGreatDoor
