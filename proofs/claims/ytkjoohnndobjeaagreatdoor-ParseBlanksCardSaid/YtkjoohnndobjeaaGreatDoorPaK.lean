/-
  The walk of the parser's chains of operations.
-/
import Derived.Test.YtkjoohnndobjeaaGreatDoorPaJ
set_option linter.unusedVariables false
set_option maxHeartbeats 4000000
set_option maxRecDepth 100000
namespace Go.Proofs.YtkjoohnndobjeaaGreatDoor
open Go.RowKit Go.Fl Go.Fl.Lx Go.Fl.Nm Go.Fl.Fm Go.Fl.Rt Go.Fl.Pa
open List (setIfInBounds_toArray set_cons_zero set_cons_succ getElem_toArray getElem_cons_zero getElem_cons_succ)
/-- What a chain comes to, with what its first operand comes to. -/
def chainR (ch : TE → Nat → PR TE) (r : PR TE) : PR TE :=
  match r with
  | .ok e k1 => ch e k1
  | r => r
/-- One step of a chain. -/
def stepR (ts : List Tok) (opk : List UInt8 → Int) (ch : TE → Nat → PR TE) (e : TE) (k : Nat) (r : PR TE) : PR TE :=
  if (tk ts k).kind = 3 ∧ opk (tk ts k).text ≠ 0 then
    match r with
    | .ok b k1 => ch (opE (opk (tk ts k).text) [e, b]) k1
    | r => r
  else .ok e k
theorem map_kept {w w' : World} {bm g : Nat} {o : Obj} (h : w.heap[bm]? = some o) (hg : w.grownBy w' (some g)) (hne : bm ≠ g) : w'.heap[bm]? = some o :=
 (hg.block bm (Array.getElem?_eq_some_iff.1 h).1 (fun e => hne (Option.some.inj e))).trans h
theorem map_below {w w' : World} {bm : Nat} {o : Obj} (h : w.heap[bm]? = some o) (hb : Below w.heap.size w w') : w'.heap[bm]? = some o :=
 (hb.block bm (Array.getElem?_eq_some_iff.1 h).1).trans h
theorem map_put {w : World} {bm r : Nat} {o : Obj} (h : w.heap[bm]? = some o) (hne : bm ≠ r) (t : TypeId) (V : Array Value) : (putB w r t V).heap[bm]? = some o := map_kept h (putB_grown w r t V) hne
/-- A loop's state: so much fuel is left, the tree so far lies at the loop's variable. -/
def ChRel (w0 w : World) (g : Nat) (A : Option Addr) (len cap : Nat) (ts : List Tok) (m : Nat) (ch : Nat → TE → Nat → PR TE) (RR : PR TE) (B be bm : Nat) (es : Array MapEntry) (f0 : Nat) (f : Nat) (wr : World) : Prop :=
  ∃ (T : TE) (v : Nd) (k : Nat), Hid (ch f T k = RR) ∧ Hid (k ≤ ts.length ∧ 8 * (ts.length - k) + 2 ≤ f ∧ f ≤ f0) ∧ Hid (InA (fun b => B ≤ b ∧ b ≠ be) wr T v) ∧ Hid (Blk wr be 29 #[.int .i64 v.h.kind, .int .i64 v.h.n, .int .i64 v.h.d, .string v.h.name, .int .i64 v.h.k, .slice v.A v.len v.cap]) ∧ Hid (Blk wr w.heap.size 29 #[.int .i64 0, .int .i64 0, .int .i64 0, .string ⟨#[]⟩, .int .i64 0, .slice none 0 0]) ∧
    Hid (Env w0 g A len cap ts k m wr) ∧ Hid (w.grownBy wr (some g)) ∧ Hid (wr.heap[bm]? = some (.map es 2))

theorem pChainS {w0 w : World} {g : Nat} {A : Option Addr} {len cap : Nat} {ts : List Tok} {k m : Nat} (h : Env w0 g A len cap ts k m w) (hk : k ≤ 100001) (bm : Nat) (es : Array MapEntry) (opk : List UInt8 → Int) (hop : ∀ l, 0 ≤ opk l ∧ opk l ≤ 13)
 (LK : ∀ (w' : World) (l : List UInt8), w'.heap[bm]? = some (.map es 2) → (Instr.lookup 142 (.map (some bm)) (.string ⟨l.toArray⟩) true).run Tryz.prog w' = .ok (.tuple #[.int .i64 (opk l), .bool (opk l != 0)]) w')
 (hbm : w.heap[bm]? = some (.map es 2)) (hbg : bm ≠ g)
 (ch : Nat → TE → Nat → PR TE) (nx : Nat → Nat → PR TE) (hch : ∀ f e k, ch (f + 1) e k = stepR ts opk (ch f) e k (nx f (k + 1)))
 (hnk : ∀ f k b k2, nx f k = .ok b k2 → k < k2 ∧ k2 ≤ ts.length) (hno : ∀ f k, 8 * (ts.length - k) + 7 ≤ f → nx f k ≠ .out)
 (f0 : Nat) (r : PR TE) (hr : r ≠ .out) (hrk : ∀ T k1, r = .ok T k1 → k1 ≤ ts.length ∧ 8 * (ts.length - k1) + 2 ≤ f0)
 (K1 : ∀ w', Env w0 g A len cap ts k m w' → Calls Tryz.prog 93 #[.pointer (some ⟨g, 0, none⟩)] w' (ExR w0 g A len cap ts m r w'))
 (K2 : ∀ f k', f < f0 → 8 * (ts.length - k') + 7 ≤ f → k' ≤ 100001 → ∀ w', Env w0 g A len cap ts k' m w' → Calls Tryz.prog 93 #[.pointer (some ⟨g, 0, none⟩)] w' (ExR w0 g A len cap ts m (nx f k') w')) :
 Calls Tryz.prog 92 #[.pointer (some ⟨g, 0, none⟩), .func (.func 93) #[.pointer (some ⟨g, 0, none⟩)] #[], .func (.func 93) #[.pointer (some ⟨g, 0, none⟩)] #[], .map (some bm)] w (ExR w0 g A len cap ts m (chainR (ch f0) r) w) := by
 have dw := hI K2
 have dx := hI LK
 have dy := hI hch
 have dz := hI hnk
 have d0 := hI hno
 have d3 := hI (show ts.length ≤ 100000 by rw [h.t.hl]; exact h.t.hs)
 obtain ⟨F, bc⟩ := eX (chainR (ch f0) r)
 have az := hI bc
 rw [← bc]
 have cy := hI K1
 clear K1 K2 LK hch hnk hno bc
 have fb : bm < w.heap.size := (Array.getElem?_eq_some_iff.1 hbm).1
 go_enter Tryz.func92, Tryz.ntmps92
 go_upto_region 1 with (fail)
 obtain ⟨G, cz, O1, V⟩ := aX w 29 #[.int .i64 0, .int .i64 0, .int .i64 0, .string ⟨#[]⟩, .int .i64 0, .slice none 0 0]
 rw [← cz]
 clear cz
 have a7 := hI (show some w.heap.size ≠ some g from fun e => by have := h.gl; injection e with e; omega)
 have bd : w.heap.size ≠ g := fun e => a7.out (by rw [e])
 have c0 : w0.heap.size ≤ w.heap.size := h.b.size
 have fc : g < w.heap.size := h.gl
 have J := hI (h.belowW O1.out)
 have W := hI (grown_of (some g) O1.out)
 have L : w.heap.size < G.heap.size := V.out.lt
 clear h
 have bf : g < G.heap.size := J.out.gl
 have M1 := hI (map_below hbm O1.out)
 clear hbm
 have KC := hI (cy.out G J.out)
 cases r with
 | out => exact (hr rfl).elim
 | bad ln co er =>
  have u := hI (show F = .bad ln co er from az.out); clear az
  go_wp2_with fail
  refine KC.out.mono ?_
  rintro e w2 ⟨rfl, R⟩
  go_wp2_with fail
  rw [u.out]
  exact ⟨rfl, exr_bad (hI (grown_tr W.out R.out))⟩
 | ok T k1 =>
  have u := hI (show ch f0 T k1 = F from az.out.symm); have a8 := hI (show k1 ≤ ts.length ∧ 8 * (ts.length - k1) + 2 ≤ f0 ∧ f0 ≤ f0 from ⟨(hrk T k1 rfl).1, (hrk T k1 rfl).2, Nat.le_refl _⟩); clear az hrk
  go_wp2_with fail
  refine KC.out.mono ?_
  rintro e w2 ⟨v, rfl, c2, R, bh⟩; have bi := hI (V.out.grown R.out a7.out); have c3 := R
  go_upto_region 2 with (fail)
  obtain ⟨w3, c4, U, E3⟩ := aX w2 29 #[.int .i64 v.h.kind, .int .i64 v.h.n, .int .i64 v.h.d, .string v.h.name, .int .i64 v.h.k, .slice v.A v.len v.cap]; rw [← c4]; clear c4; have bk := hI (InA.belowW (InA.weaken (InA.lt c2.out) (Q := fun b => G.heap.size ≤ b ∧ b ≠ w2.heap.size) (fun b hb => ⟨hb.1, Nat.ne_of_lt hb.2⟩)) U.out); have d4 : w.heap.size < w2.heap.size := bi.out.lt; have X : G.heap.size ≤ w2.heap.size := c3.out.size; have d5 : g < w2.heap.size := bh.out.gl; obtain ⟨x, c5⟩ := eX (w2.heap.size); rw [← c5] at X E3 d4 d5 bk ⊢; clear c5; have a9 : x ≠ g := (by omega); have c6 : w0.heap.size ≤ x := (by omega); have c7 : w.heap.size ≤ x := (by omega); have c8 : w.heap.size ≠ x := (by omega); have c9 : bm ≠ x := (by omega); have da := hI (show some x ≠ some g from fun e => a9 (Option.some.inj e)); have db := L; clear L; have L := db; clear db
  go_loopg [10, 11] f0 (fun f d1 d2 wr => ChRel w0 w g A len cap ts m ch F G.heap.size x bm es f0 f wr)
  case atStart => exact ⟨T, v, k1, u, a8, bk, E3, (bi.out.b9 U), (bh.out.b9 U), (hI (grown_tr (grown_tr W.out R.out) (grown_of (some g) U.out))), (hI (map_below (map_kept M1.out R.out hbg) U.out))⟩
  clear u a8 bk E3 U c2 bh bi KC cy W J V O1 M1 c3; obtain ⟨D, v, i, d6, a8, d7, E1, V, J, W, d9⟩ := hrel; obtain ⟨ea, fe, ff⟩ := a8.out; have fg := d3.out
  cases gk with
  | zero => omega
  | succ f =>
   have o := hI (show F = stepR ts opk (ch f) D i (nx f (i + 1)) from d6.out.symm.trans (dy.out f D i)); have Y := hI (fun (w' : World) (hb : Below wr.heap.size wr w') => Env.tok (show Env w0 g A len cap ts i m w' from J.out.belowW hb) 0 (by omega)); simp only [Nat.add_zero] at Y; have bl := @tk_lt ts i; have eb := J.out.t.tk i
   unfold stepR at o
   obtain ⟨H, dc⟩ := eX (tk ts i); rw [← dc] at Y o bl eb; have dd := hop H.text; have bn := hI (fun (w' : World) (hh : w'.heap[bm]? = some (.map es 2)) => dx.out w' H.text hh); obtain ⟨a, de⟩ := eX (opk H.text); rw [← de] at bn o dd; have df := hI (hd_op dd)
   obtain ⟨b, hb⟩ : ∃ b, (a != 0) = b := ⟨_, rfl⟩
   have dg := hI (show (a ≠ 0) ↔ b = true by rw [← hb, bne_iff_ne]); rw [hb] at bn
   obtain ⟨c, hc⟩ : ∃ b, ((H.kind : Int) != 3) = b := ⟨_, rfl⟩
   have dh := hI (show (H.kind ≠ 3) ↔ c = true by rw [← hc, bne_iff_ne]; omega); clear dc de hb; have fh := tokF0 H; have fi := tokF1 H
   go_wp2_with fail
   refine (Y.out wr (Below.refl _ _)).mono ?_
   rintro e w4 ⟨rfl, I⟩; have M4 := hI (map_below d9.out I.out); have ec := bn.out w4 M4.out; have bo := hI (show Env w0 g A len cap ts i m w4 from J.out.belowW I.out); have E4 := E1.out.b9 I; have E := V.out.b9 I; have bq := d7.out.b9 I; have br := hI (grown_tr W.out (grown_of (some g) I.out))
   cases b with
   | false =>
    have u := hI (show F = .ok D i by rw [o.out, if_neg (fun e => by have := dg.out.1 e.2; cases this)]); clear o; obtain ⟨a0, b0, a1, b1, a2, b2, a3, b3, a4, b4, a5, b5⟩ := E4.out.all6; obtain ⟨r0, h0, r1, h1, r2, h2, r3, h3, r4, h4, r5, h5⟩ := E.out.all6
    go_wp2_with fail
    rw [pst6 E.out]; obtain ⟨z0, _, z1, _, z2, _, z3, _, z4, _, z5, _⟩ := (E.out.put #[.int .i64 v.h.kind, .int .i64 v.h.n, .int .i64 v.h.d, .string v.h.name, .int .i64 v.h.k, .slice v.A v.len v.cap]).all6
    refine bodyPost_ret (v := .agg #[.int .i64 v.h.kind, .int .i64 v.h.n, .int .i64 v.h.d, .string v.h.name, .int .i64 v.h.k, .slice v.A v.len v.cap]) (by simp [results, Tryz.results92, go_sem, z0, z1, z2, z3, z4, z5]) rfl ?_
    rw [u.out]
    exact ⟨v, rfl, hI (InA.weaken (InA.far bq.out (fun e => absurd e.1 (Nat.not_le_of_lt L)) _ _) (fun b hb => Nat.le_trans (Nat.le_of_lt L) hb.1)), hI (grown_new br.out (Nat.le_refl _) _ _), hI (bo.out.far bd c0 _ _)⟩
   | true =>
    cases c with
    | true =>
     have u := hI (show F = .ok D i by rw [o.out, if_neg (fun e => dh.out.2 (by first | rfl | trivial) e.1)]); clear o
     go_wp2_with fail
     refine (Y.out w4 I.out).mono ?_
     rintro e w5 ⟨rfl, q⟩; have E := E.out.b9 q; obtain ⟨a0, b0, a1, b1, a2, b2, a3, b3, a4, b4, a5, b5⟩ := (E4.out.belowW q.out).all6; obtain ⟨r0, h0, r1, h1, r2, h2, r3, h3, r4, h4, r5, h5⟩ := E.out.all6
     go_wp2_with fail
     rw [pst6 E.out]; obtain ⟨z0, _, z1, _, z2, _, z3, _, z4, _, z5, _⟩ := (E.out.put #[.int .i64 v.h.kind, .int .i64 v.h.n, .int .i64 v.h.d, .string v.h.name, .int .i64 v.h.k, .slice v.A v.len v.cap]).all6
     refine bodyPost_ret (v := .agg #[.int .i64 v.h.kind, .int .i64 v.h.n, .int .i64 v.h.d, .string v.h.name, .int .i64 v.h.k, .slice v.A v.len v.cap]) (by simp [results, Tryz.results92, go_sem, z0, z1, z2, z3, z4, z5]) rfl ?_
     rw [u.out]
     exact ⟨v, rfl, hI (InA.weaken (InA.far (bq.out.belowW q.out) (fun e => absurd e.1 (Nat.not_le_of_lt L)) _ _) (fun b hb => Nat.le_trans (Nat.le_of_lt L) hb.1)), hI (grown_new (grown_tr br.out (grown_of (some g) q.out)) (Nat.le_refl _) _ _), hI ((bo.out.belowW q.out).far bd c0 _ _)⟩
    | false =>
     have dj : H.kind = 3 := by
      apply Decidable.byContradiction
      intro h
      have := dh.out.1 h
      cases this
     have ea := bl (by omega); have o := hI (o.out.trans (if_pos ⟨dj, dg.out.2 (by first | rfl | trivial)⟩)); have Z := hI (dw.out f (i + 1) (by omega) (by omega) (by omega)); have dk := d0.out f (i + 1) (by omega); have dl := hI (dz.out f (i + 1)); obtain ⟨r2, dm⟩ := eX (nx f (i + 1)); rw [← dm] at o Z dk dl; clear dm dj bl
     go_wp2_with fail
     refine (Y.out w4 I.out).mono ?_
     rintro e w5 ⟨rfl, q⟩; have dn := bo.out.b9 q; have HP := hI (show Blk w5 g 140 #[.slice A len cap, .int .i64 (i : Nat), .int .i64 (m : Nat)] from dn.out.p); have e1 : IntKind.i64.wrap ((i : Int) + 1) = (i : Int) + 1 := (by rw [IntKind.wrap_i64]; omega); obtain ⟨p0, e4, p1, f1, p2, f2⟩ := HP.out.all3
     go_upto_region 6 with (fail)
     rw [HP.out.setCell_eq]; have ba := hI (putB_grown w5 g 140 #[.slice A len cap, .int .i64 ((i + 1 : Nat) : Int), .int .i64 (m : Nat)]); have b7 := hI (dn.out.put (i + 1) m (by omega)); have E6 := hI ((E4.out.belowW q.out).far (t' := 140) a9 #[.slice A len cap, .int .i64 ((i + 1 : Nat) : Int), .int .i64 (m : Nat)]); have F6 := hI ((E.out.belowW q.out).far (t' := 140) bd #[.slice A len cap, .int .i64 ((i + 1 : Nat) : Int), .int .i64 (m : Nat)]); have dq := hI ((bq.out.belowW q.out).mv (fun e => absurd e.1 (Nat.not_le_of_lt bf)) ba.out); have ca := hI (grown_tr (grown_tr br.out (grown_of (some g) q.out)) ba.out); have M6 := hI (map_kept (map_below M4.out q.out) ba.out hbg); obtain ⟨w6, cb⟩ := eX (putB w5 g 140 #[.slice A len cap, .int .i64 ((i + 1 : Nat) : Int), .int .i64 (m : Nat)]); have ds : putB w5 g 140 ((#[.slice A len cap, .int .i64 (i : Nat), .int .i64 (m : Nat)] : Array Value).setIfInBounds 1 (.int .i64 ((i : Int) + 1))) = w6 := (by rw [cb]; rfl); rw [← cb] at b7 E6 F6 dq ca M6; rw [ds]; clear cb ds p0 e4 p1 f1 p2 f2 HP ba ec
     cases r2 with
     | out => exact (dk rfl).elim
     | bad ln co er =>
      have u := hI (show F = .bad ln co er from o.out); clear o; have s := hI (below_dr w6); have z := E6.out.b9 s; have B := b7.out.b9 s; have M := hI (grown_tr ca.out (grown_of (some g) s.out))
      refine wp_region_held_drew (S := fun w' => w'.cell? ⟨g, 0, none⟩ = some (.slice A len cap)) (by kernel_rfl) ?_ (fun hHeld => ?_)
      case refine_1 => exact Blk.cell B.out.p 0
      obtain ⟨ab, ac⟩ := eX (w6.drew); rw [← ac] at s z B M hHeld ⊢; clear ac
      refine tkY 0 rfl (v := ?_) (.inl ⟨by rfl, ?_⟩) ?_
      case refine_2 => intro w9 hSw; (try dsimp only at hSw); go_simp; (try with_reducible rfl)
      try simp only [Act.put, setIfInBounds_toArray, set_cons_zero, set_cons_succ, getElem_toArray, getElem_cons_zero]
      refine tkY 2 rfl (v := ?_) (.inl ⟨by rfl, ?_⟩) ?_
      case refine_2 => intro w9 hSw; (try dsimp only at hSw); go_simp; (try with_reducible rfl)
      try simp only [Act.put, setIfInBounds_toArray, set_cons_zero, set_cons_succ, getElem_toArray, getElem_cons_zero, getElem_cons_succ]
      refine wpAnyH_ready (rs := [1, 3]) (by kernel_rfl) (by simp) ?_
      refine (AllReadyH.cons rfl (fun K hK => ?_) (AllReadyH.cons rfl (fun K hK => ?_) AllReadyH.nil))
      ·
       obtain ⟨ad, ae, af, ag, ah, ai, aj, ak, al, am, an, ao⟩ := z.out.all6
       go_simp
       clear ad ae af ag ah ai aj ak al am an ao; clear hHeld
       refine hK.out _ _ ?_ (fun hHeld => ?_)
       case refine_1 => exact Blk.cell B.out.p 0
       clear hK K
       try simp only [setIfInBounds_toArray, set_cons_zero, set_cons_succ]
       refine wpAnyH_ready (rs := [3]) (by kernel_rfl) (by simp) ?_
       refine (AllReadyH.cons rfl (fun K hK => ?_) AllReadyH.nil)
       go_simp
       (with_reducible refine (Z.out ab B.out).mono ?_)
       rintro e w33 ⟨rfl, j⟩; clear hHeld
       go_wp2_with fail
       rw [u.out]
       exact ⟨rfl, exr_bad (hI (grown_tr M.out j.out))⟩
      go_simp
      (with_reducible refine (Z.out ab B.out).mono ?_)
      rintro e w32 ⟨rfl, j⟩; clear hHeld
      go_wp2_with fail
      rw [u.out]
      exact ⟨rfl, exr_bad (hI (grown_tr M.out j.out))⟩
     | ok T1 k2 =>
      have e9 := (dl.out T1 k2 rfl); have dt := hI (show ch f (.mk ⟨a, 0, 0, ⟨#[]⟩, 0⟩ [D, T1]) k2 = F from o.out.symm); have du := hI (show k2 ≤ ts.length ∧ 8 * (ts.length - k2) + 2 ≤ f ∧ f ≤ f0 from ⟨e9.2, by omega, by omega⟩); clear o; have s := hI (below_dr w6); have cc := F6.out.b9 s; have z := E6.out.b9 s; have B := b7.out.b9 s; have M := hI (grown_tr ca.out (grown_of (some g) s.out)); have cd := dq.out.b9 s; have ce := hI (map_below M6.out s.out)
      refine wp_region_held_drew (S := fun w' => w'.cell? ⟨g, 0, none⟩ = some (.slice A len cap)) (by kernel_rfl) ?_ (fun hHeld => ?_)
      case refine_1 => exact Blk.cell B.out.p 0
      obtain ⟨ab, ac⟩ := eX (w6.drew); rw [← ac] at s cc z B M cd ce hHeld ⊢; clear ac
      refine tkY 0 rfl (v := ?_) (.inl ⟨by rfl, ?_⟩) ?_
      case refine_2 => intro w9 hSw; (try dsimp only at hSw); go_simp; (try with_reducible rfl)
      try simp only [Act.put, setIfInBounds_toArray, set_cons_zero, set_cons_succ, getElem_toArray, getElem_cons_zero]
      refine tkY 2 rfl (v := ?_) (.inl ⟨by rfl, ?_⟩) ?_
      case refine_2 => intro w9 hSw; (try dsimp only at hSw); go_simp; (try with_reducible rfl)
      try simp only [Act.put, setIfInBounds_toArray, set_cons_zero, set_cons_succ, getElem_toArray, getElem_cons_zero, getElem_cons_succ]
      refine wpAnyH_ready (rs := [1, 3]) (by kernel_rfl) (by simp) ?_
      refine (AllReadyH.cons rfl (fun K hK => ?_) (AllReadyH.cons rfl (fun K hK => ?_) AllReadyH.nil))
      ·
       obtain ⟨ad, ae, af, ag, ah, ai, aj, ak, al, am, an, ao⟩ := z.out.all6
       go_simp
       clear ad ae af ag ah ai aj ak al am an ao; clear hHeld
       refine hK.out _ _ ?_ (fun hHeld => ?_)
       case refine_1 => exact Blk.cell B.out.p 0
       clear hK K
       try simp only [setIfInBounds_toArray, set_cons_zero, set_cons_succ]
       refine wpAnyH_ready (rs := [3]) (by kernel_rfl) (by simp) ?_
       refine (AllReadyH.cons rfl (fun K hK => ?_) AllReadyH.nil)
       go_simp
       (with_reducible refine (Z.out ab B.out).mono ?_)
       rintro e w33 ⟨y, rfl, cf, j, cg⟩; have ci := hI (z.out.grown j.out da.out); have dv := hI (cg.out)
       go_wp2_with fail
       clear hHeld
       refine hK.out _ _ ?_ (fun hHeld => ?_)
       case refine_1 => exact Blk.cell dv.out.p 0
       clear hK K
       try simp only [setIfInBounds_toArray, set_cons_zero, set_cons_succ]
       refine wpAnyH_ready (rs := [4]) (by kernel_rfl) (by simp) ?_
       refine (AllReadyH.cons rfl (fun K hK => ?_) AllReadyH.nil)
       go_simp
       obtain ⟨ap, N, C, _⟩ := aX w33 29 #[.int .i64 v.h.kind, .int .i64 v.h.n, .int .i64 v.h.d, .string v.h.name, .int .i64 v.h.k, .slice v.A v.len v.cap, .int .i64 y.h.kind, .int .i64 y.h.n, .int .i64 y.h.d, .string y.h.name, .int .i64 y.h.k, .slice y.A y.len y.cap]; have O := ci.out.b9 C; have aq := dv.out.b9 C; have cj := hI (show InA (fun b => G.heap.size ≤ b ∧ b ≠ x) ap (.mk ⟨a, 0, 0, ⟨#[]⟩, 0⟩ [D, T1]) ⟨⟨a, 0, 0, ⟨#[]⟩, 0⟩, some ⟨w33.heap.size, 0, none⟩, 2, 2⟩ by rw [N]; exact ina_new2 w33 ⟨a, 0, 0, ⟨#[]⟩, 0⟩ df.out D T1 v y _ ⟨Nat.le_trans X (Nat.le_of_lt ci.out.lt), Nat.ne_of_gt ci.out.lt⟩ (cd.out.mv (fun e => absurd e.1 (Nat.not_le_of_lt bf)) j.out) (InA.weaken cf.out (fun b hb => ⟨Nat.le_trans X (Nat.le_trans (Nat.le_of_lt z.out.lt) hb), Nat.ne_of_gt (Nat.lt_of_lt_of_le z.out.lt hb)⟩))); rw [← N]; clear N; clear hHeld
       refine hK.out _ _ ?_ (fun hHeld => ?_)
       case refine_1 => exact Blk.cell aq.out.p 0
       clear hK K
       try simp only [setIfInBounds_toArray, set_cons_zero, set_cons_succ]
       refine tkY 5 rfl (v := ?_) (.inl ⟨by rfl, ?_⟩) ?_
       case refine_2 => intro w9 hSw; (try dsimp only at hSw); go_simp; (try with_reducible rfl)
       try simp only [Act.put, setIfInBounds_toArray, set_cons_zero, set_cons_succ, getElem_toArray, getElem_cons_zero, getElem_cons_succ]
       refine wpAnyH_ready (rs := [6]) (by kernel_rfl) (by simp) ?_
       refine (AllReadyH.cons rfl (fun K hK => ?_) AllReadyH.nil)
       obtain ⟨ck, cl, cm, cn, cp, cq, cr, cs, ct, cu, cv, cw⟩ := O.out.all6
       go_simp
       rw [pst6 O.out]; clear ck cl cm cn cp cq cr cs ct cu cv cw; have ar := hI (((cc.out.grown j.out a7.out).belowW C.out).far (t' := 29) c8 #[.int .i64 a, .int .i64 0, .int .i64 0, .string ⟨#[]⟩, .int .i64 0, .slice (some ⟨w33.heap.size, 0, none⟩) 2 2]); have P := hI (aq.out.far a9 c6 29 #[.int .i64 a, .int .i64 0, .int .i64 0, .string ⟨#[]⟩, .int .i64 0, .slice (some ⟨w33.heap.size, 0, none⟩) 2 2]); have au := hI (grown_new (grown_tr (grown_tr M.out j.out) (grown_of (some g) C.out)) c7 29 #[.int .i64 a, .int .i64 0, .int .i64 0, .string ⟨#[]⟩, .int .i64 0, .slice (some ⟨w33.heap.size, 0, none⟩) 2 2]); have av := hI (map_put (map_below (map_kept ce.out j.out hbg) C.out) c9 29 #[.int .i64 a, .int .i64 0, .int .i64 0, .string ⟨#[]⟩, .int .i64 0, .slice (some ⟨w33.heap.size, 0, none⟩) 2 2]); have aw := hI (cj.out.far (fun e => e.2 rfl) 29 #[.int .i64 a, .int .i64 0, .int .i64 0, .string ⟨#[]⟩, .int .i64 0, .slice (some ⟨w33.heap.size, 0, none⟩) 2 2]); have ax := hI (O.out.put #[.int .i64 a, .int .i64 0, .int .i64 0, .string ⟨#[]⟩, .int .i64 0, .slice (some ⟨w33.heap.size, 0, none⟩) 2 2]); obtain ⟨fa, ay⟩ := eX (putB ap (x) 29 #[.int .i64 a, .int .i64 0, .int .i64 0, .string ⟨#[]⟩, .int .i64 0, .slice (some ⟨w33.heap.size, 0, none⟩) 2 2]); rw [← ay] at ar P au av aw ax ⊢; clear ay hHeld
       refine hK.out _ _ ?_ (fun hHeld => ?_)
       case refine_1 => exact Blk.cell P.out.p 0
       clear hK K
       try simp only [setIfInBounds_toArray, set_cons_zero, set_cons_succ]
       refine wpAnyH_done (by kernel_rfl) ?_ _
       go_wp2_with fail
       go_roundg f
       case measure => exact Nat.lt_succ_self f
       case rel => exact ⟨_, ⟨⟨a, 0, 0, ⟨#[]⟩, 0⟩, some ⟨w33.heap.size, 0, none⟩, 2, 2⟩, k2, dt, du, aw, ax, ar, P, au, av⟩
      go_simp
      (with_reducible refine (Z.out ab B.out).mono ?_)
      rintro e w32 ⟨y, rfl, cf, j, cg⟩; have bb := hI (z.out.grown j.out da.out); have cx := hI (cg.out)
      go_wp2_with fail
      clear hHeld
      refine hK.out _ _ ?_ (fun hHeld => ?_)
      case refine_1 => exact Blk.cell cx.out.p 0
      clear hK K
      try simp only [setIfInBounds_toArray, set_cons_zero, set_cons_succ]
      refine wpAnyH_ready (rs := [1]) (by kernel_rfl) (by simp) ?_
      refine (AllReadyH.cons rfl (fun K hK => ?_) AllReadyH.nil)
      obtain ⟨ad, ae, af, ag, ah, ai, aj, ak, al, am, an, ao⟩ := bb.out.all6
      go_simp
      clear ad ae af ag ah ai aj ak al am an ao; clear hHeld
      refine hK.out _ _ ?_ (fun hHeld => ?_)
      case refine_1 => exact Blk.cell cx.out.p 0
      clear hK K
      try simp only [setIfInBounds_toArray, set_cons_zero, set_cons_succ]
      refine wpAnyH_ready (rs := [4]) (by kernel_rfl) (by simp) ?_
      refine (AllReadyH.cons rfl (fun K hK => ?_) AllReadyH.nil)
      go_simp
      obtain ⟨ap, N, C, _⟩ := aX w32 29 #[.int .i64 v.h.kind, .int .i64 v.h.n, .int .i64 v.h.d, .string v.h.name, .int .i64 v.h.k, .slice v.A v.len v.cap, .int .i64 y.h.kind, .int .i64 y.h.n, .int .i64 y.h.d, .string y.h.name, .int .i64 y.h.k, .slice y.A y.len y.cap]; have O := bb.out.b9 C; have aq := cx.out.b9 C; have cj := hI (show InA (fun b => G.heap.size ≤ b ∧ b ≠ x) ap (.mk ⟨a, 0, 0, ⟨#[]⟩, 0⟩ [D, T1]) ⟨⟨a, 0, 0, ⟨#[]⟩, 0⟩, some ⟨w32.heap.size, 0, none⟩, 2, 2⟩ by rw [N]; exact ina_new2 w32 ⟨a, 0, 0, ⟨#[]⟩, 0⟩ df.out D T1 v y _ ⟨Nat.le_trans X (Nat.le_of_lt bb.out.lt), Nat.ne_of_gt bb.out.lt⟩ (cd.out.mv (fun e => absurd e.1 (Nat.not_le_of_lt bf)) j.out) (InA.weaken cf.out (fun b hb => ⟨Nat.le_trans X (Nat.le_trans (Nat.le_of_lt z.out.lt) hb), Nat.ne_of_gt (Nat.lt_of_lt_of_le z.out.lt hb)⟩))); rw [← N]; clear N; clear hHeld
      refine hK.out _ _ ?_ (fun hHeld => ?_)
      case refine_1 => exact Blk.cell aq.out.p 0
      clear hK K
      try simp only [setIfInBounds_toArray, set_cons_zero, set_cons_succ]
      refine tkY 5 rfl (v := ?_) (.inl ⟨by rfl, ?_⟩) ?_
      case refine_2 => intro w9 hSw; (try dsimp only at hSw); go_simp; (try with_reducible rfl)
      try simp only [Act.put, setIfInBounds_toArray, set_cons_zero, set_cons_succ, getElem_toArray, getElem_cons_zero, getElem_cons_succ]
      refine wpAnyH_ready (rs := [6]) (by kernel_rfl) (by simp) ?_
      refine (AllReadyH.cons rfl (fun K hK => ?_) AllReadyH.nil)
      obtain ⟨ck, cl, cm, cn, cp, cq, cr, cs, ct, cu, cv, cw⟩ := O.out.all6
      go_simp
      rw [pst6 O.out]; clear ck cl cm cn cp cq cr cs ct cu cv cw; have ar := hI (((cc.out.grown j.out a7.out).belowW C.out).far (t' := 29) c8 #[.int .i64 a, .int .i64 0, .int .i64 0, .string ⟨#[]⟩, .int .i64 0, .slice (some ⟨w32.heap.size, 0, none⟩) 2 2]); have P := hI (aq.out.far a9 c6 29 #[.int .i64 a, .int .i64 0, .int .i64 0, .string ⟨#[]⟩, .int .i64 0, .slice (some ⟨w32.heap.size, 0, none⟩) 2 2]); have au := hI (grown_new (grown_tr (grown_tr M.out j.out) (grown_of (some g) C.out)) c7 29 #[.int .i64 a, .int .i64 0, .int .i64 0, .string ⟨#[]⟩, .int .i64 0, .slice (some ⟨w32.heap.size, 0, none⟩) 2 2]); have av := hI (map_put (map_below (map_kept ce.out j.out hbg) C.out) c9 29 #[.int .i64 a, .int .i64 0, .int .i64 0, .string ⟨#[]⟩, .int .i64 0, .slice (some ⟨w32.heap.size, 0, none⟩) 2 2]); have aw := hI (cj.out.far (fun e => e.2 rfl) 29 #[.int .i64 a, .int .i64 0, .int .i64 0, .string ⟨#[]⟩, .int .i64 0, .slice (some ⟨w32.heap.size, 0, none⟩) 2 2]); have ax := hI (O.out.put #[.int .i64 a, .int .i64 0, .int .i64 0, .string ⟨#[]⟩, .int .i64 0, .slice (some ⟨w32.heap.size, 0, none⟩) 2 2]); obtain ⟨fa, ay⟩ := eX (putB ap (x) 29 #[.int .i64 a, .int .i64 0, .int .i64 0, .string ⟨#[]⟩, .int .i64 0, .slice (some ⟨w32.heap.size, 0, none⟩) 2 2]); rw [← ay] at ar P au av aw ax ⊢; clear ay hHeld
      refine hK.out _ _ ?_ (fun hHeld => ?_)
      case refine_1 => exact Blk.cell P.out.p 0
      clear hK K
      try simp only [setIfInBounds_toArray, set_cons_zero, set_cons_succ]
      refine wpAnyH_done (by kernel_rfl) ?_ _
      go_wp2_with fail
      go_roundg f
      case measure => exact Nat.lt_succ_self f
      case rel => exact ⟨_, ⟨⟨a, 0, 0, ⟨#[]⟩, 0⟩, some ⟨w32.heap.size, 0, none⟩, 2, 2⟩, k2, dt, du, aw, ax, ar, P, au, av⟩

theorem pChainT {w0 w : World} {g : Nat} {A : Option Addr} {len cap : Nat} {ts : List Tok} {k m : Nat} (h : Env w0 g A len cap ts k m w) (hk : k ≤ 100001) (bm : Nat) (es : Array MapEntry) (opk : List UInt8 → Int) (hop : ∀ l, 0 ≤ opk l ∧ opk l ≤ 13)
 (LK : ∀ (w' : World) (l : List UInt8), w'.heap[bm]? = some (.map es 2) → (Instr.lookup 142 (.map (some bm)) (.string ⟨l.toArray⟩) true).run Tryz.prog w' = .ok (.tuple #[.int .i64 (opk l), .bool (opk l != 0)]) w')
 (hbm : w.heap[bm]? = some (.map es 2)) (hbg : bm ≠ g)
 (ch : Nat → TE → Nat → PR TE) (nx : Nat → Nat → PR TE) (hch : ∀ f e k, ch (f + 1) e k = stepR ts opk (ch f) e k (nx f (k + 1)))
 (hnk : ∀ f k b k2, nx f k = .ok b k2 → k < k2 ∧ k2 ≤ ts.length) (hno : ∀ f k, 8 * (ts.length - k) + 7 ≤ f → nx f k ≠ .out)
 (f0 : Nat) (r : PR TE) (hr : r ≠ .out) (hrk : ∀ T k1, r = .ok T k1 → k1 ≤ ts.length ∧ 8 * (ts.length - k1) + 2 ≤ f0)
 (K1 : ∀ w', Env w0 g A len cap ts k m w' → Calls Tryz.prog 125 #[.pointer (some ⟨g, 0, none⟩)] w' (ExR w0 g A len cap ts m r w'))
 (K2 : ∀ f k', f < f0 → 8 * (ts.length - k') + 7 ≤ f → k' ≤ 100001 → ∀ w', Env w0 g A len cap ts k' m w' → Calls Tryz.prog 126 #[.pointer (some ⟨g, 0, none⟩)] w' (ExR w0 g A len cap ts m (nx f k') w')) :
 Calls Tryz.prog 92 #[.pointer (some ⟨g, 0, none⟩), .func (.func 125) #[.pointer (some ⟨g, 0, none⟩)] #[], .func (.func 126) #[.pointer (some ⟨g, 0, none⟩)] #[], .map (some bm)] w (ExR w0 g A len cap ts m (chainR (ch f0) r) w) := by
 have dw := hI K2
 have dx := hI LK
 have dy := hI hch
 have dz := hI hnk
 have d0 := hI hno
 have d3 := hI (show ts.length ≤ 100000 by rw [h.t.hl]; exact h.t.hs)
 obtain ⟨F, bc⟩ := eX (chainR (ch f0) r)
 have az := hI bc
 rw [← bc]
 have cy := hI K1
 clear K1 K2 LK hch hnk hno bc
 have fb : bm < w.heap.size := (Array.getElem?_eq_some_iff.1 hbm).1
 go_enter Tryz.func92, Tryz.ntmps92
 go_upto_region 1 with (fail)
 obtain ⟨G, cz, O1, V⟩ := aX w 29 #[.int .i64 0, .int .i64 0, .int .i64 0, .string ⟨#[]⟩, .int .i64 0, .slice none 0 0]
 rw [← cz]
 clear cz
 have a7 := hI (show some w.heap.size ≠ some g from fun e => by have := h.gl; injection e with e; omega)
 have bd : w.heap.size ≠ g := fun e => a7.out (by rw [e])
 have c0 : w0.heap.size ≤ w.heap.size := h.b.size
 have fc : g < w.heap.size := h.gl
 have J := hI (h.belowW O1.out)
 have W := hI (grown_of (some g) O1.out)
 have L : w.heap.size < G.heap.size := V.out.lt
 clear h
 have bf : g < G.heap.size := J.out.gl
 have M1 := hI (map_below hbm O1.out)
 clear hbm
 have KC := hI (cy.out G J.out)
 cases r with
 | out => exact (hr rfl).elim
 | bad ln co er =>
  have u := hI (show F = .bad ln co er from az.out); clear az
  go_wp2_with fail
  refine KC.out.mono ?_
  rintro e w2 ⟨rfl, R⟩
  go_wp2_with fail
  rw [u.out]
  exact ⟨rfl, exr_bad (hI (grown_tr W.out R.out))⟩
 | ok T k1 =>
  have u := hI (show ch f0 T k1 = F from az.out.symm); have a8 := hI (show k1 ≤ ts.length ∧ 8 * (ts.length - k1) + 2 ≤ f0 ∧ f0 ≤ f0 from ⟨(hrk T k1 rfl).1, (hrk T k1 rfl).2, Nat.le_refl _⟩); clear az hrk
  go_wp2_with fail
  refine KC.out.mono ?_
  rintro e w2 ⟨v, rfl, c2, R, bh⟩; have bi := hI (V.out.grown R.out a7.out); have c3 := R
  go_upto_region 2 with (fail)
  obtain ⟨w3, c4, U, E3⟩ := aX w2 29 #[.int .i64 v.h.kind, .int .i64 v.h.n, .int .i64 v.h.d, .string v.h.name, .int .i64 v.h.k, .slice v.A v.len v.cap]; rw [← c4]; clear c4; have bk := hI (InA.belowW (InA.weaken (InA.lt c2.out) (Q := fun b => G.heap.size ≤ b ∧ b ≠ w2.heap.size) (fun b hb => ⟨hb.1, Nat.ne_of_lt hb.2⟩)) U.out); have d4 : w.heap.size < w2.heap.size := bi.out.lt; have X : G.heap.size ≤ w2.heap.size := c3.out.size; have d5 : g < w2.heap.size := bh.out.gl; obtain ⟨x, c5⟩ := eX (w2.heap.size); rw [← c5] at X E3 d4 d5 bk ⊢; clear c5; have a9 : x ≠ g := (by omega); have c6 : w0.heap.size ≤ x := (by omega); have c7 : w.heap.size ≤ x := (by omega); have c8 : w.heap.size ≠ x := (by omega); have c9 : bm ≠ x := (by omega); have da := hI (show some x ≠ some g from fun e => a9 (Option.some.inj e)); have db := L; clear L; have L := db; clear db
  go_loopg [10, 11] f0 (fun f d1 d2 wr => ChRel w0 w g A len cap ts m ch F G.heap.size x bm es f0 f wr)
  case atStart => exact ⟨T, v, k1, u, a8, bk, E3, (bi.out.b9 U), (bh.out.b9 U), (hI (grown_tr (grown_tr W.out R.out) (grown_of (some g) U.out))), (hI (map_below (map_kept M1.out R.out hbg) U.out))⟩
  clear u a8 bk E3 U c2 bh bi KC cy W J V O1 M1 c3; obtain ⟨D, v, i, d6, a8, d7, E1, V, J, W, d9⟩ := hrel; obtain ⟨ea, fe, ff⟩ := a8.out; have fg := d3.out
  cases gk with
  | zero => omega
  | succ f =>
   have o := hI (show F = stepR ts opk (ch f) D i (nx f (i + 1)) from d6.out.symm.trans (dy.out f D i)); have Y := hI (fun (w' : World) (hb : Below wr.heap.size wr w') => Env.tok (show Env w0 g A len cap ts i m w' from J.out.belowW hb) 0 (by omega)); simp only [Nat.add_zero] at Y; have bl := @tk_lt ts i; have eb := J.out.t.tk i
   unfold stepR at o
   obtain ⟨H, dc⟩ := eX (tk ts i); rw [← dc] at Y o bl eb; have dd := hop H.text; have bn := hI (fun (w' : World) (hh : w'.heap[bm]? = some (.map es 2)) => dx.out w' H.text hh); obtain ⟨a, de⟩ := eX (opk H.text); rw [← de] at bn o dd; have df := hI (hd_op dd)
   obtain ⟨b, hb⟩ : ∃ b, (a != 0) = b := ⟨_, rfl⟩
   have dg := hI (show (a ≠ 0) ↔ b = true by rw [← hb, bne_iff_ne]); rw [hb] at bn
   obtain ⟨c, hc⟩ : ∃ b, ((H.kind : Int) != 3) = b := ⟨_, rfl⟩
   have dh := hI (show (H.kind ≠ 3) ↔ c = true by rw [← hc, bne_iff_ne]; omega); clear dc de hb; have fh := tokF0 H; have fi := tokF1 H
   go_wp2_with fail
   refine (Y.out wr (Below.refl _ _)).mono ?_
   rintro e w4 ⟨rfl, I⟩; have M4 := hI (map_below d9.out I.out); have ec := bn.out w4 M4.out; have bo := hI (show Env w0 g A len cap ts i m w4 from J.out.belowW I.out); have E4 := E1.out.b9 I; have E := V.out.b9 I; have bq := d7.out.b9 I; have br := hI (grown_tr W.out (grown_of (some g) I.out))
   cases b with
   | false =>
    have u := hI (show F = .ok D i by rw [o.out, if_neg (fun e => by have := dg.out.1 e.2; cases this)]); clear o; obtain ⟨a0, b0, a1, b1, a2, b2, a3, b3, a4, b4, a5, b5⟩ := E4.out.all6; obtain ⟨r0, h0, r1, h1, r2, h2, r3, h3, r4, h4, r5, h5⟩ := E.out.all6
    go_wp2_with fail
    rw [pst6 E.out]; obtain ⟨z0, _, z1, _, z2, _, z3, _, z4, _, z5, _⟩ := (E.out.put #[.int .i64 v.h.kind, .int .i64 v.h.n, .int .i64 v.h.d, .string v.h.name, .int .i64 v.h.k, .slice v.A v.len v.cap]).all6
    refine bodyPost_ret (v := .agg #[.int .i64 v.h.kind, .int .i64 v.h.n, .int .i64 v.h.d, .string v.h.name, .int .i64 v.h.k, .slice v.A v.len v.cap]) (by simp [results, Tryz.results92, go_sem, z0, z1, z2, z3, z4, z5]) rfl ?_
    rw [u.out]
    exact ⟨v, rfl, hI (InA.weaken (InA.far bq.out (fun e => absurd e.1 (Nat.not_le_of_lt L)) _ _) (fun b hb => Nat.le_trans (Nat.le_of_lt L) hb.1)), hI (grown_new br.out (Nat.le_refl _) _ _), hI (bo.out.far bd c0 _ _)⟩
   | true =>
    cases c with
    | true =>
     have u := hI (show F = .ok D i by rw [o.out, if_neg (fun e => dh.out.2 (by first | rfl | trivial) e.1)]); clear o
     go_wp2_with fail
     refine (Y.out w4 I.out).mono ?_
     rintro e w5 ⟨rfl, q⟩; have E := E.out.b9 q; obtain ⟨a0, b0, a1, b1, a2, b2, a3, b3, a4, b4, a5, b5⟩ := (E4.out.belowW q.out).all6; obtain ⟨r0, h0, r1, h1, r2, h2, r3, h3, r4, h4, r5, h5⟩ := E.out.all6
     go_wp2_with fail
     rw [pst6 E.out]; obtain ⟨z0, _, z1, _, z2, _, z3, _, z4, _, z5, _⟩ := (E.out.put #[.int .i64 v.h.kind, .int .i64 v.h.n, .int .i64 v.h.d, .string v.h.name, .int .i64 v.h.k, .slice v.A v.len v.cap]).all6
     refine bodyPost_ret (v := .agg #[.int .i64 v.h.kind, .int .i64 v.h.n, .int .i64 v.h.d, .string v.h.name, .int .i64 v.h.k, .slice v.A v.len v.cap]) (by simp [results, Tryz.results92, go_sem, z0, z1, z2, z3, z4, z5]) rfl ?_
     rw [u.out]
     exact ⟨v, rfl, hI (InA.weaken (InA.far (bq.out.belowW q.out) (fun e => absurd e.1 (Nat.not_le_of_lt L)) _ _) (fun b hb => Nat.le_trans (Nat.le_of_lt L) hb.1)), hI (grown_new (grown_tr br.out (grown_of (some g) q.out)) (Nat.le_refl _) _ _), hI ((bo.out.belowW q.out).far bd c0 _ _)⟩
    | false =>
     have dj : H.kind = 3 := by
      apply Decidable.byContradiction
      intro h
      have := dh.out.1 h
      cases this
     have ea := bl (by omega); have o := hI (o.out.trans (if_pos ⟨dj, dg.out.2 (by first | rfl | trivial)⟩)); have Z := hI (dw.out f (i + 1) (by omega) (by omega) (by omega)); have dk := d0.out f (i + 1) (by omega); have dl := hI (dz.out f (i + 1)); obtain ⟨r2, dm⟩ := eX (nx f (i + 1)); rw [← dm] at o Z dk dl; clear dm dj bl
     go_wp2_with fail
     refine (Y.out w4 I.out).mono ?_
     rintro e w5 ⟨rfl, q⟩; have dn := bo.out.b9 q; have HP := hI (show Blk w5 g 140 #[.slice A len cap, .int .i64 (i : Nat), .int .i64 (m : Nat)] from dn.out.p); have e1 : IntKind.i64.wrap ((i : Int) + 1) = (i : Int) + 1 := (by rw [IntKind.wrap_i64]; omega); obtain ⟨p0, e4, p1, f1, p2, f2⟩ := HP.out.all3
     go_upto_region 6 with (fail)
     rw [HP.out.setCell_eq]; have ba := hI (putB_grown w5 g 140 #[.slice A len cap, .int .i64 ((i + 1 : Nat) : Int), .int .i64 (m : Nat)]); have b7 := hI (dn.out.put (i + 1) m (by omega)); have E6 := hI ((E4.out.belowW q.out).far (t' := 140) a9 #[.slice A len cap, .int .i64 ((i + 1 : Nat) : Int), .int .i64 (m : Nat)]); have F6 := hI ((E.out.belowW q.out).far (t' := 140) bd #[.slice A len cap, .int .i64 ((i + 1 : Nat) : Int), .int .i64 (m : Nat)]); have dq := hI ((bq.out.belowW q.out).mv (fun e => absurd e.1 (Nat.not_le_of_lt bf)) ba.out); have ca := hI (grown_tr (grown_tr br.out (grown_of (some g) q.out)) ba.out); have M6 := hI (map_kept (map_below M4.out q.out) ba.out hbg); obtain ⟨w6, cb⟩ := eX (putB w5 g 140 #[.slice A len cap, .int .i64 ((i + 1 : Nat) : Int), .int .i64 (m : Nat)]); have ds : putB w5 g 140 ((#[.slice A len cap, .int .i64 (i : Nat), .int .i64 (m : Nat)] : Array Value).setIfInBounds 1 (.int .i64 ((i : Int) + 1))) = w6 := (by rw [cb]; rfl); rw [← cb] at b7 E6 F6 dq ca M6; rw [ds]; clear cb ds p0 e4 p1 f1 p2 f2 HP ba ec
     cases r2 with
     | out => exact (dk rfl).elim
     | bad ln co er =>
      have u := hI (show F = .bad ln co er from o.out); clear o; have s := hI (below_dr w6); have z := E6.out.b9 s; have B := b7.out.b9 s; have M := hI (grown_tr ca.out (grown_of (some g) s.out))
      refine wp_region_held_drew (S := fun w' => w'.cell? ⟨g, 0, none⟩ = some (.slice A len cap)) (by kernel_rfl) ?_ (fun hHeld => ?_)
      case refine_1 => exact Blk.cell B.out.p 0
      obtain ⟨ab, ac⟩ := eX (w6.drew); rw [← ac] at s z B M hHeld ⊢; clear ac
      refine tkY 0 rfl (v := ?_) (.inl ⟨by rfl, ?_⟩) ?_
      case refine_2 => intro w9 hSw; (try dsimp only at hSw); go_simp; (try with_reducible rfl)
      try simp only [Act.put, setIfInBounds_toArray, set_cons_zero, set_cons_succ, getElem_toArray, getElem_cons_zero]
      refine tkY 2 rfl (v := ?_) (.inl ⟨by rfl, ?_⟩) ?_
      case refine_2 => intro w9 hSw; (try dsimp only at hSw); go_simp; (try with_reducible rfl)
      try simp only [Act.put, setIfInBounds_toArray, set_cons_zero, set_cons_succ, getElem_toArray, getElem_cons_zero, getElem_cons_succ]
      refine wpAnyH_ready (rs := [1, 3]) (by kernel_rfl) (by simp) ?_
      refine (AllReadyH.cons rfl (fun K hK => ?_) (AllReadyH.cons rfl (fun K hK => ?_) AllReadyH.nil))
      ·
       obtain ⟨ad, ae, af, ag, ah, ai, aj, ak, al, am, an, ao⟩ := z.out.all6
       go_simp
       clear ad ae af ag ah ai aj ak al am an ao; clear hHeld
       refine hK.out _ _ ?_ (fun hHeld => ?_)
       case refine_1 => exact Blk.cell B.out.p 0
       clear hK K
       try simp only [setIfInBounds_toArray, set_cons_zero, set_cons_succ]
       refine wpAnyH_ready (rs := [3]) (by kernel_rfl) (by simp) ?_
       refine (AllReadyH.cons rfl (fun K hK => ?_) AllReadyH.nil)
       go_simp
       (with_reducible refine (Z.out ab B.out).mono ?_)
       rintro e w33 ⟨rfl, j⟩; clear hHeld
       go_wp2_with fail
       rw [u.out]
       exact ⟨rfl, exr_bad (hI (grown_tr M.out j.out))⟩
      go_simp
      (with_reducible refine (Z.out ab B.out).mono ?_)
      rintro e w32 ⟨rfl, j⟩; clear hHeld
      go_wp2_with fail
      rw [u.out]
      exact ⟨rfl, exr_bad (hI (grown_tr M.out j.out))⟩
     | ok T1 k2 =>
      have e9 := (dl.out T1 k2 rfl); have dt := hI (show ch f (.mk ⟨a, 0, 0, ⟨#[]⟩, 0⟩ [D, T1]) k2 = F from o.out.symm); have du := hI (show k2 ≤ ts.length ∧ 8 * (ts.length - k2) + 2 ≤ f ∧ f ≤ f0 from ⟨e9.2, by omega, by omega⟩); clear o; have s := hI (below_dr w6); have cc := F6.out.b9 s; have z := E6.out.b9 s; have B := b7.out.b9 s; have M := hI (grown_tr ca.out (grown_of (some g) s.out)); have cd := dq.out.b9 s; have ce := hI (map_below M6.out s.out)
      refine wp_region_held_drew (S := fun w' => w'.cell? ⟨g, 0, none⟩ = some (.slice A len cap)) (by kernel_rfl) ?_ (fun hHeld => ?_)
      case refine_1 => exact Blk.cell B.out.p 0
      obtain ⟨ab, ac⟩ := eX (w6.drew); rw [← ac] at s cc z B M cd ce hHeld ⊢; clear ac
      refine tkY 0 rfl (v := ?_) (.inl ⟨by rfl, ?_⟩) ?_
      case refine_2 => intro w9 hSw; (try dsimp only at hSw); go_simp; (try with_reducible rfl)
      try simp only [Act.put, setIfInBounds_toArray, set_cons_zero, set_cons_succ, getElem_toArray, getElem_cons_zero]
      refine tkY 2 rfl (v := ?_) (.inl ⟨by rfl, ?_⟩) ?_
      case refine_2 => intro w9 hSw; (try dsimp only at hSw); go_simp; (try with_reducible rfl)
      try simp only [Act.put, setIfInBounds_toArray, set_cons_zero, set_cons_succ, getElem_toArray, getElem_cons_zero, getElem_cons_succ]
      refine wpAnyH_ready (rs := [1, 3]) (by kernel_rfl) (by simp) ?_
      refine (AllReadyH.cons rfl (fun K hK => ?_) (AllReadyH.cons rfl (fun K hK => ?_) AllReadyH.nil))
      ·
       obtain ⟨ad, ae, af, ag, ah, ai, aj, ak, al, am, an, ao⟩ := z.out.all6
       go_simp
       clear ad ae af ag ah ai aj ak al am an ao; clear hHeld
       refine hK.out _ _ ?_ (fun hHeld => ?_)
       case refine_1 => exact Blk.cell B.out.p 0
       clear hK K
       try simp only [setIfInBounds_toArray, set_cons_zero, set_cons_succ]
       refine wpAnyH_ready (rs := [3]) (by kernel_rfl) (by simp) ?_
       refine (AllReadyH.cons rfl (fun K hK => ?_) AllReadyH.nil)
       go_simp
       (with_reducible refine (Z.out ab B.out).mono ?_)
       rintro e w33 ⟨y, rfl, cf, j, cg⟩; have ci := hI (z.out.grown j.out da.out); have dv := hI (cg.out)
       go_wp2_with fail
       clear hHeld
       refine hK.out _ _ ?_ (fun hHeld => ?_)
       case refine_1 => exact Blk.cell dv.out.p 0
       clear hK K
       try simp only [setIfInBounds_toArray, set_cons_zero, set_cons_succ]
       refine wpAnyH_ready (rs := [4]) (by kernel_rfl) (by simp) ?_
       refine (AllReadyH.cons rfl (fun K hK => ?_) AllReadyH.nil)
       go_simp
       obtain ⟨ap, N, C, _⟩ := aX w33 29 #[.int .i64 v.h.kind, .int .i64 v.h.n, .int .i64 v.h.d, .string v.h.name, .int .i64 v.h.k, .slice v.A v.len v.cap, .int .i64 y.h.kind, .int .i64 y.h.n, .int .i64 y.h.d, .string y.h.name, .int .i64 y.h.k, .slice y.A y.len y.cap]; have O := ci.out.b9 C; have aq := dv.out.b9 C; have cj := hI (show InA (fun b => G.heap.size ≤ b ∧ b ≠ x) ap (.mk ⟨a, 0, 0, ⟨#[]⟩, 0⟩ [D, T1]) ⟨⟨a, 0, 0, ⟨#[]⟩, 0⟩, some ⟨w33.heap.size, 0, none⟩, 2, 2⟩ by rw [N]; exact ina_new2 w33 ⟨a, 0, 0, ⟨#[]⟩, 0⟩ df.out D T1 v y _ ⟨Nat.le_trans X (Nat.le_of_lt ci.out.lt), Nat.ne_of_gt ci.out.lt⟩ (cd.out.mv (fun e => absurd e.1 (Nat.not_le_of_lt bf)) j.out) (InA.weaken cf.out (fun b hb => ⟨Nat.le_trans X (Nat.le_trans (Nat.le_of_lt z.out.lt) hb), Nat.ne_of_gt (Nat.lt_of_lt_of_le z.out.lt hb)⟩))); rw [← N]; clear N; clear hHeld
       refine hK.out _ _ ?_ (fun hHeld => ?_)
       case refine_1 => exact Blk.cell aq.out.p 0
       clear hK K
       try simp only [setIfInBounds_toArray, set_cons_zero, set_cons_succ]
       refine tkY 5 rfl (v := ?_) (.inl ⟨by rfl, ?_⟩) ?_
       case refine_2 => intro w9 hSw; (try dsimp only at hSw); go_simp; (try with_reducible rfl)
       try simp only [Act.put, setIfInBounds_toArray, set_cons_zero, set_cons_succ, getElem_toArray, getElem_cons_zero, getElem_cons_succ]
       refine wpAnyH_ready (rs := [6]) (by kernel_rfl) (by simp) ?_
       refine (AllReadyH.cons rfl (fun K hK => ?_) AllReadyH.nil)
       obtain ⟨ck, cl, cm, cn, cp, cq, cr, cs, ct, cu, cv, cw⟩ := O.out.all6
       go_simp
       rw [pst6 O.out]; clear ck cl cm cn cp cq cr cs ct cu cv cw; have ar := hI (((cc.out.grown j.out a7.out).belowW C.out).far (t' := 29) c8 #[.int .i64 a, .int .i64 0, .int .i64 0, .string ⟨#[]⟩, .int .i64 0, .slice (some ⟨w33.heap.size, 0, none⟩) 2 2]); have P := hI (aq.out.far a9 c6 29 #[.int .i64 a, .int .i64 0, .int .i64 0, .string ⟨#[]⟩, .int .i64 0, .slice (some ⟨w33.heap.size, 0, none⟩) 2 2]); have au := hI (grown_new (grown_tr (grown_tr M.out j.out) (grown_of (some g) C.out)) c7 29 #[.int .i64 a, .int .i64 0, .int .i64 0, .string ⟨#[]⟩, .int .i64 0, .slice (some ⟨w33.heap.size, 0, none⟩) 2 2]); have av := hI (map_put (map_below (map_kept ce.out j.out hbg) C.out) c9 29 #[.int .i64 a, .int .i64 0, .int .i64 0, .string ⟨#[]⟩, .int .i64 0, .slice (some ⟨w33.heap.size, 0, none⟩) 2 2]); have aw := hI (cj.out.far (fun e => e.2 rfl) 29 #[.int .i64 a, .int .i64 0, .int .i64 0, .string ⟨#[]⟩, .int .i64 0, .slice (some ⟨w33.heap.size, 0, none⟩) 2 2]); have ax := hI (O.out.put #[.int .i64 a, .int .i64 0, .int .i64 0, .string ⟨#[]⟩, .int .i64 0, .slice (some ⟨w33.heap.size, 0, none⟩) 2 2]); obtain ⟨fa, ay⟩ := eX (putB ap (x) 29 #[.int .i64 a, .int .i64 0, .int .i64 0, .string ⟨#[]⟩, .int .i64 0, .slice (some ⟨w33.heap.size, 0, none⟩) 2 2]); rw [← ay] at ar P au av aw ax ⊢; clear ay hHeld
       refine hK.out _ _ ?_ (fun hHeld => ?_)
       case refine_1 => exact Blk.cell P.out.p 0
       clear hK K
       try simp only [setIfInBounds_toArray, set_cons_zero, set_cons_succ]
       refine wpAnyH_done (by kernel_rfl) ?_ _
       go_wp2_with fail
       go_roundg f
       case measure => exact Nat.lt_succ_self f
       case rel => exact ⟨_, ⟨⟨a, 0, 0, ⟨#[]⟩, 0⟩, some ⟨w33.heap.size, 0, none⟩, 2, 2⟩, k2, dt, du, aw, ax, ar, P, au, av⟩
      go_simp
      (with_reducible refine (Z.out ab B.out).mono ?_)
      rintro e w32 ⟨y, rfl, cf, j, cg⟩; have bb := hI (z.out.grown j.out da.out); have cx := hI (cg.out)
      go_wp2_with fail
      clear hHeld
      refine hK.out _ _ ?_ (fun hHeld => ?_)
      case refine_1 => exact Blk.cell cx.out.p 0
      clear hK K
      try simp only [setIfInBounds_toArray, set_cons_zero, set_cons_succ]
      refine wpAnyH_ready (rs := [1]) (by kernel_rfl) (by simp) ?_
      refine (AllReadyH.cons rfl (fun K hK => ?_) AllReadyH.nil)
      obtain ⟨ad, ae, af, ag, ah, ai, aj, ak, al, am, an, ao⟩ := bb.out.all6
      go_simp
      clear ad ae af ag ah ai aj ak al am an ao; clear hHeld
      refine hK.out _ _ ?_ (fun hHeld => ?_)
      case refine_1 => exact Blk.cell cx.out.p 0
      clear hK K
      try simp only [setIfInBounds_toArray, set_cons_zero, set_cons_succ]
      refine wpAnyH_ready (rs := [4]) (by kernel_rfl) (by simp) ?_
      refine (AllReadyH.cons rfl (fun K hK => ?_) AllReadyH.nil)
      go_simp
      obtain ⟨ap, N, C, _⟩ := aX w32 29 #[.int .i64 v.h.kind, .int .i64 v.h.n, .int .i64 v.h.d, .string v.h.name, .int .i64 v.h.k, .slice v.A v.len v.cap, .int .i64 y.h.kind, .int .i64 y.h.n, .int .i64 y.h.d, .string y.h.name, .int .i64 y.h.k, .slice y.A y.len y.cap]; have O := bb.out.b9 C; have aq := cx.out.b9 C; have cj := hI (show InA (fun b => G.heap.size ≤ b ∧ b ≠ x) ap (.mk ⟨a, 0, 0, ⟨#[]⟩, 0⟩ [D, T1]) ⟨⟨a, 0, 0, ⟨#[]⟩, 0⟩, some ⟨w32.heap.size, 0, none⟩, 2, 2⟩ by rw [N]; exact ina_new2 w32 ⟨a, 0, 0, ⟨#[]⟩, 0⟩ df.out D T1 v y _ ⟨Nat.le_trans X (Nat.le_of_lt bb.out.lt), Nat.ne_of_gt bb.out.lt⟩ (cd.out.mv (fun e => absurd e.1 (Nat.not_le_of_lt bf)) j.out) (InA.weaken cf.out (fun b hb => ⟨Nat.le_trans X (Nat.le_trans (Nat.le_of_lt z.out.lt) hb), Nat.ne_of_gt (Nat.lt_of_lt_of_le z.out.lt hb)⟩))); rw [← N]; clear N; clear hHeld
      refine hK.out _ _ ?_ (fun hHeld => ?_)
      case refine_1 => exact Blk.cell aq.out.p 0
      clear hK K
      try simp only [setIfInBounds_toArray, set_cons_zero, set_cons_succ]
      refine tkY 5 rfl (v := ?_) (.inl ⟨by rfl, ?_⟩) ?_
      case refine_2 => intro w9 hSw; (try dsimp only at hSw); go_simp; (try with_reducible rfl)
      try simp only [Act.put, setIfInBounds_toArray, set_cons_zero, set_cons_succ, getElem_toArray, getElem_cons_zero, getElem_cons_succ]
      refine wpAnyH_ready (rs := [6]) (by kernel_rfl) (by simp) ?_
      refine (AllReadyH.cons rfl (fun K hK => ?_) AllReadyH.nil)
      obtain ⟨ck, cl, cm, cn, cp, cq, cr, cs, ct, cu, cv, cw⟩ := O.out.all6
      go_simp
      rw [pst6 O.out]; clear ck cl cm cn cp cq cr cs ct cu cv cw; have ar := hI (((cc.out.grown j.out a7.out).belowW C.out).far (t' := 29) c8 #[.int .i64 a, .int .i64 0, .int .i64 0, .string ⟨#[]⟩, .int .i64 0, .slice (some ⟨w32.heap.size, 0, none⟩) 2 2]); have P := hI (aq.out.far a9 c6 29 #[.int .i64 a, .int .i64 0, .int .i64 0, .string ⟨#[]⟩, .int .i64 0, .slice (some ⟨w32.heap.size, 0, none⟩) 2 2]); have au := hI (grown_new (grown_tr (grown_tr M.out j.out) (grown_of (some g) C.out)) c7 29 #[.int .i64 a, .int .i64 0, .int .i64 0, .string ⟨#[]⟩, .int .i64 0, .slice (some ⟨w32.heap.size, 0, none⟩) 2 2]); have av := hI (map_put (map_below (map_kept ce.out j.out hbg) C.out) c9 29 #[.int .i64 a, .int .i64 0, .int .i64 0, .string ⟨#[]⟩, .int .i64 0, .slice (some ⟨w32.heap.size, 0, none⟩) 2 2]); have aw := hI (cj.out.far (fun e => e.2 rfl) 29 #[.int .i64 a, .int .i64 0, .int .i64 0, .string ⟨#[]⟩, .int .i64 0, .slice (some ⟨w32.heap.size, 0, none⟩) 2 2]); have ax := hI (O.out.put #[.int .i64 a, .int .i64 0, .int .i64 0, .string ⟨#[]⟩, .int .i64 0, .slice (some ⟨w32.heap.size, 0, none⟩) 2 2]); obtain ⟨fa, ay⟩ := eX (putB ap (x) 29 #[.int .i64 a, .int .i64 0, .int .i64 0, .string ⟨#[]⟩, .int .i64 0, .slice (some ⟨w32.heap.size, 0, none⟩) 2 2]); rw [← ay] at ar P au av aw ax ⊢; clear ay hHeld
      refine hK.out _ _ ?_ (fun hHeld => ?_)
      case refine_1 => exact Blk.cell P.out.p 0
      clear hK K
      try simp only [setIfInBounds_toArray, set_cons_zero, set_cons_succ]
      refine wpAnyH_done (by kernel_rfl) ?_ _
      go_wp2_with fail
      go_roundg f
      case measure => exact Nat.lt_succ_self f
      case rel => exact ⟨_, ⟨⟨a, 0, 0, ⟨#[]⟩, 0⟩, some ⟨w32.heap.size, 0, none⟩, 2, 2⟩, k2, dt, du, aw, ax, ar, P, au, av⟩
end Go.Proofs.YtkjoohnndobjeaaGreatDoor
