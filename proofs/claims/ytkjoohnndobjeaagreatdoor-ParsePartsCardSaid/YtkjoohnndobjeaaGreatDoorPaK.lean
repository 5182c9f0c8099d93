/-
 The walk of the parser's chains of operations.
-/
import Derived.Test.YtkjoohnndobjeaaGreatDoorPaJ
set_option linter.unusedVariables false
set_option maxHeartbeats 4000000
set_option maxRecDepth 100000
namespace Go.Proofs.YtkjoohnndobjeaaGreatDoor
open Go.RowKit Go.Fl Go.Fl.Lx Go.Fl.Nm Go.Fl.Fm Go.Fl.Rt Go.Fl.Pa
open List (setIfInBounds_toArray set_cons_zero set_cons_succ getElem_toArray getElem_cons_zero getElem_cons_succ)
/-- What a chain comes to, with what its first operand comes to. -/
def chainR (ch : TE → Nat → PR TE) (r : PR TE) : PR TE :=
 match r with
 | .ok e k1 => ch e k1
 | r => r
/-- One step of a chain. -/
def stepR (ts : List Tok) (opk : List UInt8 → Int) (ch : TE → Nat → PR TE) (e : TE) (k : Nat) (r : PR TE) : PR TE :=
 if (tk ts k).kind = 3 ∧ opk (tk ts k).text ≠ 0 then
  match r with
  | .ok b k1 => ch (opE (opk (tk ts k).text) [e, b]) k1
  | r => r
 else .ok e k
theorem map_kept {w w' : World} {bm g : Nat} {o : Obj} (h : w.heap[bm]? = some o) (hg : w.grownBy w' (some g)) (hne : bm ≠ g) : w'.heap[bm]? = some o :=
 (hg.block bm (Array.getElem?_eq_some_iff.1 h).1 (fun e => hne (Option.some.inj e))).trans h
theorem map_below {w w' : World} {bm : Nat} {o : Obj} (h : w.heap[bm]? = some o) (hb : Below w.heap.size w w') : w'.heap[bm]? = some o :=
 (hb.block bm (Array.getElem?_eq_some_iff.1 h).1).trans h
theorem map_put {w : World} {bm r : Nat} {o : Obj} (h : w.heap[bm]? = some o) (hne : bm ≠ r) (t : TypeId) (V : Array Value) : (putB w r t V).heap[bm]? = some o := map_kept h (putB_grown w r t V) hne
/-- A loop's state: so much fuel is left, the tree so far lies at the loop's variable. -/
def ChRel (w0 w : World) (g : Nat) (A : Option Addr) (len cap : Nat) (ts : List Tok) (m : Nat) (ch : Nat → TE → Nat → PR TE) (RR : PR TE) (B be bm : Nat) (es : Array MapEntry) (f0 : Nat) (f : Nat) (wr : World) : Prop :=
 ∃ (T : TE) (v : Nd) (k : Nat), Hid (ch f T k = RR) ∧ Hid (k ≤ ts.length ∧ 8 * (ts.length - k) + 2 ≤ f ∧ f ≤ f0) ∧ Hid (InA (fun b => B ≤ b ∧ b ≠ be) wr T v) ∧ Hid (Blk wr be 29 #[.int .i64 v.h.kind, .int .i64 v.h.n, .int .i64 v.h.d, .string v.h.name, .int .i64 v.h.k, .slice v.A v.len v.cap]) ∧ Hid (Blk wr w.heap.size 29 #[.int .i64 0, .int .i64 0, .int .i64 0, .string ⟨#[]⟩, .int .i64 0, .slice none 0 0]) ∧
  Hid (Env w0 g A len cap ts k m wr) ∧ Hid (w.grownBy wr (some g)) ∧ Hid (wr.heap[bm]? = some (.map es 2))

theorem pChainS {w0 w : World} {g : Nat} {A : Option Addr} {len cap : Nat} {ts : List Tok} {k m : Nat} (h : Env w0 g A len cap ts k m w) (hk : k ≤ 100001) (bm : Nat) (es : Array MapEntry) (opk : List UInt8 → Int) (hop : ∀ l, 0 ≤ opk l ∧ opk l ≤ 13)
    (LK : ∀ (w' : World) (l : List UInt8), w'.heap[bm]? = some (.map es 2) → (Instr.lookup 142 (.map (some bm)) (.string ⟨l.toArray⟩) true).run Tryz.prog w' = .ok (.tuple #[.int .i64 (opk l), .bool (opk l != 0)]) w')
    (hbm : w.heap[bm]? = some (.map es 2)) (hbg : bm ≠ g)
    (ch : Nat → TE → Nat → PR TE) (nx : Nat → Nat → PR TE) (hch : ∀ f e k, ch (f + 1) e k = stepR ts opk (ch f) e k (nx f (k + 1)))
    (hnk : ∀ f k b k2, nx f k = .ok b k2 → k < k2 ∧ k2 ≤ ts.length) (hno : ∀ f k, 8 * (ts.length - k) + 7 ≤ f → nx f k ≠ .out)
    (f0 : Nat) (r : PR TE) (hr : r ≠ .out) (hrk : ∀ T k1, r = .ok T k1 → k1 ≤ ts.length ∧ 8 * (ts.length - k1) + 2 ≤ f0)
    (K1 : ∀ w', Env w0 g A len cap ts k m w' → Calls Tryz.prog 93 #[.pointer (some ⟨g, 0, none⟩)] w' (ExR w0 g A len cap ts m r w'))
    (K2 : ∀ f k', f < f0 → 8 * (ts.length - k') + 7 ≤ f → k' ≤ 100001 → ∀ w', Env w0 g A len cap ts k' m w' → Calls Tryz.prog 93 #[.pointer (some ⟨g, 0, none⟩)] w' (ExR w0 g A len cap ts m (nx f k') w')) :
    Calls Tryz.prog 92 #[.pointer (some ⟨g, 0, none⟩), .func (.func 93) #[.pointer (some ⟨g, 0, none⟩)] #[], .func (.func 93) #[.pointer (some ⟨g, 0, none⟩)] #[], .map (some bm)] w (ExR w0 g A len cap ts m (chainR (ch f0) r) w) := by
  have d0 := hI K2
  have d3 := hI LK
  have d4 := hI hch
  have d5 := hI hnk
  have d6 := hI hno
  have d7 := hI (show ts.length ≤ 100000 by rw [h.t.hl]; exact h.t.hs)
  obtain ⟨G, bj⟩ := eX (chainR (ch f0) r)
  have a9 := hI bj
  rw [← bj]
  have c0 := hI K1
  clear K1 K2 LK hch hnk hno bj
  have fs : bm < w.heap.size := (Array.getElem?_eq_some_iff.1 hbm).1
  go_enter Tryz.func92, Tryz.ntmps92
  go_upto_region 1 with (fail)
  obtain ⟨B, ba⟩ := eX (w.alloc (Obj.cells #[.int .i64 0, .int .i64 0, .int .i64 0, .string ⟨#[]⟩, .int .i64 0, .slice none 0 0] 29))
  have O1 := hI (show Below w.heap.size w B by rw [ba]; exact below_box _ _)
  have R := hI (show Blk B w.heap.size 29 #[.int .i64 0, .int .i64 0, .int .i64 0, .string ⟨#[]⟩, .int .i64 0, .slice none 0 0] by rw [ba]; exact Blk.new _ _ _)
  rw [← ba]
  clear ba
  have bc := hI (show some w.heap.size ≠ some g from fun e => by have := h.gl; injection e with e; omega)
  have bk : w.heap.size ≠ g := fun e => bc.out (by rw [e])
  have c1 : w0.heap.size ≤ w.heap.size := h.b.size
  have d8 : g < w.heap.size := h.gl
  have I := hI (h.belowW O1.out)
  have U := hI (grown_of (some g) O1.out)
  have J : w.heap.size < B.heap.size := R.out.lt
  clear h
  have ft := hI d8
  have bl : g < B.heap.size := I.out.gl
  have M1 := hI (map_below hbm O1.out)
  clear hbm
  have KC := hI (c0.out B I.out)
  cases r with
  | out => exact (hr rfl).elim
  | bad ln co er =>
    have s := hI (show G = .bad ln co er from a9.out)
    clear a9
    go_wp2_with fail
    refine KC.out.mono ?_
    rintro e w2 ⟨rfl, C⟩
    go_wp2_with fail
    rw [s.out]
    exact ⟨rfl, exr_bad (hI (grown_tr U.out C.out))⟩
  | ok T k1 =>
    have s := hI (show ch f0 T k1 = G from a9.out.symm)
    have bd := hI (show k1 ≤ ts.length ∧ 8 * (ts.length - k1) + 2 ≤ f0 ∧ f0 ≤ f0 from ⟨(hrk T k1 rfl).1, (hrk T k1 rfl).2, Nat.le_refl _⟩)
    clear a9 hrk
    go_wp2_with fail
    refine KC.out.mono ?_
    rintro e w2 ⟨v, rfl, HX2, C, HV2⟩
    have bo := hI (R.out.grown C.out bc.out)
    have M2 := hI (map_kept M1.out C.out hbg)
    have c4 := C
    have C := hI (grown_tr U.out C.out)
    go_upto_region 2 with (fail)
    obtain ⟨w3, bf⟩ := eX (w2.alloc (Obj.cells #[.int .i64 v.h.kind, .int .i64 v.h.n, .int .i64 v.h.d, .string v.h.name, .int .i64 v.h.k, .slice v.A v.len v.cap] 29))
    have P := hI (show Below w2.heap.size w2 w3 by rw [bf]; exact below_box _ _)
    have E3 := hI (show Blk w3 w2.heap.size 29 #[.int .i64 v.h.kind, .int .i64 v.h.n, .int .i64 v.h.d, .string v.h.name, .int .i64 v.h.k, .slice v.A v.len v.cap] by rw [bf]; exact Blk.new _ _ _)
    rw [← bf]
    clear bf
    have c6 := hI (HV2.out.belowW P.out)
    have F3 := hI (bo.out.belowW P.out)
    have bq := hI (InA.belowW (InA.weaken (InA.lt HX2.out) (Q := fun b => B.heap.size ≤ b ∧ b ≠ w2.heap.size) (fun b hb => ⟨hb.1, Nat.ne_of_lt hb.2⟩)) P.out)
    have c8 := hI (grown_tr C.out (grown_of (some g) P.out))
    have M3 := hI (map_below M2.out P.out)
    have d9 : w.heap.size < w2.heap.size := bo.out.lt
    have V : B.heap.size ≤ w2.heap.size := c4.out.size
    have ea : g < w2.heap.size := HV2.out.gl
    obtain ⟨u, da⟩ := eX (w2.heap.size)
    rw [← da] at V E3 d9 ea bq ⊢
    clear da
    have bg : u ≠ g := by omega
    have db : w0.heap.size ≤ u := by omega
    have dc : w.heap.size ≤ u := by omega
    have dd : w.heap.size ≠ u := by omega
    have de : bm ≠ u := by omega
    have df := hI (show some u ≠ some g from fun e => bg (Option.some.inj e))
    have dg := J
    clear J
    have J := dg
    clear dg
    go_loopg [10, 11] f0 (fun f d1 d2 wr => ChRel w0 w g A len cap ts m ch G B.heap.size u bm es f0 f wr)
    case atStart => exact ⟨T, v, k1, s, bd, bq, E3, F3, c6, c8, M3⟩
    case round =>
      clear s bd bq E3 F3 c6 c8 M3 P HX2 C HV2 bo M2 KC c0 U I R O1 M1 c4
      obtain ⟨D, v, i, eb, bd, ec, E1, R, I, U, ee⟩ := hrel
      obtain ⟨ef, fu, fv⟩ := bd.out
      have fw := d7.out
      cases gk with
      | zero => omega
      | succ f =>
        have o := hI (show G = stepR ts opk (ch f) D i (nx f (i + 1)) from eb.out.symm.trans (d4.out f D i))
        have W := hI (fun (w' : World) (hb : Below wr.heap.size wr w') => Env.tok (show Env w0 g A len cap ts i m w' from I.out.belowW hb) 0 (by omega))
        simp only [Nat.add_zero] at W
        have br := @tk_lt ts i
        have eg := I.out.t.tk i
        unfold stepR at o
        obtain ⟨H, dh⟩ := eX (tk ts i)
        rw [← dh] at W o br eg
        have di := hop H.text
        have bs := hI (fun (w' : World) (hh : w'.heap[bm]? = some (.map es 2)) => d3.out w' H.text hh)
        obtain ⟨a, dj⟩ := eX (opk H.text)
        rw [← dj] at bs o di
        have dk := hI (hd_op di)
        obtain ⟨b, hb⟩ : ∃ b, (a != 0) = b := ⟨_, rfl⟩
        have dl := hI (show (a ≠ 0) ↔ b = true by rw [← hb, bne_iff_ne])
        rw [hb] at bs
        obtain ⟨c, hc⟩ : ∃ b, ((H.kind : Int) != 3) = b := ⟨_, rfl⟩
        have dm := hI (show (H.kind ≠ 3) ↔ c = true by rw [← hc, bne_iff_ne]; omega)
        clear dh dj hb
        have fx := tokF0 H
        have fy := tokF1 H
        go_wp2_with fail
        refine (W.out wr (Below.refl _ _)).mono ?_
        rintro e w4 ⟨rfl, HB4⟩
        have M4 := hI (map_below ee.out HB4.out)
        have eh := bs.out w4 M4.out
        have X := hI (show Env w0 g A len cap ts i m w4 from I.out.belowW HB4.out)
        have Y := hI (E1.out.belowW HB4.out)
        have E := hI (R.out.belowW HB4.out)
        have Z := hI (ec.out.belowW HB4.out)
        have aa := hI (grown_tr U.out (grown_of (some g) HB4.out))
        cases b with
        | false =>
          have s := hI (show G = .ok D i by rw [o.out, if_neg (fun e => by have := dl.out.1 e.2; cases this)])
          clear o
          obtain ⟨a0, b0, a1, b1, a2, b2, a3, b3, a4, b4, a5, b5⟩ := Y.out.all6
          obtain ⟨r0, h0, r1, h1, r2, h2, r3, h3, r4, h4, r5, h5⟩ := E.out.all6
          go_wp2_with fail
          rw [pst6 E.out]
          have FZ := hI (E.out.put #[.int .i64 v.h.kind, .int .i64 v.h.n, .int .i64 v.h.d, .string v.h.name, .int .i64 v.h.k, .slice v.A v.len v.cap])
          obtain ⟨z0, _, z1, _, z2, _, z3, _, z4, _, z5, _⟩ := FZ.out.all6
          refine bodyPost_ret (v := .agg #[.int .i64 v.h.kind, .int .i64 v.h.n, .int .i64 v.h.d, .string v.h.name, .int .i64 v.h.k, .slice v.A v.len v.cap]) (by simp [results, Tryz.results92, go_sem, z0, z1, z2, z3, z4, z5]) rfl ?_
          rw [s.out]
          exact ⟨v, rfl, hI (InA.weaken (InA.far Z.out (fun e => absurd e.1 (Nat.not_le_of_lt J)) _ _) (fun b hb => Nat.le_trans (Nat.le_of_lt J) hb.1)), hI (grown_new aa.out (Nat.le_refl _) _ _), hI (X.out.far bk c1 _ _)⟩
        | true =>
          cases c with
          | true =>
            have s := hI (show G = .ok D i by rw [o.out, if_neg (fun e => dm.out.2 (by first | rfl | trivial) e.1)])
            clear o
            go_wp2_with fail
            refine (W.out w4 HB4.out).mono ?_
            rintro e w5 ⟨rfl, HB5⟩
            have X := hI (X.out.belowW HB5.out)
            have Y := hI (Y.out.belowW HB5.out)
            have E := hI (E.out.belowW HB5.out)
            have Z := hI (Z.out.belowW HB5.out)
            have aa := hI (grown_tr aa.out (grown_of (some g) HB5.out))
            obtain ⟨a0, b0, a1, b1, a2, b2, a3, b3, a4, b4, a5, b5⟩ := Y.out.all6
            obtain ⟨r0, h0, r1, h1, r2, h2, r3, h3, r4, h4, r5, h5⟩ := E.out.all6
            go_wp2_with fail
            rw [pst6 E.out]
            have FZ := hI (E.out.put #[.int .i64 v.h.kind, .int .i64 v.h.n, .int .i64 v.h.d, .string v.h.name, .int .i64 v.h.k, .slice v.A v.len v.cap])
            obtain ⟨z0, _, z1, _, z2, _, z3, _, z4, _, z5, _⟩ := FZ.out.all6
            refine bodyPost_ret (v := .agg #[.int .i64 v.h.kind, .int .i64 v.h.n, .int .i64 v.h.d, .string v.h.name, .int .i64 v.h.k, .slice v.A v.len v.cap]) (by simp [results, Tryz.results92, go_sem, z0, z1, z2, z3, z4, z5]) rfl ?_
            rw [s.out]
            exact ⟨v, rfl, hI (InA.weaken (InA.far Z.out (fun e => absurd e.1 (Nat.not_le_of_lt J)) _ _) (fun b hb => Nat.le_trans (Nat.le_of_lt J) hb.1)), hI (grown_new aa.out (Nat.le_refl _) _ _), hI (X.out.far bk c1 _ _)⟩
          | false =>
            have dp : H.kind = 3 := by
              apply Decidable.byContradiction
              intro h
              have := dm.out.1 h
              cases this
            have ef := br (by omega)
            have o := hI (o.out.trans (if_pos ⟨dp, dl.out.2 (by first | rfl | trivial)⟩))
            have KN := hI (d0.out f (i + 1) (by omega) (by omega) (by omega))
            have dq := d6.out f (i + 1) (by omega)
            have dr := hI (d5.out f (i + 1))
            obtain ⟨r2, ds⟩ := eX (nx f (i + 1))
            rw [← ds] at o KN dq dr
            clear ds dp br
            go_wp2_with fail
            refine (W.out w4 HB4.out).mono ?_
            rintro e w5 ⟨rfl, HB5⟩
            have dt := hI (X.out.belowW HB5.out)
            have E5 := hI (Y.out.belowW HB5.out)
            have F5 := hI (E.out.belowW HB5.out)
            have fa := hI (Z.out.belowW HB5.out)
            have fb := hI (map_below M4.out HB5.out)
            have fc := hI (grown_tr aa.out (grown_of (some g) HB5.out))
            have HP := hI (show Blk w5 g 140 #[.slice A len cap, .int .i64 (i : Nat), .int .i64 (m : Nat)] from dt.out.p)
            have e1 : IntKind.i64.wrap ((i : Int) + 1) = (i : Int) + 1 := by rw [IntKind.wrap_i64]; omega
            obtain ⟨p0, fe, p1, f1, p2, f2⟩ := HP.out.all3
            go_upto_region 6 with (fail)
            rw [HP.out.setCell_eq]
            have bh := hI (putB_grown w5 g 140 #[.slice A len cap, .int .i64 ((i + 1 : Nat) : Int), .int .i64 (m : Nat)])
            have b9 := hI (dt.out.put (i + 1) m (by omega))
            have E6 := hI (E5.out.far (t' := 140) bg #[.slice A len cap, .int .i64 ((i + 1 : Nat) : Int), .int .i64 (m : Nat)])
            have F6 := hI (F5.out.far (t' := 140) bk #[.slice A len cap, .int .i64 ((i + 1 : Nat) : Int), .int .i64 (m : Nat)])
            have cc := hI (fa.out.mv (fun e => absurd e.1 (Nat.not_le_of_lt bl)) bh.out)
            have cd := hI (grown_tr fc.out bh.out)
            have M6 := hI (map_kept fb.out bh.out hbg)
            obtain ⟨w6, cf⟩ := eX (putB w5 g 140 #[.slice A len cap, .int .i64 ((i + 1 : Nat) : Int), .int .i64 (m : Nat)])
            have du : putB w5 g 140 ((#[.slice A len cap, .int .i64 (i : Nat), .int .i64 (m : Nat)] : Array Value).setIfInBounds 1 (.int .i64 ((i : Int) + 1))) = w6 := by rw [cf]; rfl
            rw [← cf] at b9 E6 F6 cc cd M6
            rw [du]
            clear cf du p0 fe p1 f1 p2 f2 HP bh eh
            cases r2 with
            | out => exact (dq rfl).elim
            | bad ln co er =>
              have s := hI (show G = .bad ln co er from o.out)
              clear o
              have j := hI (below_dr w6)
              have ad := hI (F6.out.belowW j.out)
              have x := hI (E6.out.belowW j.out)
              have z := hI (b9.out.belowW j.out)
              have L := hI (grown_tr cd.out (grown_of (some g) j.out))
              have ae := hI (cc.out.belowW j.out)
              have af := hI (map_below M6.out j.out)
              refine wp_region_held_drew (S := fun w' => w'.cell? ⟨g, 0, none⟩ = some (.slice A len cap)) (by kernel_rfl) ?_ (fun hHeld => ?_)
              case refine_1 => exact Blk.cell z.out.p 0
              obtain ⟨ag, ah⟩ := eX (w6.drew)
              rw [← ah] at j ad x z L ae af hHeld ⊢
              clear ah
              refine tkY 0 rfl (v := ?_) (.inl ⟨by rfl, ?_⟩) ?_
              case refine_2 => intro w9 hSw; (try dsimp only at hSw); go_simp; (try with_reducible rfl)
              try simp only [Act.put, setIfInBounds_toArray, set_cons_zero, set_cons_succ, getElem_toArray, getElem_cons_zero]
              refine tkY 2 rfl (v := ?_) (.inl ⟨by rfl, ?_⟩) ?_
              case refine_2 => intro w9 hSw; (try dsimp only at hSw); go_simp; (try with_reducible rfl)
              try simp only [Act.put, setIfInBounds_toArray, set_cons_zero, set_cons_succ, getElem_toArray, getElem_cons_zero, getElem_cons_succ]
              refine wpAnyH_ready (rs := [1, 3]) (by kernel_rfl) (by simp) ?_
              refine (AllReadyH.cons rfl (fun K hK => ?_) (AllReadyH.cons rfl (fun K hK => ?_) AllReadyH.nil))
              · obtain ⟨ai, aj, ak, al, am, an, ao, ap, aq, ar, au, av⟩ := x.out.all6
                go_simp
                clear ai aj ak al am an ao ap aq ar au av
                clear hHeld
                refine hK.out _ _ ?_ (fun hHeld => ?_)
                case refine_1 => exact Blk.cell z.out.p 0
                clear hK K
                try simp only [setIfInBounds_toArray, set_cons_zero, set_cons_succ]
                refine wpAnyH_ready (rs := [3]) (by kernel_rfl) (by simp) ?_
                refine (AllReadyH.cons rfl (fun K hK => ?_) AllReadyH.nil)
                go_simp
                (with_reducible refine (KN.out ag z.out).mono ?_)
                rintro e w33 ⟨rfl, HGr⟩
                clear hHeld
                go_wp2_with fail
                rw [s.out]
                exact ⟨rfl, exr_bad (hI (grown_tr L.out HGr.out))⟩
              · go_simp
                (with_reducible refine (KN.out ag z.out).mono ?_)
                rintro e w32 ⟨rfl, HGr⟩
                clear hHeld
                go_wp2_with fail
                rw [s.out]
                exact ⟨rfl, exr_bad (hI (grown_tr L.out HGr.out))⟩
            | ok T1 k2 =>
              have fj := (dr.out T1 k2 rfl)
              have dv := hI (show ch f (.mk ⟨a, 0, 0, ⟨#[]⟩, 0⟩ [D, T1]) k2 = G from o.out.symm)
              have dw := hI (show k2 ≤ ts.length ∧ 8 * (ts.length - k2) + 2 ≤ f ∧ f ≤ f0 from ⟨fj.2, by omega, by omega⟩)
              clear o
              have j := hI (below_dr w6)
              have ad := hI (F6.out.belowW j.out)
              have x := hI (E6.out.belowW j.out)
              have z := hI (b9.out.belowW j.out)
              have L := hI (grown_tr cd.out (grown_of (some g) j.out))
              have ae := hI (cc.out.belowW j.out)
              have af := hI (map_below M6.out j.out)
              refine wp_region_held_drew (S := fun w' => w'.cell? ⟨g, 0, none⟩ = some (.slice A len cap)) (by kernel_rfl) ?_ (fun hHeld => ?_)
              case refine_1 => exact Blk.cell z.out.p 0
              obtain ⟨ag, ah⟩ := eX (w6.drew)
              rw [← ah] at j ad x z L ae af hHeld ⊢
              clear ah
              refine tkY 0 rfl (v := ?_) (.inl ⟨by rfl, ?_⟩) ?_
              case refine_2 => intro w9 hSw; (try dsimp only at hSw); go_simp; (try with_reducible rfl)
              try simp only [Act.put, setIfInBounds_toArray, set_cons_zero, set_cons_succ, getElem_toArray, getElem_cons_zero]
              refine tkY 2 rfl (v := ?_) (.inl ⟨by rfl, ?_⟩) ?_
              case refine_2 => intro w9 hSw; (try dsimp only at hSw); go_simp; (try with_reducible rfl)
              try simp only [Act.put, setIfInBounds_toArray, set_cons_zero, set_cons_succ, getElem_toArray, getElem_cons_zero, getElem_cons_succ]
              refine wpAnyH_ready (rs := [1, 3]) (by kernel_rfl) (by simp) ?_
              refine (AllReadyH.cons rfl (fun K hK => ?_) (AllReadyH.cons rfl (fun K hK => ?_) AllReadyH.nil))
              · obtain ⟨ai, aj, ak, al, am, an, ao, ap, aq, ar, au, av⟩ := x.out.all6
                go_simp
                clear ai aj ak al am an ao ap aq ar au av
                clear hHeld
                refine hK.out _ _ ?_ (fun hHeld => ?_)
                case refine_1 => exact Blk.cell z.out.p 0
                clear hK K
                try simp only [setIfInBounds_toArray, set_cons_zero, set_cons_succ]
                refine wpAnyH_ready (rs := [3]) (by kernel_rfl) (by simp) ?_
                refine (AllReadyH.cons rfl (fun K hK => ?_) AllReadyH.nil)
                go_simp
                (with_reducible refine (KN.out ag z.out).mono ?_)
                rintro e w33 ⟨y, rfl, HXr, HGr, HVr⟩
                have fk := hI (ad.out.grown HGr.out bc.out)
                have cg := hI (x.out.grown HGr.out df.out)
                have dx := hI (HVr.out)
                have fl := hI (grown_tr L.out HGr.out)
                have dy := hI (ae.out.mv (fun e => absurd e.1 (Nat.not_le_of_lt bl)) HGr.out)
                have fm := hI (map_kept af.out HGr.out hbg)
                go_wp2_with fail
                clear hHeld
                refine hK.out _ _ ?_ (fun hHeld => ?_)
                case refine_1 => exact Blk.cell dx.out.p 0
                clear hK K
                try simp only [setIfInBounds_toArray, set_cons_zero, set_cons_succ]
                refine wpAnyH_ready (rs := [4]) (by kernel_rfl) (by simp) ?_
                refine (AllReadyH.cons rfl (fun K hK => ?_) AllReadyH.nil)
                go_simp
                obtain ⟨M, F⟩ := eX (w33.alloc (Obj.cells #[.int .i64 v.h.kind, .int .i64 v.h.n, .int .i64 v.h.d, .string v.h.name, .int .i64 v.h.k, .slice v.A v.len v.cap, .int .i64 y.h.kind, .int .i64 y.h.n, .int .i64 y.h.d, .string y.h.name, .int .i64 y.h.k, .slice y.A y.len y.cap] 29))
                have q := hI (show Below w33.heap.size w33 M by rw [F]; exact below_box _ _)
                have ci := hI (fk.out.belowW q.out)
                have N := hI (cg.out.belowW q.out)
                have aw := hI (dx.out.belowW q.out)
                have cj := hI (grown_tr fl.out (grown_of (some g) q.out))
                have fn := hI (dy.out.belowW q.out)
                have ck := hI (map_below fm.out q.out)
                have cl := hI (show InA (fun b => B.heap.size ≤ b ∧ b ≠ u) M (.mk ⟨a, 0, 0, ⟨#[]⟩, 0⟩ [D, T1]) ⟨⟨a, 0, 0, ⟨#[]⟩, 0⟩, some ⟨w33.heap.size, 0, none⟩, 2, 2⟩ by rw [F]; exact ina_new2 w33 ⟨a, 0, 0, ⟨#[]⟩, 0⟩ dk.out D T1 v y _ ⟨Nat.le_trans V (Nat.le_of_lt cg.out.lt), Nat.ne_of_gt cg.out.lt⟩ dy.out (InA.weaken HXr.out (fun b hb => ⟨Nat.le_trans V (Nat.le_trans (Nat.le_of_lt x.out.lt) hb), Nat.ne_of_gt (Nat.lt_of_lt_of_le x.out.lt hb)⟩)))
                rw [← F]
                clear F
                clear hHeld
                refine hK.out _ _ ?_ (fun hHeld => ?_)
                case refine_1 => exact Blk.cell aw.out.p 0
                clear hK K
                try simp only [setIfInBounds_toArray, set_cons_zero, set_cons_succ]
                refine tkY 5 rfl (v := ?_) (.inl ⟨by rfl, ?_⟩) ?_
                case refine_2 => intro w9 hSw; (try dsimp only at hSw); go_simp; (try with_reducible rfl)
                try simp only [Act.put, setIfInBounds_toArray, set_cons_zero, set_cons_succ, getElem_toArray, getElem_cons_zero, getElem_cons_succ]
                refine wpAnyH_ready (rs := [6]) (by kernel_rfl) (by simp) ?_
                refine (AllReadyH.cons rfl (fun K hK => ?_) AllReadyH.nil)
                obtain ⟨cm, cn, cp, cq, cr, cs, ct, cu, cv, cw, cx, cy⟩ := N.out.all6
                go_simp
                rw [pst6 N.out]
                clear cm cn cp cq cr cs ct cu cv cw cx cy
                have ax := hI (ci.out.far (t' := 29) dd #[.int .i64 a, .int .i64 0, .int .i64 0, .string ⟨#[]⟩, .int .i64 0, .slice (some ⟨w33.heap.size, 0, none⟩) 2 2])
                have O := hI (aw.out.far bg db 29 #[.int .i64 a, .int .i64 0, .int .i64 0, .string ⟨#[]⟩, .int .i64 0, .slice (some ⟨w33.heap.size, 0, none⟩) 2 2])
                have ay := hI (grown_new cj.out dc 29 #[.int .i64 a, .int .i64 0, .int .i64 0, .string ⟨#[]⟩, .int .i64 0, .slice (some ⟨w33.heap.size, 0, none⟩) 2 2])
                have az := hI (map_put ck.out de 29 #[.int .i64 a, .int .i64 0, .int .i64 0, .string ⟨#[]⟩, .int .i64 0, .slice (some ⟨w33.heap.size, 0, none⟩) 2 2])
                have a6 := hI (cl.out.far (fun e => e.2 rfl) 29 #[.int .i64 a, .int .i64 0, .int .i64 0, .string ⟨#[]⟩, .int .i64 0, .slice (some ⟨w33.heap.size, 0, none⟩) 2 2])
                have a7 := hI (N.out.put #[.int .i64 a, .int .i64 0, .int .i64 0, .string ⟨#[]⟩, .int .i64 0, .slice (some ⟨w33.heap.size, 0, none⟩) 2 2])
                obtain ⟨fo, a8⟩ := eX (putB M (u) 29 #[.int .i64 a, .int .i64 0, .int .i64 0, .string ⟨#[]⟩, .int .i64 0, .slice (some ⟨w33.heap.size, 0, none⟩) 2 2])
                rw [← a8] at ax O ay az a6 a7 ⊢
                clear a8 hHeld
                refine hK.out _ _ ?_ (fun hHeld => ?_)
                case refine_1 => exact Blk.cell O.out.p 0
                clear hK K
                try simp only [setIfInBounds_toArray, set_cons_zero, set_cons_succ]
                refine wpAnyH_done (by kernel_rfl) ?_ _
                go_wp2_with fail
                go_roundg f
                case measure => exact Nat.lt_succ_self f
                case rel => exact ⟨_, ⟨⟨a, 0, 0, ⟨#[]⟩, 0⟩, some ⟨w33.heap.size, 0, none⟩, 2, 2⟩, k2, dv, dw, a6, a7, ax, O, ay, az⟩
              · go_simp
                (with_reducible refine (KN.out ag z.out).mono ?_)
                rintro e w32 ⟨y, rfl, HXr, HGr, HVr⟩
                have fp := hI (ad.out.grown HGr.out bc.out)
                have bi := hI (x.out.grown HGr.out df.out)
                have cz := hI (HVr.out)
                have fq := hI (grown_tr L.out HGr.out)
                have dz := hI (ae.out.mv (fun e => absurd e.1 (Nat.not_le_of_lt bl)) HGr.out)
                have fr := hI (map_kept af.out HGr.out hbg)
                go_wp2_with fail
                clear hHeld
                refine hK.out _ _ ?_ (fun hHeld => ?_)
                case refine_1 => exact Blk.cell cz.out.p 0
                clear hK K
                try simp only [setIfInBounds_toArray, set_cons_zero, set_cons_succ]
                refine wpAnyH_ready (rs := [1]) (by kernel_rfl) (by simp) ?_
                refine (AllReadyH.cons rfl (fun K hK => ?_) AllReadyH.nil)
                obtain ⟨ai, aj, ak, al, am, an, ao, ap, aq, ar, au, av⟩ := bi.out.all6
                go_simp
                clear ai aj ak al am an ao ap aq ar au av
                clear hHeld
                refine hK.out _ _ ?_ (fun hHeld => ?_)
                case refine_1 => exact Blk.cell cz.out.p 0
                clear hK K
                try simp only [setIfInBounds_toArray, set_cons_zero, set_cons_succ]
                refine wpAnyH_ready (rs := [4]) (by kernel_rfl) (by simp) ?_
                refine (AllReadyH.cons rfl (fun K hK => ?_) AllReadyH.nil)
                go_simp
                obtain ⟨M, F⟩ := eX (w32.alloc (Obj.cells #[.int .i64 v.h.kind, .int .i64 v.h.n, .int .i64 v.h.d, .string v.h.name, .int .i64 v.h.k, .slice v.A v.len v.cap, .int .i64 y.h.kind, .int .i64 y.h.n, .int .i64 y.h.d, .string y.h.name, .int .i64 y.h.k, .slice y.A y.len y.cap] 29))
                have q := hI (show Below w32.heap.size w32 M by rw [F]; exact below_box _ _)
                have ci := hI (fp.out.belowW q.out)
                have N := hI (bi.out.belowW q.out)
                have aw := hI (cz.out.belowW q.out)
                have cj := hI (grown_tr fq.out (grown_of (some g) q.out))
                have fn := hI (dz.out.belowW q.out)
                have ck := hI (map_below fr.out q.out)
                have cl := hI (show InA (fun b => B.heap.size ≤ b ∧ b ≠ u) M (.mk ⟨a, 0, 0, ⟨#[]⟩, 0⟩ [D, T1]) ⟨⟨a, 0, 0, ⟨#[]⟩, 0⟩, some ⟨w32.heap.size, 0, none⟩, 2, 2⟩ by rw [F]; exact ina_new2 w32 ⟨a, 0, 0, ⟨#[]⟩, 0⟩ dk.out D T1 v y _ ⟨Nat.le_trans V (Nat.le_of_lt bi.out.lt), Nat.ne_of_gt bi.out.lt⟩ dz.out (InA.weaken HXr.out (fun b hb => ⟨Nat.le_trans V (Nat.le_trans (Nat.le_of_lt x.out.lt) hb), Nat.ne_of_gt (Nat.lt_of_lt_of_le x.out.lt hb)⟩)))
                rw [← F]
                clear F
                clear hHeld
                refine hK.out _ _ ?_ (fun hHeld => ?_)
                case refine_1 => exact Blk.cell aw.out.p 0
                clear hK K
                try simp only [setIfInBounds_toArray, set_cons_zero, set_cons_succ]
                refine tkY 5 rfl (v := ?_) (.inl ⟨by rfl, ?_⟩) ?_
                case refine_2 => intro w9 hSw; (try dsimp only at hSw); go_simp; (try with_reducible rfl)
                try simp only [Act.put, setIfInBounds_toArray, set_cons_zero, set_cons_succ, getElem_toArray, getElem_cons_zero, getElem_cons_succ]
                refine wpAnyH_ready (rs := [6]) (by kernel_rfl) (by simp) ?_
                refine (AllReadyH.cons rfl (fun K hK => ?_) AllReadyH.nil)
                obtain ⟨cm, cn, cp, cq, cr, cs, ct, cu, cv, cw, cx, cy⟩ := N.out.all6
                go_simp
                rw [pst6 N.out]
                clear cm cn cp cq cr cs ct cu cv cw cx cy
                have ax := hI (ci.out.far (t' := 29) dd #[.int .i64 a, .int .i64 0, .int .i64 0, .string ⟨#[]⟩, .int .i64 0, .slice (some ⟨w32.heap.size, 0, none⟩) 2 2])
                have O := hI (aw.out.far bg db 29 #[.int .i64 a, .int .i64 0, .int .i64 0, .string ⟨#[]⟩, .int .i64 0, .slice (some ⟨w32.heap.size, 0, none⟩) 2 2])
                have ay := hI (grown_new cj.out dc 29 #[.int .i64 a, .int .i64 0, .int .i64 0, .string ⟨#[]⟩, .int .i64 0, .slice (some ⟨w32.heap.size, 0, none⟩) 2 2])
                have az := hI (map_put ck.out de 29 #[.int .i64 a, .int .i64 0, .int .i64 0, .string ⟨#[]⟩, .int .i64 0, .slice (some ⟨w32.heap.size, 0, none⟩) 2 2])
                have a6 := hI (cl.out.far (fun e => e.2 rfl) 29 #[.int .i64 a, .int .i64 0, .int .i64 0, .string ⟨#[]⟩, .int .i64 0, .slice (some ⟨w32.heap.size, 0, none⟩) 2 2])
                have a7 := hI (N.out.put #[.int .i64 a, .int .i64 0, .int .i64 0, .string ⟨#[]⟩, .int .i64 0, .slice (some ⟨w32.heap.size, 0, none⟩) 2 2])
                obtain ⟨fo, a8⟩ := eX (putB M (u) 29 #[.int .i64 a, .int .i64 0, .int .i64 0, .string ⟨#[]⟩, .int .i64 0, .slice (some ⟨w32.heap.size, 0, none⟩) 2 2])
                rw [← a8] at ax O ay az a6 a7 ⊢
                clear a8 hHeld
                refine hK.out _ _ ?_ (fun hHeld => ?_)
                case refine_1 => exact Blk.cell O.out.p 0
                clear hK K
                try simp only [setIfInBounds_toArray, set_cons_zero, set_cons_succ]
                refine wpAnyH_done (by kernel_rfl) ?_ _
                go_wp2_with fail
                go_roundg f
                case measure => exact Nat.lt_succ_self f
                case rel => exact ⟨_, ⟨⟨a, 0, 0, ⟨#[]⟩, 0⟩, some ⟨w32.heap.size, 0, none⟩, 2, 2⟩, k2, dv, dw, a6, a7, ax, O, ay, az⟩

theorem pChainT {w0 w : World} {g : Nat} {A : Option Addr} {len cap : Nat} {ts : List Tok} {k m : Nat} (h : Env w0 g A len cap ts k m w) (hk : k ≤ 100001) (bm : Nat) (es : Array MapEntry) (opk : List UInt8 → Int) (hop : ∀ l, 0 ≤ opk l ∧ opk l ≤ 13)
    (LK : ∀ (w' : World) (l : List UInt8), w'.heap[bm]? = some (.map es 2) → (Instr.lookup 142 (.map (some bm)) (.string ⟨l.toArray⟩) true).run Tryz.prog w' = .ok (.tuple #[.int .i64 (opk l), .bool (opk l != 0)]) w')
    (hbm : w.heap[bm]? = some (.map es 2)) (hbg : bm ≠ g)
    (ch : Nat → TE → Nat → PR TE) (nx : Nat → Nat → PR TE) (hch : ∀ f e k, ch (f + 1) e k = stepR ts opk (ch f) e k (nx f (k + 1)))
    (hnk : ∀ f k b k2, nx f k = .ok b k2 → k < k2 ∧ k2 ≤ ts.length) (hno : ∀ f k, 8 * (ts.length - k) + 7 ≤ f → nx f k ≠ .out)
    (f0 : Nat) (r : PR TE) (hr : r ≠ .out) (hrk : ∀ T k1, r = .ok T k1 → k1 ≤ ts.length ∧ 8 * (ts.length - k1) + 2 ≤ f0)
    (K1 : ∀ w', Env w0 g A len cap ts k m w' → Calls Tryz.prog 125 #[.pointer (some ⟨g, 0, none⟩)] w' (ExR w0 g A len cap ts m r w'))
    (K2 : ∀ f k', f < f0 → 8 * (ts.length - k') + 7 ≤ f → k' ≤ 100001 → ∀ w', Env w0 g A len cap ts k' m w' → Calls Tryz.prog 126 #[.pointer (some ⟨g, 0, none⟩)] w' (ExR w0 g A len cap ts m (nx f k') w')) :
    Calls Tryz.prog 92 #[.pointer (some ⟨g, 0, none⟩), .func (.func 125) #[.pointer (some ⟨g, 0, none⟩)] #[], .func (.func 126) #[.pointer (some ⟨g, 0, none⟩)] #[], .map (some bm)] w (ExR w0 g A len cap ts m (chainR (ch f0) r) w) := by
  have d0 := hI K2
  have d3 := hI LK
  have d4 := hI hch
  have d5 := hI hnk
  have d6 := hI hno
  have d7 := hI (show ts.length ≤ 100000 by rw [h.t.hl]; exact h.t.hs)
  obtain ⟨G, bj⟩ := eX (chainR (ch f0) r)
  have a9 := hI bj
  rw [← bj]
  have c0 := hI K1
  clear K1 K2 LK hch hnk hno bj
  have fs : bm < w.heap.size := (Array.getElem?_eq_some_iff.1 hbm).1
  go_enter Tryz.func92, Tryz.ntmps92
  go_upto_region 1 with (fail)
  obtain ⟨B, ba⟩ := eX (w.alloc (Obj.cells #[.int .i64 0, .int .i64 0, .int .i64 0, .string ⟨#[]⟩, .int .i64 0, .slice none 0 0] 29))
  have O1 := hI (show Below w.heap.size w B by rw [ba]; exact below_box _ _)
  have R := hI (show Blk B w.heap.size 29 #[.int .i64 0, .int .i64 0, .int .i64 0, .string ⟨#[]⟩, .int .i64 0, .slice none 0 0] by rw [ba]; exact Blk.new _ _ _)
  rw [← ba]
  clear ba
  have bc := hI (show some w.heap.size ≠ some g from fun e => by have := h.gl; injection e with e; omega)
  have bk : w.heap.size ≠ g := fun e => bc.out (by rw [e])
  have c1 : w0.heap.size ≤ w.heap.size := h.b.size
  have d8 : g < w.heap.size := h.gl
  have I := hI (h.belowW O1.out)
  have U := hI (grown_of (some g) O1.out)
  have J : w.heap.size < B.heap.size := R.out.lt
  clear h
  have ft := hI d8
  have bl : g < B.heap.size := I.out.gl
  have M1 := hI (map_below hbm O1.out)
  clear hbm
  have KC := hI (c0.out B I.out)
  cases r with
  | out => exact (hr rfl).elim
  | bad ln co er =>
    have s := hI (show G = .bad ln co er from a9.out)
    clear a9
    go_wp2_with fail
    refine KC.out.mono ?_
    rintro e w2 ⟨rfl, C⟩
    go_wp2_with fail
    rw [s.out]
    exact ⟨rfl, exr_bad (hI (grown_tr U.out C.out))⟩
  | ok T k1 =>
    have s := hI (show ch f0 T k1 = G from a9.out.symm)
    have bd := hI (show k1 ≤ ts.length ∧ 8 * (ts.length - k1) + 2 ≤ f0 ∧ f0 ≤ f0 from ⟨(hrk T k1 rfl).1, (hrk T k1 rfl).2, Nat.le_refl _⟩)
    clear a9 hrk
    go_wp2_with fail
    refine KC.out.mono ?_
    rintro e w2 ⟨v, rfl, HX2, C, HV2⟩
    have bo := hI (R.out.grown C.out bc.out)
    have M2 := hI (map_kept M1.out C.out hbg)
    have c4 := C
    have C := hI (grown_tr U.out C.out)
    go_upto_region 2 with (fail)
    obtain ⟨w3, bf⟩ := eX (w2.alloc (Obj.cells #[.int .i64 v.h.kind, .int .i64 v.h.n, .int .i64 v.h.d, .string v.h.name, .int .i64 v.h.k, .slice v.A v.len v.cap] 29))
    have P := hI (show Below w2.heap.size w2 w3 by rw [bf]; exact below_box _ _)
    have E3 := hI (show Blk w3 w2.heap.size 29 #[.int .i64 v.h.kind, .int .i64 v.h.n, .int .i64 v.h.d, .string v.h.name, .int .i64 v.h.k, .slice v.A v.len v.cap] by rw [bf]; exact Blk.new _ _ _)
    rw [← bf]
    clear bf
    have c6 := hI (HV2.out.belowW P.out)
    have F3 := hI (bo.out.belowW P.out)
    have bq := hI (InA.belowW (InA.weaken (InA.lt HX2.out) (Q := fun b => B.heap.size ≤ b ∧ b ≠ w2.heap.size) (fun b hb => ⟨hb.1, Nat.ne_of_lt hb.2⟩)) P.out)
    have c8 := hI (grown_tr C.out (grown_of (some g) P.out))
    have M3 := hI (map_below M2.out P.out)
    have d9 : w.heap.size < w2.heap.size := bo.out.lt
    have V : B.heap.size ≤ w2.heap.size := c4.out.size
    have ea : g < w2.heap.size := HV2.out.gl
    obtain ⟨u, da⟩ := eX (w2.heap.size)
    rw [← da] at V E3 d9 ea bq ⊢
    clear da
    have bg : u ≠ g := by omega
    have db : w0.heap.size ≤ u := by omega
    have dc : w.heap.size ≤ u := by omega
    have dd : w.heap.size ≠ u := by omega
    have de : bm ≠ u := by omega
    have df := hI (show some u ≠ some g from fun e => bg (Option.some.inj e))
    have dg := J
    clear J
    have J := dg
    clear dg
    go_loopg [10, 11] f0 (fun f d1 d2 wr => ChRel w0 w g A len cap ts m ch G B.heap.size u bm es f0 f wr)
    case atStart => exact ⟨T, v, k1, s, bd, bq, E3, F3, c6, c8, M3⟩
    case round =>
      clear s bd bq E3 F3 c6 c8 M3 P HX2 C HV2 bo M2 KC c0 U I R O1 M1 c4
      obtain ⟨D, v, i, eb, bd, ec, E1, R, I, U, ee⟩ := hrel
      obtain ⟨ef, fu, fv⟩ := bd.out
      have fw := d7.out
      cases gk with
      | zero => omega
      | succ f =>
        have o := hI (show G = stepR ts opk (ch f) D i (nx f (i + 1)) from eb.out.symm.trans (d4.out f D i))
        have W := hI (fun (w' : World) (hb : Below wr.heap.size wr w') => Env.tok (show Env w0 g A len cap ts i m w' from I.out.belowW hb) 0 (by omega))
        simp only [Nat.add_zero] at W
        have br := @tk_lt ts i
        have eg := I.out.t.tk i
        unfold stepR at o
        obtain ⟨H, dh⟩ := eX (tk ts i)
        rw [← dh] at W o br eg
        have di := hop H.text
        have bs := hI (fun (w' : World) (hh : w'.heap[bm]? = some (.map es 2)) => d3.out w' H.text hh)
        obtain ⟨a, dj⟩ := eX (opk H.text)
        rw [← dj] at bs o di
        have dk := hI (hd_op di)
        obtain ⟨b, hb⟩ : ∃ b, (a != 0) = b := ⟨_, rfl⟩
        have dl := hI (show (a ≠ 0) ↔ b = true by rw [← hb, bne_iff_ne])
        rw [hb] at bs
        obtain ⟨c, hc⟩ : ∃ b, ((H.kind : Int) != 3) = b := ⟨_, rfl⟩
        have dm := hI (show (H.kind ≠ 3) ↔ c = true by rw [← hc, bne_iff_ne]; omega)
        clear dh dj hb
        have fx := tokF0 H
        have fy := tokF1 H
        go_wp2_with fail
        refine (W.out wr (Below.refl _ _)).mono ?_
        rintro e w4 ⟨rfl, HB4⟩
        have M4 := hI (map_below ee.out HB4.out)
        have eh := bs.out w4 M4.out
        have X := hI (show Env w0 g A len cap ts i m w4 from I.out.belowW HB4.out)
        have Y := hI (E1.out.belowW HB4.out)
        have E := hI (R.out.belowW HB4.out)
        have Z := hI (ec.out.belowW HB4.out)
        have aa := hI (grown_tr U.out (grown_of (some g) HB4.out))
        cases b with
        | false =>
          have s := hI (show G = .ok D i by rw [o.out, if_neg (fun e => by have := dl.out.1 e.2; cases this)])
          clear o
          obtain ⟨a0, b0, a1, b1, a2, b2, a3, b3, a4, b4, a5, b5⟩ := Y.out.all6
          obtain ⟨r0, h0, r1, h1, r2, h2, r3, h3, r4, h4, r5, h5⟩ := E.out.all6
          go_wp2_with fail
          rw [pst6 E.out]
          have FZ := hI (E.out.put #[.int .i64 v.h.kind, .int .i64 v.h.n, .int .i64 v.h.d, .string v.h.name, .int .i64 v.h.k, .slice v.A v.len v.cap])
          obtain ⟨z0, _, z1, _, z2, _, z3, _, z4, _, z5, _⟩ := FZ.out.all6
          refine bodyPost_ret (v := .agg #[.int .i64 v.h.kind, .int .i64 v.h.n, .int .i64 v.h.d, .string v.h.name, .int .i64 v.h.k, .slice v.A v.len v.cap]) (by simp [results, Tryz.results92, go_sem, z0, z1, z2, z3, z4, z5]) rfl ?_
          rw [s.out]
          exact ⟨v, rfl, hI (InA.weaken (InA.far Z.out (fun e => absurd e.1 (Nat.not_le_of_lt J)) _ _) (fun b hb => Nat.le_trans (Nat.le_of_lt J) hb.1)), hI (grown_new aa.out (Nat.le_refl _) _ _), hI (X.out.far bk c1 _ _)⟩
        | true =>
          cases c with
          | true =>
            have s := hI (show G = .ok D i by rw [o.out, if_neg (fun e => dm.out.2 (by first | rfl | trivial) e.1)])
            clear o
            go_wp2_with fail
            refine (W.out w4 HB4.out).mono ?_
            rintro e w5 ⟨rfl, HB5⟩
            have X := hI (X.out.belowW HB5.out)
            have Y := hI (Y.out.belowW HB5.out)
            have E := hI (E.out.belowW HB5.out)
            have Z := hI (Z.out.belowW HB5.out)
            have aa := hI (grown_tr aa.out (grown_of (some g) HB5.out))
            obtain ⟨a0, b0, a1, b1, a2, b2, a3, b3, a4, b4, a5, b5⟩ := Y.out.all6
            obtain ⟨r0, h0, r1, h1, r2, h2, r3, h3, r4, h4, r5, h5⟩ := E.out.all6
            go_wp2_with fail
            rw [pst6 E.out]
            have FZ := hI (E.out.put #[.int .i64 v.h.kind, .int .i64 v.h.n, .int .i64 v.h.d, .string v.h.name, .int .i64 v.h.k, .slice v.A v.len v.cap])
            obtain ⟨z0, _, z1, _, z2, _, z3, _, z4, _, z5, _⟩ := FZ.out.all6
            refine bodyPost_ret (v := .agg #[.int .i64 v.h.kind, .int .i64 v.h.n, .int .i64 v.h.d, .string v.h.name, .int .i64 v.h.k, .slice v.A v.len v.cap]) (by simp [results, Tryz.results92, go_sem, z0, z1, z2, z3, z4, z5]) rfl ?_
            rw [s.out]
            exact ⟨v, rfl, hI (InA.weaken (InA.far Z.out (fun e => absurd e.1 (Nat.not_le_of_lt J)) _ _) (fun b hb => Nat.le_trans (Nat.le_of_lt J) hb.1)), hI (grown_new aa.out (Nat.le_refl _) _ _), hI (X.out.far bk c1 _ _)⟩
          | false =>
            have dp : H.kind = 3 := by
              apply Decidable.byContradiction
              intro h
              have := dm.out.1 h
              cases this
            have ef := br (by omega)
            have o := hI (o.out.trans (if_pos ⟨dp, dl.out.2 (by first | rfl | trivial)⟩))
            have KN := hI (d0.out f (i + 1) (by omega) (by omega) (by omega))
            have dq := d6.out f (i + 1) (by omega)
            have dr := hI (d5.out f (i + 1))
            obtain ⟨r2, ds⟩ := eX (nx f (i + 1))
            rw [← ds] at o KN dq dr
            clear ds dp br
            go_wp2_with fail
            refine (W.out w4 HB4.out).mono ?_
            rintro e w5 ⟨rfl, HB5⟩
            have dt := hI (X.out.belowW HB5.out)
            have E5 := hI (Y.out.belowW HB5.out)
            have F5 := hI (E.out.belowW HB5.out)
            have fa := hI (Z.out.belowW HB5.out)
            have fb := hI (map_below M4.out HB5.out)
            have fc := hI (grown_tr aa.out (grown_of (some g) HB5.out))
            have HP := hI (show Blk w5 g 140 #[.slice A len cap, .int .i64 (i : Nat), .int .i64 (m : Nat)] from dt.out.p)
            have e1 : IntKind.i64.wrap ((i : Int) + 1) = (i : Int) + 1 := by rw [IntKind.wrap_i64]; omega
            obtain ⟨p0, fe, p1, f1, p2, f2⟩ := HP.out.all3
            go_upto_region 6 with (fail)
            rw [HP.out.setCell_eq]
            have bh := hI (putB_grown w5 g 140 #[.slice A len cap, .int .i64 ((i + 1 : Nat) : Int), .int .i64 (m : Nat)])
            have b9 := hI (dt.out.put (i + 1) m (by omega))
            have E6 := hI (E5.out.far (t' := 140) bg #[.slice A len cap, .int .i64 ((i + 1 : Nat) : Int), .int .i64 (m : Nat)])
            have F6 := hI (F5.out.far (t' := 140) bk #[.slice A len cap, .int .i64 ((i + 1 : Nat) : Int), .int .i64 (m : Nat)])
            have cc := hI (fa.out.mv (fun e => absurd e.1 (Nat.not_le_of_lt bl)) bh.out)
            have cd := hI (grown_tr fc.out bh.out)
            have M6 := hI (map_kept fb.out bh.out hbg)
            obtain ⟨w6, cf⟩ := eX (putB w5 g 140 #[.slice A len cap, .int .i64 ((i + 1 : Nat) : Int), .int .i64 (m : Nat)])
            have du : putB w5 g 140 ((#[.slice A len cap, .int .i64 (i : Nat), .int .i64 (m : Nat)] : Array Value).setIfInBounds 1 (.int .i64 ((i : Int) + 1))) = w6 := by rw [cf]; rfl
            rw [← cf] at b9 E6 F6 cc cd M6
            rw [du]
            clear cf du p0 fe p1 f1 p2 f2 HP bh eh
            cases r2 with
            | out => exact (dq rfl).elim
            | bad ln co er =>
              have s := hI (show G = .bad ln co er from o.out)
              clear o
              have j := hI (below_dr w6)
              have ad := hI (F6.out.belowW j.out)
              have x := hI (E6.out.belowW j.out)
              have z := hI (b9.out.belowW j.out)
              have L := hI (grown_tr cd.out (grown_of (some g) j.out))
              have ae := hI (cc.out.belowW j.out)
              have af := hI (map_below M6.out j.out)
              refine wp_region_held_drew (S := fun w' => w'.cell? ⟨g, 0, none⟩ = some (.slice A len cap)) (by kernel_rfl) ?_ (fun hHeld => ?_)
              case refine_1 => exact Blk.cell z.out.p 0
              obtain ⟨ag, ah⟩ := eX (w6.drew)
              rw [← ah] at j ad x z L ae af hHeld ⊢
              clear ah
              refine tkY 0 rfl (v := ?_) (.inl ⟨by rfl, ?_⟩) ?_
              case refine_2 => intro w9 hSw; (try dsimp only at hSw); go_simp; (try with_reducible rfl)
              try simp only [Act.put, setIfInBounds_toArray, set_cons_zero, set_cons_succ, getElem_toArray, getElem_cons_zero]
              refine tkY 2 rfl (v := ?_) (.inl ⟨by rfl, ?_⟩) ?_
              case refine_2 => intro w9 hSw; (try dsimp only at hSw); go_simp; (try with_reducible rfl)
              try simp only [Act.put, setIfInBounds_toArray, set_cons_zero, set_cons_succ, getElem_toArray, getElem_cons_zero, getElem_cons_succ]
              refine wpAnyH_ready (rs := [1, 3]) (by kernel_rfl) (by simp) ?_
              refine (AllReadyH.cons rfl (fun K hK => ?_) (AllReadyH.cons rfl (fun K hK => ?_) AllReadyH.nil))
              · obtain ⟨ai, aj, ak, al, am, an, ao, ap, aq, ar, au, av⟩ := x.out.all6
                go_simp
                clear ai aj ak al am an ao ap aq ar au av
                clear hHeld
                refine hK.out _ _ ?_ (fun hHeld => ?_)
                case refine_1 => exact Blk.cell z.out.p 0
                clear hK K
                try simp only [setIfInBounds_toArray, set_cons_zero, set_cons_succ]
                refine wpAnyH_ready (rs := [3]) (by kernel_rfl) (by simp) ?_
                refine (AllReadyH.cons rfl (fun K hK => ?_) AllReadyH.nil)
                go_simp
                (with_reducible refine (KN.out ag z.out).mono ?_)
                rintro e w33 ⟨rfl, HGr⟩
                clear hHeld
                go_wp2_with fail
                rw [s.out]
                exact ⟨rfl, exr_bad (hI (grown_tr L.out HGr.out))⟩
              · go_simp
                (with_reducible refine (KN.out ag z.out).mono ?_)
                rintro e w32 ⟨rfl, HGr⟩
                clear hHeld
                go_wp2_with fail
                rw [s.out]
                exact ⟨rfl, exr_bad (hI (grown_tr L.out HGr.out))⟩
            | ok T1 k2 =>
              have fj := (dr.out T1 k2 rfl)
              have dv := hI (show ch f (.mk ⟨a, 0, 0, ⟨#[]⟩, 0⟩ [D, T1]) k2 = G from o.out.symm)
              have dw := hI (show k2 ≤ ts.length ∧ 8 * (ts.length - k2) + 2 ≤ f ∧ f ≤ f0 from ⟨fj.2, by omega, by omega⟩)
              clear o
              have j := hI (below_dr w6)
              have ad := hI (F6.out.belowW j.out)
              have x := hI (E6.out.belowW j.out)
              have z := hI (b9.out.belowW j.out)
              have L := hI (grown_tr cd.out (grown_of (some g) j.out))
              have ae := hI (cc.out.belowW j.out)
              have af := hI (map_below M6.out j.out)
              refine wp_region_held_drew (S := fun w' => w'.cell? ⟨g, 0, none⟩ = some (.slice A len cap)) (by kernel_rfl) ?_ (fun hHeld => ?_)
              case refine_1 => exact Blk.cell z.out.p 0
              obtain ⟨ag, ah⟩ := eX (w6.drew)
              rw [← ah] at j ad x z L ae af hHeld ⊢
              clear ah
              refine tkY 0 rfl (v := ?_) (.inl ⟨by rfl, ?_⟩) ?_
              case refine_2 => intro w9 hSw; (try dsimp only at hSw); go_simp; (try with_reducible rfl)
              try simp only [Act.put, setIfInBounds_toArray, set_cons_zero, set_cons_succ, getElem_toArray, getElem_cons_zero]
              refine tkY 2 rfl (v := ?_) (.inl ⟨by rfl, ?_⟩) ?_
              case refine_2 => intro w9 hSw; (try dsimp only at hSw); go_simp; (try with_reducible rfl)
              try simp only [Act.put, setIfInBounds_toArray, set_cons_zero, set_cons_succ, getElem_toArray, getElem_cons_zero, getElem_cons_succ]
              refine wpAnyH_ready (rs := [1, 3]) (by kernel_rfl) (by simp) ?_
              refine (AllReadyH.cons rfl (fun K hK => ?_) (AllReadyH.cons rfl (fun K hK => ?_) AllReadyH.nil))
              · obtain ⟨ai, aj, ak, al, am, an, ao, ap, aq, ar, au, av⟩ := x.out.all6
                go_simp
                clear ai aj ak al am an ao ap aq ar au av
                clear hHeld
                refine hK.out _ _ ?_ (fun hHeld => ?_)
                case refine_1 => exact Blk.cell z.out.p 0
                clear hK K
                try simp only [setIfInBounds_toArray, set_cons_zero, set_cons_succ]
                refine wpAnyH_ready (rs := [3]) (by kernel_rfl) (by simp) ?_
                refine (AllReadyH.cons rfl (fun K hK => ?_) AllReadyH.nil)
                go_simp
                (with_reducible refine (KN.out ag z.out).mono ?_)
                rintro e w33 ⟨y, rfl, HXr, HGr, HVr⟩
                have fk := hI (ad.out.grown HGr.out bc.out)
                have cg := hI (x.out.grown HGr.out df.out)
                have dx := hI (HVr.out)
                have fl := hI (grown_tr L.out HGr.out)
                have dy := hI (ae.out.mv (fun e => absurd e.1 (Nat.not_le_of_lt bl)) HGr.out)
                have fm := hI (map_kept af.out HGr.out hbg)
                go_wp2_with fail
                clear hHeld
                refine hK.out _ _ ?_ (fun hHeld => ?_)
                case refine_1 => exact Blk.cell dx.out.p 0
                clear hK K
                try simp only [setIfInBounds_toArray, set_cons_zero, set_cons_succ]
                refine wpAnyH_ready (rs := [4]) (by kernel_rfl) (by simp) ?_
                refine (AllReadyH.cons rfl (fun K hK => ?_) AllReadyH.nil)
                go_simp
                obtain ⟨M, F⟩ := eX (w33.alloc (Obj.cells #[.int .i64 v.h.kind, .int .i64 v.h.n, .int .i64 v.h.d, .string v.h.name, .int .i64 v.h.k, .slice v.A v.len v.cap, .int .i64 y.h.kind, .int .i64 y.h.n, .int .i64 y.h.d, .string y.h.name, .int .i64 y.h.k, .slice y.A y.len y.cap] 29))
                have q := hI (show Below w33.heap.size w33 M by rw [F]; exact below_box _ _)
                have ci := hI (fk.out.belowW q.out)
                have N := hI (cg.out.belowW q.out)
                have aw := hI (dx.out.belowW q.out)
                have cj := hI (grown_tr fl.out (grown_of (some g) q.out))
                have fn := hI (dy.out.belowW q.out)
                have ck := hI (map_below fm.out q.out)
                have cl := hI (show InA (fun b => B.heap.size ≤ b ∧ b ≠ u) M (.mk ⟨a, 0, 0, ⟨#[]⟩, 0⟩ [D, T1]) ⟨⟨a, 0, 0, ⟨#[]⟩, 0⟩, some ⟨w33.heap.size, 0, none⟩, 2, 2⟩ by rw [F]; exact ina_new2 w33 ⟨a, 0, 0, ⟨#[]⟩, 0⟩ dk.out D T1 v y _ ⟨Nat.le_trans V (Nat.le_of_lt cg.out.lt), Nat.ne_of_gt cg.out.lt⟩ dy.out (InA.weaken HXr.out (fun b hb => ⟨Nat.le_trans V (Nat.le_trans (Nat.le_of_lt x.out.lt) hb), Nat.ne_of_gt (Nat.lt_of_lt_of_le x.out.lt hb)⟩)))
                rw [← F]
                clear F
                clear hHeld
                refine hK.out _ _ ?_ (fun hHeld => ?_)
                case refine_1 => exact Blk.cell aw.out.p 0
                clear hK K
                try simp only [setIfInBounds_toArray, set_cons_zero, set_cons_succ]
                refine tkY 5 rfl (v := ?_) (.inl ⟨by rfl, ?_⟩) ?_
                case refine_2 => intro w9 hSw; (try dsimp only at hSw); go_simp; (try with_reducible rfl)
                try simp only [Act.put, setIfInBounds_toArray, set_cons_zero, set_cons_succ, getElem_toArray, getElem_cons_zero, getElem_cons_succ]
                refine wpAnyH_ready (rs := [6]) (by kernel_rfl) (by simp) ?_
                refine (AllReadyH.cons rfl (fun K hK => ?_) AllReadyH.nil)
                obtain ⟨cm, cn, cp, cq, cr, cs, ct, cu, cv, cw, cx, cy⟩ := N.out.all6
                go_simp
                rw [pst6 N.out]
                clear cm cn cp cq cr cs ct cu cv cw cx cy
                have ax := hI (ci.out.far (t' := 29) dd #[.int .i64 a, .int .i64 0, .int .i64 0, .string ⟨#[]⟩, .int .i64 0, .slice (some ⟨w33.heap.size, 0, none⟩) 2 2])
                have O := hI (aw.out.far bg db 29 #[.int .i64 a, .int .i64 0, .int .i64 0, .string ⟨#[]⟩, .int .i64 0, .slice (some ⟨w33.heap.size, 0, none⟩) 2 2])
                have ay := hI (grown_new cj.out dc 29 #[.int .i64 a, .int .i64 0, .int .i64 0, .string ⟨#[]⟩, .int .i64 0, .slice (some ⟨w33.heap.size, 0, none⟩) 2 2])
                have az := hI (map_put ck.out de 29 #[.int .i64 a, .int .i64 0, .int .i64 0, .string ⟨#[]⟩, .int .i64 0, .slice (some ⟨w33.heap.size, 0, none⟩) 2 2])
                have a6 := hI (cl.out.far (fun e => e.2 rfl) 29 #[.int .i64 a, .int .i64 0, .int .i64 0, .string ⟨#[]⟩, .int .i64 0, .slice (some ⟨w33.heap.size, 0, none⟩) 2 2])
                have a7 := hI (N.out.put #[.int .i64 a, .int .i64 0, .int .i64 0, .string ⟨#[]⟩, .int .i64 0, .slice (some ⟨w33.heap.size, 0, none⟩) 2 2])
                obtain ⟨fo, a8⟩ := eX (putB M (u) 29 #[.int .i64 a, .int .i64 0, .int .i64 0, .string ⟨#[]⟩, .int .i64 0, .slice (some ⟨w33.heap.size, 0, none⟩) 2 2])
                rw [← a8] at ax O ay az a6 a7 ⊢
                clear a8 hHeld
                refine hK.out _ _ ?_ (fun hHeld => ?_)
                case refine_1 => exact Blk.cell O.out.p 0
                clear hK K
                try simp only [setIfInBounds_toArray, set_cons_zero, set_cons_succ]
                refine wpAnyH_done (by kernel_rfl) ?_ _
                go_wp2_with fail
                go_roundg f
                case measure => exact Nat.lt_succ_self f
                case rel => exact ⟨_, ⟨⟨a, 0, 0, ⟨#[]⟩, 0⟩, some ⟨w33.heap.size, 0, none⟩, 2, 2⟩, k2, dv, dw, a6, a7, ax, O, ay, az⟩
              · go_simp
                (with_reducible refine (KN.out ag z.out).mono ?_)
                rintro e w32 ⟨y, rfl, HXr, HGr, HVr⟩
                have fp := hI (ad.out.grown HGr.out bc.out)
                have bi := hI (x.out.grown HGr.out df.out)
                have cz := hI (HVr.out)
                have fq := hI (grown_tr L.out HGr.out)
                have dz := hI (ae.out.mv (fun e => absurd e.1 (Nat.not_le_of_lt bl)) HGr.out)
                have fr := hI (map_kept af.out HGr.out hbg)
                go_wp2_with fail
                clear hHeld
                refine hK.out _ _ ?_ (fun hHeld => ?_)
                case refine_1 => exact Blk.cell cz.out.p 0
                clear hK K
                try simp only [setIfInBounds_toArray, set_cons_zero, set_cons_succ]
                refine wpAnyH_ready (rs := [1]) (by kernel_rfl) (by simp) ?_
                refine (AllReadyH.cons rfl (fun K hK => ?_) AllReadyH.nil)
                obtain ⟨ai, aj, ak, al, am, an, ao, ap, aq, ar, au, av⟩ := bi.out.all6
                go_simp
                clear ai aj ak al am an ao ap aq ar au av
                clear hHeld
                refine hK.out _ _ ?_ (fun hHeld => ?_)
                case refine_1 => exact Blk.cell cz.out.p 0
                clear hK K
                try simp only [setIfInBounds_toArray, set_cons_zero, set_cons_succ]
                refine wpAnyH_ready (rs := [4]) (by kernel_rfl) (by simp) ?_
                refine (AllReadyH.cons rfl (fun K hK => ?_) AllReadyH.nil)
                go_simp
                obtain ⟨M, F⟩ := eX (w32.alloc (Obj.cells #[.int .i64 v.h.kind, .int .i64 v.h.n, .int .i64 v.h.d, .string v.h.name, .int .i64 v.h.k, .slice v.A v.len v.cap, .int .i64 y.h.kind, .int .i64 y.h.n, .int .i64 y.h.d, .string y.h.name, .int .i64 y.h.k, .slice y.A y.len y.cap] 29))
                have q := hI (show Below w32.heap.size w32 M by rw [F]; exact below_box _ _)
                have ci := hI (fp.out.belowW q.out)
                have N := hI (bi.out.belowW q.out)
                have aw := hI (cz.out.belowW q.out)
                have cj := hI (grown_tr fq.out (grown_of (some g) q.out))
                have fn := hI (dz.out.belowW q.out)
                have ck := hI (map_below fr.out q.out)
                have cl := hI (show InA (fun b => B.heap.size ≤ b ∧ b ≠ u) M (.mk ⟨a, 0, 0, ⟨#[]⟩, 0⟩ [D, T1]) ⟨⟨a, 0, 0, ⟨#[]⟩, 0⟩, some ⟨w32.heap.size, 0, none⟩, 2, 2⟩ by rw [F]; exact ina_new2 w32 ⟨a, 0, 0, ⟨#[]⟩, 0⟩ dk.out D T1 v y _ ⟨Nat.le_trans V (Nat.le_of_lt bi.out.lt), Nat.ne_of_gt bi.out.lt⟩ dz.out (InA.weaken HXr.out (fun b hb => ⟨Nat.le_trans V (Nat.le_trans (Nat.le_of_lt x.out.lt) hb), Nat.ne_of_gt (Nat.lt_of_lt_of_le x.out.lt hb)⟩)))
                rw [← F]
                clear F
                clear hHeld
                refine hK.out _ _ ?_ (fun hHeld => ?_)
                case refine_1 => exact Blk.cell aw.out.p 0
                clear hK K
                try simp only [setIfInBounds_toArray, set_cons_zero, set_cons_succ]
                refine tkY 5 rfl (v := ?_) (.inl ⟨by rfl, ?_⟩) ?_
                case refine_2 => intro w9 hSw; (try dsimp only at hSw); go_simp; (try with_reducible rfl)
                try simp only [Act.put, setIfInBounds_toArray, set_cons_zero, set_cons_succ, getElem_toArray, getElem_cons_zero, getElem_cons_succ]
                refine wpAnyH_ready (rs := [6]) (by kernel_rfl) (by simp) ?_
                refine (AllReadyH.cons rfl (fun K hK => ?_) AllReadyH.nil)
                obtain ⟨cm, cn, cp, cq, cr, cs, ct, cu, cv, cw, cx, cy⟩ := N.out.all6
                go_simp
                rw [pst6 N.out]
                clear cm cn cp cq cr cs ct cu cv cw cx cy
                have ax := hI (ci.out.far (t' := 29) dd #[.int .i64 a, .int .i64 0, .int .i64 0, .string ⟨#[]⟩, .int .i64 0, .slice (some ⟨w32.heap.size, 0, none⟩) 2 2])
                have O := hI (aw.out.far bg db 29 #[.int .i64 a, .int .i64 0, .int .i64 0, .string ⟨#[]⟩, .int .i64 0, .slice (some ⟨w32.heap.size, 0, none⟩) 2 2])
                have ay := hI (grown_new cj.out dc 29 #[.int .i64 a, .int .i64 0, .int .i64 0, .string ⟨#[]⟩, .int .i64 0, .slice (some ⟨w32.heap.size, 0, none⟩) 2 2])
                have az := hI (map_put ck.out de 29 #[.int .i64 a, .int .i64 0, .int .i64 0, .string ⟨#[]⟩, .int .i64 0, .slice (some ⟨w32.heap.size, 0, none⟩) 2 2])
                have a6 := hI (cl.out.far (fun e => e.2 rfl) 29 #[.int .i64 a, .int .i64 0, .int .i64 0, .string ⟨#[]⟩, .int .i64 0, .slice (some ⟨w32.heap.size, 0, none⟩) 2 2])
                have a7 := hI (N.out.put #[.int .i64 a, .int .i64 0, .int .i64 0, .string ⟨#[]⟩, .int .i64 0, .slice (some ⟨w32.heap.size, 0, none⟩) 2 2])
                obtain ⟨fo, a8⟩ := eX (putB M (u) 29 #[.int .i64 a, .int .i64 0, .int .i64 0, .string ⟨#[]⟩, .int .i64 0, .slice (some ⟨w32.heap.size, 0, none⟩) 2 2])
                rw [← a8] at ax O ay az a6 a7 ⊢
                clear a8 hHeld
                refine hK.out _ _ ?_ (fun hHeld => ?_)
                case refine_1 => exact Blk.cell O.out.p 0
                clear hK K
                try simp only [setIfInBounds_toArray, set_cons_zero, set_cons_succ]
                refine wpAnyH_done (by kernel_rfl) ?_ _
                go_wp2_with fail
                go_roundg f
                case measure => exact Nat.lt_succ_self f
                case rel => exact ⟨_, ⟨⟨a, 0, 0, ⟨#[]⟩, 0⟩, some ⟨w32.heap.size, 0, none⟩, 2, 2⟩, k2, dv, dw, a6, a7, ax, O, ay, az⟩
end Go.Proofs.YtkjoohnndobjeaaGreatDoor
