/-
 The walk of the parser's atoms.
-/
import Derived.Test.YtkjoohnndobjeaaGreatDoorQJ
set_option linter.unusedVariables false
set_option maxHeartbeats 4000000
set_option maxRecDepth 100000
namespace Go.Proofs.YtkjoohnndobjeaaGreatDoor
open Go.RowKit Go.Fl Go.Fl.Lx Go.Fl.Nm Go.Fl.Fm Go.Fl.Rt Go.Fl.Pa
open List (setIfInBounds_toArray set_cons_zero set_cons_succ getElem_toArray getElem_cons_zero getElem_cons_succ)
/-- A node over what a rule finds. -/
def opOne (kd : Int) (r : PR TE) : PR TE :=
 match r with
 | .ok e k1 => .ok (opE kd [e]) k1
 | r => r
/-- What an atom comes to, with what parentheses here (r0), and behind a function's name (r1), come to. -/
def atomR (nm : List UInt8 → Bool) (ts : List Tok) (k : Nat) (r0 r1 : PR TE) : PR TE :=
 if (tk ts k).kind = 2 then (numP ts k).map numE
 else if (tk ts k).kind = 1 ∧ nm (tk ts k).text = true then .ok (varE (tk ts k).text) (k + 1)
 else if (tk ts k).kind = 1 ∧ funK (tk ts k).text ≠ 0 then
  match r1 with
  | .ok e k1 => .ok (opE (funK (tk ts k).text) [e]) k1
  | r => r
 else r0
theorem atomP_eq (nm : List UInt8 → Bool) (ts : List Tok) (f k m : Nat) : atomP nm ts (f + 1) k m = atomR nm ts k (encP nm ts f k m) (encP nm ts f (k + 1) m) := by
 rw [atomP.eq_def]
 rfl
theorem funK_small (l : List UInt8) : 0 ≤ funK l ∧ funK l ≤ 13 := by
 unfold funK
 split
 ·
  omega
 split
 ·
  omega
 split
 ·
  omega
 split
 ·
  omega
 split <;> omega
theorem hd_var {s : List UInt8} (h : s.length ≤ 20) : HdOk ⟨2, 0, 0, ⟨s.toArray⟩, 0⟩ := by
 refine ⟨?_, ?_, ?_, ?_, ?_, ?_, ?_, ?_, ?_⟩ <;> first | decide | (simp only; omega) | (show s.toArray.size ≤ maxLen; rw [List.size_toArray]; exact Nat.le_trans h (by decide))
theorem hd_op {kd : Int} (h : 0 ≤ kd ∧ kd ≤ 13) : HdOk ⟨kd, 0, 0, ⟨#[]⟩, 0⟩ := by
 refine ⟨?_, ?_, ?_, ?_, ?_, ?_, ?_, ?_, Nat.zero_le _⟩ <;> simp only <;> omega

theorem pAtom {w0 w : World} {g : Nat} {A : Option Addr} {len cap : Nat} {ts : List Tok} {k m : Nat} (h : Env w0 g A len cap ts k m w) (hk : k ≤ 110000) (hR : RX w0) (hX : FX w0) (r0 r1 : PR TE) (hr0 : r0 ≠ .out) (hr1 : r1 ≠ .out)
    (K0 : ∀ w', Env w0 g A len cap ts k m w' → Calls Tryz.prog 176 #[.pointer (some ⟨g, 0, none⟩)] w' (ExR w0 g A len cap ts m r0 w'))
    (K1 : ∀ w', Env w0 g A len cap ts (k + 1) m w' → Calls Tryz.prog 176 #[.pointer (some ⟨g, 0, none⟩)] w' (ExR w0 g A len cap ts m r1 w')) :
    Calls Tryz.prog 158 #[.pointer (some ⟨g, 0, none⟩)] w (ExR w0 g A len cap ts m (atomR nameP ts k r0 r1) w) := by
  obtain ⟨bm, es, ck, bw, bx⟩ := hX
  have ak := hI bw
  have av := hI bx
  have al := hI K0
  have bz := hI K1
  obtain ⟨u, aw⟩ := eX (atomR nameP ts k r0 r1)
  have o := hI aw
  rw [← aw]
  clear K0 K1 aw bw bx
  go_enter Tryz.func158, Tryz.ntmps158
  go_upto_region 1 with (fail)
  obtain ⟨w1, am⟩ := eX (w.alloc (Obj.cells #[.int .i64 0, .int .i64 0, .int .i64 0, .string ⟨#[]⟩, .int .i64 0, .slice none 0 0] 29))
  have O1 := hI (show Below w.heap.size w w1 by rw [am]; exact below_box _ _)
  have F1 := hI (show Blk w1 w.heap.size 29 #[.int .i64 0, .int .i64 0, .int .i64 0, .string ⟨#[]⟩, .int .i64 0, .slice none 0 0] by rw [am]; exact Blk.new _ _ _)
  rw [← am]
  clear am
  have U := hI (show some w.heap.size ≠ some g from fun e => by have := h.gl; injection e with e; omega)
  have M : w.heap.size ≠ g := fun e => U.out (by rw [e])
  have V : w0.heap.size ≤ w.heap.size := h.b.size
  have cu : g < w.heap.size := h.gl
  have ay := hI (h.belowW O1.out)
  have cv := hI (grown_of (some g) O1.out)
  have hr1 : w.heap.size < w1.heap.size := F1.out.lt
  clear h
  have b4 := hI cu
  have KT := hI (ay.out.tok 0 (by omega))
  rw [Nat.add_zero] at KT
  have Y : (tk ts k).text.length ≤ 100 := (ay.out.t.tk k).1
  have a0 : ((⟨(tk ts k).text.toArray⟩ : ByteArray)).size ≤ maxLen := Nat.le_trans (show (tk ts k).text.toArray.size ≤ 100 by rw [List.size_toArray]; exact Y) (by decide)
  have b5 := hI (show nameR ts k = if (tk ts k).kind = 1 ∧ nameP (tk ts k).text = true then .ok (tk ts k).text (k + 1) else unex ts k from rfl)
  unfold atomR at o
  obtain ⟨T, b6⟩ := eX (tk ts k)
  rw [← b6] at KT o a0 Y b5
  obtain ⟨b2, cw⟩ : ∃ b, ((T.kind : Int) == 2) = b := ⟨_, rfl⟩
  obtain ⟨b1, cx⟩ : ∃ b, ((T.kind : Int) == 1) = b := ⟨_, rfl⟩
  obtain ⟨bn, an⟩ : ∃ b, nameP T.text = b := ⟨_, rfl⟩
  obtain ⟨i, ao⟩ : ∃ z, funK T.text = z := ⟨_, rfl⟩
  have a1 := hI ao
  have cz := hI (hd_op (by have := funK_small T.text; rw [ao] at this; exact this))
  have b9 : (T.kind = 2) ↔ b2 = true := by rw [← cw, beq_iff_eq]; omega
  have ca : (T.kind = 1) ↔ b1 = true := by rw [← cx, beq_iff_eq]; omega
  rw [an, ao] at o
  have Z := hI b9
  have aa := hI ca
  have cb := hI an
  have x := hI (fun w' => name_any ⟨T.text.toArray⟩ w' a0)
  have hl : (⟨T.text.toArray⟩ : ByteArray).data.toList = T.text := rfl
  rw [hl, an] at x
  clear b6 an b9 ca hl a0 ao
  go_wp2_with fail
  refine KT.out.mono ?_
  rintro e w2 ⟨rfl, HB2⟩
  have dy := HB2.out.size
  go_upto_region 2 with (fail)
  obtain ⟨l, ap⟩ := eX (w2.alloc (Obj.cells #[.int .i64 T.kind, .string ⟨T.text.toArray⟩, .int .i64 T.line, .int .i64 T.col] 58))
  have a2 := hI (show Below w2.heap.size w2 l by rw [ap]; exact below_box _ _)
  have E3 := hI (show Blk l w2.heap.size 58 #[.int .i64 T.kind, .string ⟨T.text.toArray⟩, .int .i64 T.line, .int .i64 T.col] by rw [ap]; exact Blk.new _ _ _)
  rw [← ap]
  clear ap
  have y := hI ((ay.out.belowW HB2.out).belowW a2.out)
  have N := hI ((F1.out.belowW HB2.out).belowW a2.out)
  have J := hI (grown_tr cv.out (grown_tr (grown_of (some g) HB2.out) (grown_of (some g) a2.out)))
  have X3 := hI (ak.out.belowW y.out.b)
  obtain ⟨O, a3⟩ := eX (w2.heap.size)
  have dz : w.heap.size < O := by omega
  have d0 : O < l.heap.size := by rw [a3]; exact E3.out.lt
  have c0 := hI (show some O ≠ some g from fun e => by have := b4.out; injection e with e; omega)
  rw [← a3] at E3 ⊢
  clear a3
  have q0 := E3.out.cell 0
  have q1 := E3.out.cell 1
  simp only [List.getElem?_toArray, List.getElem?_cons_zero, List.getElem?_cons_succ] at q0 q1
  cases b2 with
  | true =>
    have c := hI (show u = (numP ts k).map numE by rw [o.out, if_pos (Z.out.2 rfl)])
    clear o
    have x := hI (pNumber y.out (by omega) hR)
    cases hq : numP ts k with
    | out => exact (numP_out hq).elim
    | bad ln co er =>
      have j := hI (show u = .bad ln co er by rw [c.out, hq]; rfl)
      rw [hq] at x
      clear hq c
      go_wp2_with fail
      refine x.out.mono ?_
      rintro e B ⟨rfl, s⟩
      go_wp2_with fail
      rw [j.out]
      exact ⟨rfl, exr_bad (hI (grown_tr J.out s.out))⟩
    | ok a k1 =>
      have j := hI (show u = .ok (numE a) k1 by rw [c.out, hq]; rfl)
      have a4 := hd_num (numP_small2 hq)
      rw [hq] at x
      clear hq c
      obtain ⟨n, d⟩ := a
      go_wp2_with fail
      refine x.out.mono ?_
      rintro e B ⟨rfl, s, L⟩
      have C := hI (N.out.grown s.out U.out)
      go_wp2_with fail
      refine (pNum (n, d) B).mono ?_
      rintro e w6 ⟨rfl, HB6⟩
      have F6 := hI (C.out.belowW HB6.out)
      have c3 := hI (L.out.belowW HB6.out)
      have a6 := hI (grown_tr J.out (grown_tr s.out (grown_of (some g) HB6.out)))
      simp only [ndR, Nd.val]
      obtain ⟨r0, h0, r1, h1, r2, h2, r3, h3, r4, h4, r5, h5⟩ := F6.out.all6
      go_wp2_with fail
      rw [pst6 F6.out]
      have P := hI (F6.out.put #[.int .i64 1, .int .i64 n, .int .i64 d, .string ⟨#[]⟩, .int .i64 0, .slice none 0 0])
      obtain ⟨D, _, E, _, F, _, G, _, H, _, I, _⟩ := P.out.all6
      refine bodyPost_ret (v := .agg #[.int .i64 1, .int .i64 n, .int .i64 d, .string ⟨#[]⟩, .int .i64 0, .slice none 0 0]) (by simp [results, Tryz.results158, go_sem, D, E, F, G, H, I]) rfl ?_
      rw [j.out]
      exact ⟨ndR (n, d), rfl, hI (inx_leaf _ _ _ a4), hI (grown_new a6.out (Nat.le_refl _) _ _), hI (c3.out.far M V _ _)⟩
  | false =>
    cases b1 with
    | false =>
      have c := hI (show u = r0 by
        rw [o.out, if_neg (fun e => by have := Z.out.1 e; cases this), if_neg (fun e => by have := aa.out.1 e.1; cases this), if_neg (fun e => by have := aa.out.1 e.1; cases this)])
      clear o
      obtain ⟨r, ac⟩ := eX (r0)
      rw [← ac] at al c hr0
      have j := c
      have hr := hr0
      clear ac hr0 c
      have KC := hI (al.out l y.out)
      have c4 : g < l.heap.size := y.out.gl
      have ae : w.heap.size < l.heap.size := N.out.lt
      cases r with
      | out => exact (hr rfl).elim
      | bad ln co er =>
        go_wp2_with fail
        refine KC.out.mono ?_
        rintro e w7 ⟨rfl, HG7⟩
        go_wp2_with fail
        rw [j.out]
        exact ⟨rfl, exr_bad (hI (grown_tr J.out HG7.out))⟩
      | ok T k1 =>
        go_wp2_with fail
        refine KC.out.mono ?_
        rintro e w7 ⟨v, rfl, HX7, HG7, HV7⟩
        have Q := hI (N.out.grown HG7.out U.out)
        obtain ⟨r0, h0, r1, h1, r2, h2, r3, h3, r4, h4, r5, h5⟩ := Q.out.all6
        go_wp2_with fail
        rw [pst6 Q.out]
        have P := hI (Q.out.put #[.int .i64 v.h.kind, .int .i64 v.h.n, .int .i64 v.h.d, .string v.h.name, .int .i64 v.h.k, .slice v.A v.len v.cap])
        obtain ⟨D, _, E, _, F, _, G, _, H, _, I, _⟩ := P.out.all6
        refine bodyPost_ret (v := .agg #[.int .i64 v.h.kind, .int .i64 v.h.n, .int .i64 v.h.d, .string v.h.name, .int .i64 v.h.k, .slice v.A v.len v.cap]) (by simp [results, Tryz.results158, go_sem, D, E, F, G, H, I]) rfl ?_
        rw [j.out]
        exact ⟨v, rfl, hI ((HX7.out.far ae _ _).weaken (Nat.le_of_lt ae)), hI (grown_new (hI (grown_tr J.out HG7.out)).out (Nat.le_refl _) _ _), hI (HV7.out.far M V _ _)⟩
    | true =>
      cases bn with
      | true =>
        have j := hI (show u = .ok (varE T.text) (k + 1) by
          rw [o.out, if_neg (fun e => by have := Z.out.1 e; cases this), if_pos ⟨aa.out.2 rfl, rfl⟩])
        have c5 := hI (show nameR ts k = .ok T.text (k + 1) by rw [b5.out, if_pos ⟨aa.out.2 rfl, cb.out⟩])
        clear o
        go_wp2_with fail
        refine (x.out _).mono ?_
        rintro e w4 ⟨rfl, rfl⟩
        have KM := hI (pName y.out hk)
        have a4 := hd_var (nameP_len cb.out)
        rw [c5.out] at KM
        go_wp2_with fail
        refine KM.out.mono ?_
        rintro e B ⟨rfl, s, L⟩
        have C := hI (N.out.grown s.out U.out)
        have a6 := hI (grown_tr J.out s.out)
        obtain ⟨r0, h0, r1, h1, r2, h2, r3, h3, r4, h4, r5, h5⟩ := C.out.all6
        go_wp2_with fail
        rw [pst6 C.out]
        have P := hI (C.out.put #[.int .i64 2, .int .i64 0, .int .i64 0, .string ⟨T.text.toArray⟩, .int .i64 0, .slice none 0 0])
        obtain ⟨D, _, E, _, F, _, G, _, H, _, I, _⟩ := P.out.all6
        refine bodyPost_ret (v := .agg #[.int .i64 2, .int .i64 0, .int .i64 0, .string ⟨T.text.toArray⟩, .int .i64 0, .slice none 0 0]) (by simp [results, Tryz.results158, go_sem, D, E, F, G, H, I]) rfl ?_
        rw [j.out]
        exact ⟨⟨⟨2, 0, 0, ⟨T.text.toArray⟩, 0⟩, none, 0, 0⟩, rfl, hI (inx_leaf _ _ _ a4), hI (grown_new a6.out (Nat.le_refl _) _ _), hI (L.out.far M V _ _)⟩
      | false =>
        have c6 := X3.out.cell
        have cf := av.out l T.text Y X3.out.heap
        rw [a1.out] at cf
        obtain ⟨bf, aq⟩ : ∃ b, (i != 0) = b := ⟨_, rfl⟩
        cases bf with
        | false =>
          have c := hI (show u = r0 by
            rw [o.out, if_neg (fun e => by have := Z.out.1 e; cases this), if_neg (fun e => by cases e.2), if_neg (fun e => by rw [bne_eq_false_iff_eq] at aq; exact e.2 aq)])
          clear o
          go_wp2_with fail
          refine (x.out _).mono ?_
          rintro e w4 ⟨rfl, rfl⟩
          obtain ⟨r, ac⟩ := eX (r0)
          rw [← ac] at al c hr0
          have j := c
          have hr := hr0
          clear ac hr0 c
          have KC := hI (al.out l y.out)
          have c4 : g < l.heap.size := y.out.gl
          have ae : w.heap.size < l.heap.size := N.out.lt
          cases r with
          | out => exact (hr rfl).elim
          | bad ln co er =>
            go_wp2_with fail
            refine KC.out.mono ?_
            rintro e w7 ⟨rfl, HG7⟩
            go_wp2_with fail
            rw [j.out]
            exact ⟨rfl, exr_bad (hI (grown_tr J.out HG7.out))⟩
          | ok T k1 =>
            go_wp2_with fail
            refine KC.out.mono ?_
            rintro e w7 ⟨v, rfl, HX7, HG7, HV7⟩
            have Q := hI (N.out.grown HG7.out U.out)
            obtain ⟨r0, h0, r1, h1, r2, h2, r3, h3, r4, h4, r5, h5⟩ := Q.out.all6
            go_wp2_with fail
            rw [pst6 Q.out]
            have P := hI (Q.out.put #[.int .i64 v.h.kind, .int .i64 v.h.n, .int .i64 v.h.d, .string v.h.name, .int .i64 v.h.k, .slice v.A v.len v.cap])
            obtain ⟨D, _, E, _, F, _, G, _, H, _, I, _⟩ := P.out.all6
            refine bodyPost_ret (v := .agg #[.int .i64 v.h.kind, .int .i64 v.h.n, .int .i64 v.h.d, .string v.h.name, .int .i64 v.h.k, .slice v.A v.len v.cap]) (by simp [results, Tryz.results158, go_sem, D, E, F, G, H, I]) rfl ?_
            rw [j.out]
            exact ⟨v, rfl, hI ((HX7.out.far ae _ _).weaken (Nat.le_of_lt ae)), hI (grown_new (hI (grown_tr J.out HG7.out)).out (Nat.le_refl _) _ _), hI (HV7.out.far M V _ _)⟩
        | true =>
          have c := hI (show u = opOne i r1 by
            rw [o.out, if_neg (fun e => by have := Z.out.1 e; cases this), if_neg (fun e => by cases e.2), if_pos ⟨aa.out.2 rfl, fun e => by rw [bne_iff_ne] at aq; exact aq e⟩]; rfl)
          clear o
          go_wp2_with fail
          refine (x.out _).mono ?_
          rintro e w4 ⟨rfl, rfl⟩
          have e1 : IntKind.i64.wrap ((k : Int) + 1) = (k : Int) + 1 := by rw [IntKind.wrap_i64]; omega
          have c8 : O ≠ g := fun e => by have := b4.out; omega
          have c9 : w.heap.size ≠ O := by omega
          have HP := hI (show Blk l g 140 #[.slice A len cap, .int .i64 (k : Nat), .int .i64 (m : Nat)] from y.out.p)
          obtain ⟨p0, f0, p1, f1, p2, f2⟩ := HP.out.all3
          go_upto_region 8 with (fail)
          rw [HP.out.setCell_eq]
          have cg := hI (putB_grown l g 140 #[.slice A len cap, .int .i64 ((k + 1 : Nat) : Int), .int .i64 (m : Nat)])
          have L := hI (y.out.put (k + 1) m (by omega))
          have E5 := hI (E3.out.far (t' := 140) c8 #[.slice A len cap, .int .i64 ((k + 1 : Nat) : Int), .int .i64 (m : Nat)])
          have C := hI (N.out.far (t' := 140) M #[.slice A len cap, .int .i64 ((k + 1 : Nat) : Int), .int .i64 (m : Nat)])
          have s := hI (grown_tr J.out cg.out)
          have X5 := hI (ak.out.belowW L.out.b)
          obtain ⟨B, bo⟩ := eX (putB l g 140 #[.slice A len cap, .int .i64 ((k + 1 : Nat) : Int), .int .i64 (m : Nat)])
          have ch : putB l g 140 ((#[.slice A len cap, .int .i64 (k : Nat), .int .i64 (m : Nat)] : Array Value).setIfInBounds 1 (.int .i64 ((k : Int) + 1))) = B := by rw [bo]; rfl
          rw [← bo] at L E5 C s X5
          rw [ch]
          clear bo ch p0 f0 p1 f1 p2 f2 HP cg c6 cf
          cases r1 with
          | out => exact (hr1 rfl).elim
          | bad ln co er =>
            have j := hI (show u = .bad ln co er from c.out)
            clear c
            have q := hI (below_dr B)
            have W := hI (C.out.belowW q.out)
            have X := hI (E5.out.belowW q.out)
            have af := hI (L.out.belowW q.out)
            have R := hI (X5.out.belowW q.out)
            have ag := hI (grown_tr s.out (grown_of (some g) q.out))
            refine wp_region_held_drew (S := fun w' => w'.cell? ⟨1, 0, none⟩ = some (.map (some bm)) ∧ w'.heap[bm]? = some (.map es ck) ∧ w'.cell? ⟨O, 1, none⟩ = some (.string ⟨T.text.toArray⟩)) (by kernel_rfl) ?_ (fun hHeld => ?_)
            case refine_1 => exact ⟨R.out.cell, R.out.heap, X.out.cell 1⟩
            obtain ⟨ar, ah⟩ := eX (B.drew)
            rw [← ah] at q W X af R ag hHeld ⊢
            clear ah
            refine tkY 0 rfl (v := ?_) (.inl ⟨by rfl, ?_⟩) ?_
            case refine_2 => intro w9 hSw; (try dsimp only at hSw); go_simp; (try with_reducible rfl)
            try simp only [Act.put, setIfInBounds_toArray, set_cons_zero, set_cons_succ, getElem_toArray, getElem_cons_zero]
            refine tkY 1 rfl (v := ?_) (.inl ⟨by rfl, ?_⟩) ?_
            case refine_2 => intro w9 hSw; (try dsimp only at hSw); go_simp; (try with_reducible rfl)
            try simp only [Act.put, setIfInBounds_toArray, set_cons_zero, set_cons_succ, getElem_toArray, getElem_cons_zero, getElem_cons_succ]
            refine tkY 2 rfl (v := ?_) (.inl ⟨by rfl, ?_⟩) ?_
            case refine_2 => intro w9 hSw; (try dsimp only at hSw); go_simp; (try with_reducible rfl)
            try simp only [Act.put, setIfInBounds_toArray, set_cons_zero, set_cons_succ, getElem_toArray, getElem_cons_zero, getElem_cons_succ]
            refine tkY 3 rfl (v := ?_) (.inl ⟨by rfl, ?_⟩) ?_
            case refine_2 => intro w9 hSw; (try dsimp only at hSw); have bp := av.out w9 T.text Y (by simp only [hSw]); rw [a1.out] at bp; go_simp; (try with_reducible rfl)
            try simp only [Act.put, setIfInBounds_toArray, set_cons_zero, set_cons_succ, getElem_toArray, getElem_cons_zero, getElem_cons_succ]
            refine tkY 4 rfl (v := ?_) (.inl ⟨by rfl, ?_⟩) ?_
            case refine_2 => intro w9 hSw; (try dsimp only at hSw); go_simp; (try with_reducible rfl)
            try simp only [Act.put, setIfInBounds_toArray, set_cons_zero, set_cons_succ, getElem_toArray, getElem_cons_zero, getElem_cons_succ]
            refine wpAnyH_ready (rs := [5]) (by kernel_rfl) (by simp) ?_
            refine (AllReadyH.cons rfl (fun K hK => ?_) AllReadyH.nil)
            go_simp
            (with_reducible refine (bz.out ar af.out).mono ?_)
            rintro e w32 ⟨rfl, HGr⟩
            clear hHeld
            go_wp2_with fail
            rw [j.out]
            exact ⟨rfl, exr_bad (hI (grown_tr ag.out HGr.out))⟩
          | ok T1 k1 =>
            have j := hI (show u = .ok (opE i [T1]) k1 from c.out)
            clear c
            have q := hI (below_dr B)
            have W := hI (C.out.belowW q.out)
            have X := hI (E5.out.belowW q.out)
            have af := hI (L.out.belowW q.out)
            have R := hI (X5.out.belowW q.out)
            have ag := hI (grown_tr s.out (grown_of (some g) q.out))
            refine wp_region_held_drew (S := fun w' => w'.cell? ⟨1, 0, none⟩ = some (.map (some bm)) ∧ w'.heap[bm]? = some (.map es ck) ∧ w'.cell? ⟨O, 1, none⟩ = some (.string ⟨T.text.toArray⟩)) (by kernel_rfl) ?_ (fun hHeld => ?_)
            case refine_1 => exact ⟨R.out.cell, R.out.heap, X.out.cell 1⟩
            obtain ⟨ar, ah⟩ := eX (B.drew)
            rw [← ah] at q W X af R ag hHeld ⊢
            clear ah
            refine tkY 0 rfl (v := ?_) (.inl ⟨by rfl, ?_⟩) ?_
            case refine_2 => intro w9 hSw; (try dsimp only at hSw); go_simp; (try with_reducible rfl)
            try simp only [Act.put, setIfInBounds_toArray, set_cons_zero, set_cons_succ, getElem_toArray, getElem_cons_zero]
            refine tkY 1 rfl (v := ?_) (.inl ⟨by rfl, ?_⟩) ?_
            case refine_2 => intro w9 hSw; (try dsimp only at hSw); go_simp; (try with_reducible rfl)
            try simp only [Act.put, setIfInBounds_toArray, set_cons_zero, set_cons_succ, getElem_toArray, getElem_cons_zero, getElem_cons_succ]
            refine tkY 2 rfl (v := ?_) (.inl ⟨by rfl, ?_⟩) ?_
            case refine_2 => intro w9 hSw; (try dsimp only at hSw); go_simp; (try with_reducible rfl)
            try simp only [Act.put, setIfInBounds_toArray, set_cons_zero, set_cons_succ, getElem_toArray, getElem_cons_zero, getElem_cons_succ]
            refine tkY 3 rfl (v := ?_) (.inl ⟨by rfl, ?_⟩) ?_
            case refine_2 => intro w9 hSw; (try dsimp only at hSw); have bp := av.out w9 T.text Y (by simp only [hSw]); rw [a1.out] at bp; go_simp; (try with_reducible rfl)
            try simp only [Act.put, setIfInBounds_toArray, set_cons_zero, set_cons_succ, getElem_toArray, getElem_cons_zero, getElem_cons_succ]
            refine tkY 4 rfl (v := ?_) (.inl ⟨by rfl, ?_⟩) ?_
            case refine_2 => intro w9 hSw; (try dsimp only at hSw); go_simp; (try with_reducible rfl)
            try simp only [Act.put, setIfInBounds_toArray, set_cons_zero, set_cons_succ, getElem_toArray, getElem_cons_zero, getElem_cons_succ]
            refine wpAnyH_ready (rs := [5]) (by kernel_rfl) (by simp) ?_
            refine (AllReadyH.cons rfl (fun K hK => ?_) AllReadyH.nil)
            go_simp
            (with_reducible refine (bz.out ar af.out).mono ?_)
            rintro e w32 ⟨v, rfl, HXr, HGr, HVr⟩
            have dg := hI (W.out.grown HGr.out U.out)
            have ci := hI (X.out.grown HGr.out c0.out)
            have dh := hI (HVr.out)
            have bq := hI (ak.out.belowW HVr.out.b)
            have di := hI (grown_tr ag.out HGr.out)
            go_wp2_with fail
            clear hHeld
            refine hK.out _ _ ?_ (fun hHeld => ?_)
            case refine_1 => exact ⟨bq.out.cell, bq.out.heap, ci.out.cell 1⟩
            clear hK K
            try simp only [setIfInBounds_toArray, set_cons_zero, set_cons_succ]
            refine wpAnyH_ready (rs := [6]) (by kernel_rfl) (by simp) ?_
            refine (AllReadyH.cons rfl (fun K hK => ?_) AllReadyH.nil)
            go_simp
            obtain ⟨br, hw⟩ := eX (w32.alloc (Obj.cells #[.int .i64 v.h.kind, .int .i64 v.h.n, .int .i64 v.h.d, .string v.h.name, .int .i64 v.h.k, .slice v.A v.len v.cap] 29))
            have ai := hI (show Below w32.heap.size w32 br by rw [hw]; exact below_box _ _)
            have bs := hI (dg.out.belowW ai.out)
            have cj := hI (ci.out.belowW ai.out)
            have cl := hI (dh.out.belowW ai.out)
            have cm := hI (bq.out.belowW ai.out)
            have dj := hI (grown_tr di.out (grown_of (some g) ai.out))
            have dk := hI (show InX ar.heap.size br (.mk ⟨i, 0, 0, ⟨#[]⟩, 0⟩ [T1]) ⟨⟨i, 0, 0, ⟨#[]⟩, 0⟩, some ⟨w32.heap.size, 0, none⟩, 1, 1⟩ by rw [hw]; exact inx_new1 w32 ⟨i, 0, 0, ⟨#[]⟩, 0⟩ cz.out T1 v _ HGr.out.size HXr.out)
            rw [← hw]
            clear hw
            clear hHeld
            refine hK.out _ _ ?_ (fun hHeld => ?_)
            case refine_1 => exact ⟨cm.out.cell, cm.out.heap, cj.out.cell 1⟩
            clear hK K
            try simp only [setIfInBounds_toArray, set_cons_zero, set_cons_succ]
            refine tkY 7 rfl (v := ?_) (.inl ⟨by rfl, ?_⟩) ?_
            case refine_2 => intro w9 hSw; (try dsimp only at hSw); go_simp; (try with_reducible rfl)
            try simp only [Act.put, setIfInBounds_toArray, set_cons_zero, set_cons_succ, getElem_toArray, getElem_cons_zero, getElem_cons_succ]
            refine wpAnyH_ready (rs := [8]) (by kernel_rfl) (by simp) ?_
            refine (AllReadyH.cons rfl (fun K hK => ?_) AllReadyH.nil)
            obtain ⟨dl, dm, dn, dp, dq, dr, ds, dt, du, dv, dw, dx⟩ := bs.out.all6
            go_simp
            rw [pst6 bs.out]
            clear dl dm dn dp dq dr ds dt du dv dw dx
            have cn := hI (cj.out.far (t' := 29) (Ne.symm c9) #[.int .i64 i, .int .i64 0, .int .i64 0, .string ⟨#[]⟩, .int .i64 0, .slice (some ⟨w32.heap.size, 0, none⟩) 1 1])
            have cp := hI (cl.out.far M V 29 #[.int .i64 i, .int .i64 0, .int .i64 0, .string ⟨#[]⟩, .int .i64 0, .slice (some ⟨w32.heap.size, 0, none⟩) 1 1])
            have bt := hI (ak.out.belowW (cl.out.far M V 29 #[.int .i64 i, .int .i64 0, .int .i64 0, .string ⟨#[]⟩, .int .i64 0, .slice (some ⟨w32.heap.size, 0, none⟩) 1 1]).b)
            have cq := hI (grown_new dj.out (Nat.le_refl _) 29 #[.int .i64 i, .int .i64 0, .int .i64 0, .string ⟨#[]⟩, .int .i64 0, .slice (some ⟨w32.heap.size, 0, none⟩) 1 1])
            have cr := hI (dk.out.far W.out.lt 29 #[.int .i64 i, .int .i64 0, .int .i64 0, .string ⟨#[]⟩, .int .i64 0, .slice (some ⟨w32.heap.size, 0, none⟩) 1 1])
            have cs := hI (bs.out.put #[.int .i64 i, .int .i64 0, .int .i64 0, .string ⟨#[]⟩, .int .i64 0, .slice (some ⟨w32.heap.size, 0, none⟩) 1 1])
            obtain ⟨d2, ct⟩ := eX (putB br (w.heap.size) 29 #[.int .i64 i, .int .i64 0, .int .i64 0, .string ⟨#[]⟩, .int .i64 0, .slice (some ⟨w32.heap.size, 0, none⟩) 1 1])
            rw [← ct] at cn cp bt cq cr cs ⊢
            clear ct hHeld
            refine hK.out _ _ ?_ (fun hHeld => ?_)
            case refine_1 => exact ⟨bt.out.cell, bt.out.heap, cn.out.cell 1⟩
            clear hK K
            try simp only [setIfInBounds_toArray, set_cons_zero, set_cons_succ]
            refine wpAnyH_done (by kernel_rfl) ?_ _
            obtain ⟨D, _, E, _, F, _, G, _, H, _, I, _⟩ := cs.out.all6
            go_wp2_with fail
            refine bodyPost_ret (v := .agg #[.int .i64 i, .int .i64 0, .int .i64 0, .string ⟨#[]⟩, .int .i64 0, .slice (some ⟨w32.heap.size, 0, none⟩) 1 1]) (by simp [results, Tryz.results158, go_sem, D, E, F, G, H, I]) rfl ?_
            rw [j.out]
            exact ⟨⟨⟨i, 0, 0, ⟨#[]⟩, 0⟩, some ⟨w32.heap.size, 0, none⟩, 1, 1⟩, rfl, hI (cr.out.weaken (Nat.le_of_lt W.out.lt)), cq, cp⟩
end Go.Proofs.YtkjoohnndobjeaaGreatDoor
