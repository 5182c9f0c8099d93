/-
  The walk of the parser's atoms.
-/
import Derived.Test.YtkjoohnndobjeaaGreatDoorQJ
set_option linter.unusedVariables false
set_option maxHeartbeats 4000000
set_option maxRecDepth 100000
namespace Go.Proofs.YtkjoohnndobjeaaGreatDoor
open Go.RowKit Go.Fl Go.Fl.Lx Go.Fl.Nm Go.Fl.Fm Go.Fl.Rt Go.Fl.Pa
open List (setIfInBounds_toArray set_cons_zero set_cons_succ getElem_toArray getElem_cons_zero getElem_cons_succ)
/-- A node over what a rule finds. -/
def opOne (kd : Int) (r : PR TE) : PR TE :=
  match r with
  | .ok e k1 => .ok (opE kd [e]) k1
  | r => r
/-- What an atom comes to, with what parentheses here (r0), and behind a function's name (r1), come to. -/
def atomR (nm : List UInt8 → Bool) (ts : List Tok) (k : Nat) (r0 r1 : PR TE) : PR TE :=
  if (tk ts k).kind = 2 then (numP ts k).map numE
  else if (tk ts k).kind = 1 ∧ nm (tk ts k).text = true then .ok (varE (tk ts k).text) (k + 1)
  else if (tk ts k).kind = 1 ∧ funK (tk ts k).text ≠ 0 then
    match r1 with
    | .ok e k1 => .ok (opE (funK (tk ts k).text) [e]) k1
    | r => r
  else r0
theorem atomP_eq (nm : List UInt8 → Bool) (ts : List Tok) (f k m : Nat) : atomP nm ts (f + 1) k m = atomR nm ts k (encP nm ts f k m) (encP nm ts f (k + 1) m) := by
 rw [atomP.eq_def]
 rfl
theorem funK_small (l : List UInt8) : 0 ≤ funK l ∧ funK l ≤ 13 := by
 unfold funK
 split
 ·
  omega
 split
 ·
  omega
 split
 ·
  omega
 split
 ·
  omega
 split <;> omega
theorem hd_var {s : List UInt8} (h : s.length ≤ 20) : HdOk ⟨2, 0, 0, ⟨s.toArray⟩, 0⟩ := by
 refine ⟨?_, ?_, ?_, ?_, ?_, ?_, ?_, ?_, ?_⟩ <;> first | decide | (simp only; omega) | (show s.toArray.size ≤ maxLen; rw [List.size_toArray]; exact Nat.le_trans h (by decide))
theorem hd_op {kd : Int} (h : 0 ≤ kd ∧ kd ≤ 13) : HdOk ⟨kd, 0, 0, ⟨#[]⟩, 0⟩ := by
 refine ⟨?_, ?_, ?_, ?_, ?_, ?_, ?_, ?_, Nat.zero_le _⟩ <;> simp only <;> omega

theorem pAtom {w0 w : World} {g : Nat} {A : Option Addr} {len cap : Nat} {ts : List Tok} {k m : Nat} (h : Env w0 g A len cap ts k m w) (hk : k ≤ 110000) (hR : RX w0) (hX : FX w0) (r0 r1 : PR TE) (hr0 : r0 ≠ .out) (hr1 : r1 ≠ .out)
 (K0 : ∀ w', Env w0 g A len cap ts k m w' → Calls Tryz.prog 176 #[.pointer (some ⟨g, 0, none⟩)] w' (ExR w0 g A len cap ts m r0 w'))
 (K1 : ∀ w', Env w0 g A len cap ts (k + 1) m w' → Calls Tryz.prog 176 #[.pointer (some ⟨g, 0, none⟩)] w' (ExR w0 g A len cap ts m r1 w')) :
 Calls Tryz.prog 158 #[.pointer (some ⟨g, 0, none⟩)] w (ExR w0 g A len cap ts m (atomR nameP ts k r0 r1) w) := by
 obtain ⟨bm, es, ck, bw, bx⟩ := hX
 have ak := hI bw
 have au := hI bx
 have al := hI K0
 have bz := hI K1
 obtain ⟨u, av⟩ := eX (atomR nameP ts k r0 r1)
 have l := hI av
 rw [← av]
 clear K0 K1 av bw bx
 go_enter Tryz.func158, Tryz.ntmps158
 go_upto_region 1 with (fail)
 obtain ⟨w1, b0, O1, F1⟩ := aX w 29 #[.int .i64 0, .int .i64 0, .int .i64 0, .string ⟨#[]⟩, .int .i64 0, .slice none 0 0]
 rw [← b0]
 clear b0
 have R := hI (show some w.heap.size ≠ some g from fun e => by have := h.gl; injection e with e; omega)
 have M : w.heap.size ≠ g := fun e => R.out (by rw [e])
 have U : w0.heap.size ≤ w.heap.size := h.b.size
 have cz : g < w.heap.size := h.gl
 have aw := hI (h.belowW O1.out)
 have hr1 : w.heap.size < w1.heap.size := F1.out.lt
 clear h
 have b5 := hI cz
 have KT := hI (aw.out.tok 0 (by omega))
 rw [Nat.add_zero] at KT
 have Y : (tk ts k).text.length ≤ 100 := (aw.out.t.tk k).1
 have ay : ((⟨(tk ts k).text.toArray⟩ : ByteArray)).size ≤ maxLen := Nat.le_trans (show (tk ts k).text.toArray.size ≤ 100 by rw [List.size_toArray]; exact Y) (by decide)
 have b6 := hI (show nameR ts k = if (tk ts k).kind = 1 ∧ nameP (tk ts k).text = true then .ok (tk ts k).text (k + 1) else unex ts k from rfl)
 unfold atomR at l
 obtain ⟨T, b7⟩ := eX (tk ts k)
 rw [← b7] at KT l ay Y b6
 obtain ⟨b2, c0⟩ : ∃ b, ((T.kind : Int) == 2) = b := ⟨_, rfl⟩
 obtain ⟨b1, c1⟩ : ∃ b, ((T.kind : Int) == 1) = b := ⟨_, rfl⟩
 obtain ⟨bn, am⟩ : ∃ b, nameP T.text = b := ⟨_, rfl⟩
 obtain ⟨i, an⟩ : ∃ z, funK T.text = z := ⟨_, rfl⟩
 have az := hI an
 have c3 := hI (hd_op (by have := funK_small T.text; rw [an] at this; exact this))
 have cb : (T.kind = 2) ↔ b2 = true := by rw [← c0, beq_iff_eq]; omega
 have cc : (T.kind = 1) ↔ b1 = true := by rw [← c1, beq_iff_eq]; omega
 rw [am, an] at l
 have Z := hI cb
 have aa := hI cc
 have cd := hI am
 have x := hI (fun w' => name_any ⟨T.text.toArray⟩ w' ay)
 have hl : (⟨T.text.toArray⟩ : ByteArray).data.toList = T.text := rfl
 rw [hl, am] at x
 clear b7 am cb cc hl ay an
 go_wp2_with fail
 refine KT.out.mono ?_
 rintro e w2 ⟨rfl, ao⟩
 have dy := ao.out.size
 go_upto_region 2 with (fail)
 obtain ⟨o, cf, a0, E3⟩ := aX w2 58 #[.int .i64 T.kind, .string ⟨T.text.toArray⟩, .int .i64 T.line, .int .i64 T.col]
 rw [← cf]
 clear cf
 have y := hI ((aw.out.belowW ao.out).belowW a0.out)
 have N := hI ((F1.out.belowW ao.out).belowW a0.out)
 have J := hI (grown_tr (grown_of (some g) O1.out) (grown_tr (grown_of (some g) ao.out) (grown_of (some g) a0.out)))
 have X3 := hI (ak.out.belowW y.out.b)
 obtain ⟨O, a1⟩ := eX (w2.heap.size)
 have dz : w.heap.size < O := by omega
 have d0 : O < o.heap.size := by rw [a1]; exact E3.out.lt
 have c4 := hI (show some O ≠ some g from fun e => by have := b5.out; injection e with e; omega)
 rw [← a1] at E3 ⊢
 clear a1
 have q0 := E3.out.cell 0
 have q1 := E3.out.cell 1
 simp only [List.getElem?_toArray, List.getElem?_cons_zero, List.getElem?_cons_succ] at q0 q1
 cases b2 with
 | true =>
  have c := hI (show u = (numP ts k).map numE by rw [l.out, if_pos (Z.out.2 rfl)]); clear l; have x := hI (pNumber y.out (by omega) hR)
  cases hq : numP ts k with
  | out => exact (numP_out hq).elim
  | bad ln co er =>
   have j := hI (show u = .bad ln co er by rw [c.out, hq]; rfl); rw [hq] at x; clear hq c
   go_wp2_with fail
   refine x.out.mono ?_
   rintro e B ⟨rfl, s⟩
   go_wp2_with fail
   rw [j.out]
   exact ⟨rfl, exr_bad (hI (grown_tr J.out s.out))⟩
  | ok a k1 =>
   have j := hI (show u = .ok (numE a) k1 by rw [c.out, hq]; rfl); have a2 := hd_num (numP_small2 hq); rw [hq] at x; clear hq c; obtain ⟨n, d⟩ := a
   go_wp2_with fail
   refine x.out.mono ?_
   rintro e B ⟨rfl, s, L⟩
   go_wp2_with fail
   refine (pNum (n, d) B).mono ?_
   rintro e w6 ⟨rfl, a3⟩; have F6 := hI ((N.out.grown s.out R.out).belowW a3.out); simp only [ndR, Nd.val]; obtain ⟨r0, h0, r1, h1, r2, h2, r3, h3, r4, h4, r5, h5⟩ := F6.out.all6
   go_wp2_with fail
   rw [pst6 F6.out]; obtain ⟨C, _, D, _, E, _, F, _, G, _, H, _⟩ := (F6.out.put #[.int .i64 1, .int .i64 n, .int .i64 d, .string ⟨#[]⟩, .int .i64 0, .slice none 0 0]).all6
   refine bodyPost_ret (v := .agg #[.int .i64 1, .int .i64 n, .int .i64 d, .string ⟨#[]⟩, .int .i64 0, .slice none 0 0]) (by simp [results, Tryz.results158, go_sem, C, D, E, F, G, H]) rfl ?_
   rw [j.out]
   exact ⟨ndR (n, d), rfl, hI (inx_leaf _ _ _ a2), hI (grown_new (grown_tr J.out (grown_tr s.out (grown_of (some g) a3.out))) (Nat.le_refl _) _ _), hI ((L.out.belowW a3.out).far M U _ _)⟩
 | false =>
  cases b1 with
  | false =>
   have c := hI (show u = r0 by
    rw [l.out, if_neg (fun e => by have := Z.out.1 e; cases this), if_neg (fun e => by have := aa.out.1 e.1; cases this), if_neg (fun e => by have := aa.out.1 e.1; cases this)])
   clear l; obtain ⟨r, ac⟩ := eX (r0); rw [← ac] at al c hr0; have j := c; have hr := hr0; clear ac hr0 c; have KC := hI (al.out o y.out); have c7 : g < o.heap.size := y.out.gl; have ae : w.heap.size < o.heap.size := N.out.lt
   cases r with
   | out => exact (hr rfl).elim
   | bad ln co er =>
    go_wp2_with fail
    refine KC.out.mono ?_
    rintro e w7 ⟨rfl, I⟩
    go_wp2_with fail
    rw [j.out]
    exact ⟨rfl, exr_bad (hI (grown_tr J.out I.out))⟩
   | ok T k1 =>
    go_wp2_with fail
    refine KC.out.mono ?_
    rintro e w7 ⟨v, rfl, bh, I, bi⟩; have P := hI (N.out.grown I.out R.out); obtain ⟨r0, h0, r1, h1, r2, h2, r3, h3, r4, h4, r5, h5⟩ := P.out.all6
    go_wp2_with fail
    rw [pst6 P.out]; obtain ⟨C, _, D, _, E, _, F, _, G, _, H, _⟩ := (P.out.put #[.int .i64 v.h.kind, .int .i64 v.h.n, .int .i64 v.h.d, .string v.h.name, .int .i64 v.h.k, .slice v.A v.len v.cap]).all6
    refine bodyPost_ret (v := .agg #[.int .i64 v.h.kind, .int .i64 v.h.n, .int .i64 v.h.d, .string v.h.name, .int .i64 v.h.k, .slice v.A v.len v.cap]) (by simp [results, Tryz.results158, go_sem, C, D, E, F, G, H]) rfl ?_
    rw [j.out]
    exact ⟨v, rfl, hI ((bh.out.far ae _ _).weaken (Nat.le_of_lt ae)), hI (grown_new (hI (grown_tr J.out I.out)).out (Nat.le_refl _) _ _), hI (bi.out.far M U _ _)⟩
  | true =>
   cases bn with
   | true =>
    have j := hI (show u = .ok (varE T.text) (k + 1) by
     rw [l.out, if_neg (fun e => by have := Z.out.1 e; cases this), if_pos ⟨aa.out.2 rfl, rfl⟩])
    have c8 := hI (show nameR ts k = .ok T.text (k + 1) by rw [b6.out, if_pos ⟨aa.out.2 rfl, cd.out⟩]); clear l
    go_wp2_with fail
    refine (x.out _).mono ?_
    rintro e w4 ⟨rfl, rfl⟩; have KM := hI (pName y.out hk); have a2 := hd_var (nameP_len cd.out); rw [c8.out] at KM
    go_wp2_with fail
    refine KM.out.mono ?_
    rintro e B ⟨rfl, s, L⟩; have V := hI (N.out.grown s.out R.out); obtain ⟨r0, h0, r1, h1, r2, h2, r3, h3, r4, h4, r5, h5⟩ := V.out.all6
    go_wp2_with fail
    rw [pst6 V.out]; obtain ⟨C, _, D, _, E, _, F, _, G, _, H, _⟩ := (V.out.put #[.int .i64 2, .int .i64 0, .int .i64 0, .string ⟨T.text.toArray⟩, .int .i64 0, .slice none 0 0]).all6
    refine bodyPost_ret (v := .agg #[.int .i64 2, .int .i64 0, .int .i64 0, .string ⟨T.text.toArray⟩, .int .i64 0, .slice none 0 0]) (by simp [results, Tryz.results158, go_sem, C, D, E, F, G, H]) rfl ?_
    rw [j.out]
    exact ⟨⟨⟨2, 0, 0, ⟨T.text.toArray⟩, 0⟩, none, 0, 0⟩, rfl, hI (inx_leaf _ _ _ a2), hI (grown_new (grown_tr J.out s.out) (Nat.le_refl _) _ _), hI (L.out.far M U _ _)⟩
   | false =>
    have c9 := X3.out.cell; have ci := au.out o T.text Y X3.out.heap; rw [az.out] at ci
    obtain ⟨bf, ap⟩ : ∃ b, (i != 0) = b := ⟨_, rfl⟩
    cases bf with
    | false =>
     have c := hI (show u = r0 by
      rw [l.out, if_neg (fun e => by have := Z.out.1 e; cases this), if_neg (fun e => by cases e.2), if_neg (fun e => by rw [bne_eq_false_iff_eq] at ap; exact e.2 ap)])
     clear l
     go_wp2_with fail
     refine (x.out _).mono ?_
     rintro e w4 ⟨rfl, rfl⟩; obtain ⟨r, ac⟩ := eX (r0); rw [← ac] at al c hr0; have j := c; have hr := hr0; clear ac hr0 c; have KC := hI (al.out o y.out); have c7 : g < o.heap.size := y.out.gl; have ae : w.heap.size < o.heap.size := N.out.lt
     cases r with
     | out => exact (hr rfl).elim
     | bad ln co er =>
      go_wp2_with fail
      refine KC.out.mono ?_
      rintro e w7 ⟨rfl, I⟩
      go_wp2_with fail
      rw [j.out]
      exact ⟨rfl, exr_bad (hI (grown_tr J.out I.out))⟩
     | ok T k1 =>
      go_wp2_with fail
      refine KC.out.mono ?_
      rintro e w7 ⟨v, rfl, bh, I, bi⟩; have P := hI (N.out.grown I.out R.out); obtain ⟨r0, h0, r1, h1, r2, h2, r3, h3, r4, h4, r5, h5⟩ := P.out.all6
      go_wp2_with fail
      rw [pst6 P.out]; obtain ⟨C, _, D, _, E, _, F, _, G, _, H, _⟩ := (P.out.put #[.int .i64 v.h.kind, .int .i64 v.h.n, .int .i64 v.h.d, .string v.h.name, .int .i64 v.h.k, .slice v.A v.len v.cap]).all6
      refine bodyPost_ret (v := .agg #[.int .i64 v.h.kind, .int .i64 v.h.n, .int .i64 v.h.d, .string v.h.name, .int .i64 v.h.k, .slice v.A v.len v.cap]) (by simp [results, Tryz.results158, go_sem, C, D, E, F, G, H]) rfl ?_
      rw [j.out]
      exact ⟨v, rfl, hI ((bh.out.far ae _ _).weaken (Nat.le_of_lt ae)), hI (grown_new (hI (grown_tr J.out I.out)).out (Nat.le_refl _) _ _), hI (bi.out.far M U _ _)⟩
    | true =>
     have c := hI (show u = opOne i r1 by
      rw [l.out, if_neg (fun e => by have := Z.out.1 e; cases this), if_neg (fun e => by cases e.2), if_pos ⟨aa.out.2 rfl, fun e => by rw [bne_iff_ne] at ap; exact ap e⟩]; rfl)
     clear l
     go_wp2_with fail
     refine (x.out _).mono ?_
     rintro e w4 ⟨rfl, rfl⟩; have e1 : IntKind.i64.wrap ((k : Int) + 1) = (k : Int) + 1 := (by rw [IntKind.wrap_i64]; omega)
     have db : O ≠ g := fun e => by have := b5.out; omega
     have dc : w.heap.size ≠ O := (by omega); have HP := hI (show Blk o g 140 #[.slice A len cap, .int .i64 (k : Nat), .int .i64 (m : Nat)] from y.out.p); obtain ⟨p0, f0, p1, f1, p2, f2⟩ := HP.out.all3
     go_upto_region 8 with (fail)
     rw [HP.out.setCell_eq]; have L := hI (y.out.put (k + 1) m (by omega)); have E5 := hI (E3.out.far (t' := 140) db #[.slice A len cap, .int .i64 ((k + 1 : Nat) : Int), .int .i64 (m : Nat)]); have V := hI (N.out.far (t' := 140) M #[.slice A len cap, .int .i64 ((k + 1 : Nat) : Int), .int .i64 (m : Nat)]); have s := hI (grown_tr J.out (putB_grown o g 140 #[.slice A len cap, .int .i64 ((k + 1 : Nat) : Int), .int .i64 (m : Nat)])); have X5 := hI (ak.out.belowW L.out.b); obtain ⟨B, bo⟩ := eX (putB o g 140 #[.slice A len cap, .int .i64 ((k + 1 : Nat) : Int), .int .i64 (m : Nat)]); have cj : putB o g 140 ((#[.slice A len cap, .int .i64 (k : Nat), .int .i64 (m : Nat)] : Array Value).setIfInBounds 1 (.int .i64 ((k : Int) + 1))) = B := (by rw [bo]; rfl); rw [← bo] at L E5 V s X5; rw [cj]; clear bo cj p0 f0 p1 f1 p2 f2 HP c9 ci
     cases r1 with
     | out => exact (hr1 rfl).elim
     | bad ln co er =>
      have j := hI (show u = .bad ln co er from c.out); clear c; have q := hI (below_dr B); have W := E5.out.b9 q; have af := L.out.b9 q; have Q := X5.out.b9 q; have ag := hI (grown_tr s.out (grown_of (some g) q.out))
      refine wp_region_held_drew (S := fun w' => w'.cell? ⟨1, 0, none⟩ = some (.map (some bm)) ∧ w'.heap[bm]? = some (.map es ck) ∧ w'.cell? ⟨O, 1, none⟩ = some (.string ⟨T.text.toArray⟩)) (by kernel_rfl) ?_ (fun hHeld => ?_)
      case refine_1 => exact ⟨Q.out.cell, Q.out.heap, W.out.cell 1⟩
      obtain ⟨aq, ah⟩ := eX (B.drew); rw [← ah] at q W af Q ag hHeld ⊢; clear ah
      refine tkY 0 rfl (v := ?_) (.inl ⟨by rfl, ?_⟩) ?_
      case refine_2 => intro w9 hSw; (try dsimp only at hSw); go_simp; (try with_reducible rfl)
      try simp only [Act.put, setIfInBounds_toArray, set_cons_zero, set_cons_succ, getElem_toArray, getElem_cons_zero]
      refine tkY 1 rfl (v := ?_) (.inl ⟨by rfl, ?_⟩) ?_
      case refine_2 => intro w9 hSw; (try dsimp only at hSw); go_simp; (try with_reducible rfl)
      try simp only [Act.put, setIfInBounds_toArray, set_cons_zero, set_cons_succ, getElem_toArray, getElem_cons_zero, getElem_cons_succ]
      refine tkY 2 rfl (v := ?_) (.inl ⟨by rfl, ?_⟩) ?_
      case refine_2 => intro w9 hSw; (try dsimp only at hSw); go_simp; (try with_reducible rfl)
      try simp only [Act.put, setIfInBounds_toArray, set_cons_zero, set_cons_succ, getElem_toArray, getElem_cons_zero, getElem_cons_succ]
      refine tkY 3 rfl (v := ?_) (.inl ⟨by rfl, ?_⟩) ?_
      case refine_2 => intro w9 hSw; (try dsimp only at hSw); have bp := au.out w9 T.text Y (by simp only [hSw]); rw [az.out] at bp; go_simp; (try with_reducible rfl)
      try simp only [Act.put, setIfInBounds_toArray, set_cons_zero, set_cons_succ, getElem_toArray, getElem_cons_zero, getElem_cons_succ]
      refine tkY 4 rfl (v := ?_) (.inl ⟨by rfl, ?_⟩) ?_
      case refine_2 => intro w9 hSw; (try dsimp only at hSw); go_simp; (try with_reducible rfl)
      try simp only [Act.put, setIfInBounds_toArray, set_cons_zero, set_cons_succ, getElem_toArray, getElem_cons_zero, getElem_cons_succ]
      refine wpAnyH_ready (rs := [5]) (by kernel_rfl) (by simp) ?_
      refine (AllReadyH.cons rfl (fun K hK => ?_) AllReadyH.nil)
      go_simp
      (with_reducible refine (bz.out aq af.out).mono ?_)
      rintro e w32 ⟨rfl, X⟩; clear hHeld
      go_wp2_with fail
      rw [j.out]
      exact ⟨rfl, exr_bad (hI (grown_tr ag.out X.out))⟩
     | ok T1 k1 =>
      have j := hI (show u = .ok (opE i [T1]) k1 from c.out); clear c; have q := hI (below_dr B); have ar := V.out.b9 q; have W := E5.out.b9 q; have af := L.out.b9 q; have Q := X5.out.b9 q; have ag := hI (grown_tr s.out (grown_of (some g) q.out))
      refine wp_region_held_drew (S := fun w' => w'.cell? ⟨1, 0, none⟩ = some (.map (some bm)) ∧ w'.heap[bm]? = some (.map es ck) ∧ w'.cell? ⟨O, 1, none⟩ = some (.string ⟨T.text.toArray⟩)) (by kernel_rfl) ?_ (fun hHeld => ?_)
      case refine_1 => exact ⟨Q.out.cell, Q.out.heap, W.out.cell 1⟩
      obtain ⟨aq, ah⟩ := eX (B.drew); rw [← ah] at q ar W af Q ag hHeld ⊢; clear ah
      refine tkY 0 rfl (v := ?_) (.inl ⟨by rfl, ?_⟩) ?_
      case refine_2 => intro w9 hSw; (try dsimp only at hSw); go_simp; (try with_reducible rfl)
      try simp only [Act.put, setIfInBounds_toArray, set_cons_zero, set_cons_succ, getElem_toArray, getElem_cons_zero]
      refine tkY 1 rfl (v := ?_) (.inl ⟨by rfl, ?_⟩) ?_
      case refine_2 => intro w9 hSw; (try dsimp only at hSw); go_simp; (try with_reducible rfl)
      try simp only [Act.put, setIfInBounds_toArray, set_cons_zero, set_cons_succ, getElem_toArray, getElem_cons_zero, getElem_cons_succ]
      refine tkY 2 rfl (v := ?_) (.inl ⟨by rfl, ?_⟩) ?_
      case refine_2 => intro w9 hSw; (try dsimp only at hSw); go_simp; (try with_reducible rfl)
      try simp only [Act.put, setIfInBounds_toArray, set_cons_zero, set_cons_succ, getElem_toArray, getElem_cons_zero, getElem_cons_succ]
      refine tkY 3 rfl (v := ?_) (.inl ⟨by rfl, ?_⟩) ?_
      case refine_2 => intro w9 hSw; (try dsimp only at hSw); have bp := au.out w9 T.text Y (by simp only [hSw]); rw [az.out] at bp; go_simp; (try with_reducible rfl)
      try simp only [Act.put, setIfInBounds_toArray, set_cons_zero, set_cons_succ, getElem_toArray, getElem_cons_zero, getElem_cons_succ]
      refine tkY 4 rfl (v := ?_) (.inl ⟨by rfl, ?_⟩) ?_
      case refine_2 => intro w9 hSw; (try dsimp only at hSw); go_simp; (try with_reducible rfl)
      try simp only [Act.put, setIfInBounds_toArray, set_cons_zero, set_cons_succ, getElem_toArray, getElem_cons_zero, getElem_cons_succ]
      refine wpAnyH_ready (rs := [5]) (by kernel_rfl) (by simp) ?_
      refine (AllReadyH.cons rfl (fun K hK => ?_) AllReadyH.nil)
      go_simp
      (with_reducible refine (bz.out aq af.out).mono ?_)
      rintro e w32 ⟨v, rfl, dj, X, cl⟩; have cm := hI (W.out.grown X.out c4.out); have bq := hI (ak.out.belowW cl.out.b)
      go_wp2_with fail
      clear hHeld
      refine hK.out _ _ ?_ (fun hHeld => ?_)
      case refine_1 => exact ⟨bq.out.cell, bq.out.heap, cm.out.cell 1⟩
      clear hK K
      try simp only [setIfInBounds_toArray, set_cons_zero, set_cons_succ]
      refine wpAnyH_ready (rs := [6]) (by kernel_rfl) (by simp) ?_
      refine (AllReadyH.cons rfl (fun K hK => ?_) AllReadyH.nil)
      go_simp
      obtain ⟨cn, hw, ai, _⟩ := aX w32 29 #[.int .i64 v.h.kind, .int .i64 v.h.n, .int .i64 v.h.d, .string v.h.name, .int .i64 v.h.k, .slice v.A v.len v.cap]; have bs := hI ((ar.out.grown X.out R.out).belowW ai.out); have cp := cm.out.b9 ai; have cq := hI ((cl.out).belowW ai.out); have cr := bq.out.b9 ai; have dk := hI (show InX aq.heap.size cn (.mk ⟨i, 0, 0, ⟨#[]⟩, 0⟩ [T1]) ⟨⟨i, 0, 0, ⟨#[]⟩, 0⟩, some ⟨w32.heap.size, 0, none⟩, 1, 1⟩ by rw [hw]; exact inx_new1 w32 ⟨i, 0, 0, ⟨#[]⟩, 0⟩ c3.out T1 v _ X.out.size dj.out); rw [← hw]; clear hw; clear hHeld
      refine hK.out _ _ ?_ (fun hHeld => ?_)
      case refine_1 => exact ⟨cr.out.cell, cr.out.heap, cp.out.cell 1⟩
      clear hK K
      try simp only [setIfInBounds_toArray, set_cons_zero, set_cons_succ]
      refine tkY 7 rfl (v := ?_) (.inl ⟨by rfl, ?_⟩) ?_
      case refine_2 => intro w9 hSw; (try dsimp only at hSw); go_simp; (try with_reducible rfl)
      try simp only [Act.put, setIfInBounds_toArray, set_cons_zero, set_cons_succ, getElem_toArray, getElem_cons_zero, getElem_cons_succ]
      refine wpAnyH_ready (rs := [8]) (by kernel_rfl) (by simp) ?_
      refine (AllReadyH.cons rfl (fun K hK => ?_) AllReadyH.nil)
      obtain ⟨dl, dm, dn, dp, dq, dr, ds, dt, du, dv, dw, dx⟩ := bs.out.all6
      go_simp
      rw [pst6 bs.out]; clear dl dm dn dp dq dr ds dt du dv dw dx; have cs := hI (cp.out.far (t' := 29) (Ne.symm dc) #[.int .i64 i, .int .i64 0, .int .i64 0, .string ⟨#[]⟩, .int .i64 0, .slice (some ⟨w32.heap.size, 0, none⟩) 1 1]); have ct := hI (cq.out.far M U 29 #[.int .i64 i, .int .i64 0, .int .i64 0, .string ⟨#[]⟩, .int .i64 0, .slice (some ⟨w32.heap.size, 0, none⟩) 1 1]); have bt := hI (ak.out.belowW (cq.out.far M U 29 #[.int .i64 i, .int .i64 0, .int .i64 0, .string ⟨#[]⟩, .int .i64 0, .slice (some ⟨w32.heap.size, 0, none⟩) 1 1]).b); have cu := hI (grown_new (grown_tr (grown_tr ag.out X.out) (grown_of (some g) ai.out)) (Nat.le_refl _) 29 #[.int .i64 i, .int .i64 0, .int .i64 0, .string ⟨#[]⟩, .int .i64 0, .slice (some ⟨w32.heap.size, 0, none⟩) 1 1]); have cv := hI (dk.out.far ar.out.lt 29 #[.int .i64 i, .int .i64 0, .int .i64 0, .string ⟨#[]⟩, .int .i64 0, .slice (some ⟨w32.heap.size, 0, none⟩) 1 1]); have cw := hI (bs.out.put #[.int .i64 i, .int .i64 0, .int .i64 0, .string ⟨#[]⟩, .int .i64 0, .slice (some ⟨w32.heap.size, 0, none⟩) 1 1]); obtain ⟨d2, cx⟩ := eX (putB cn (w.heap.size) 29 #[.int .i64 i, .int .i64 0, .int .i64 0, .string ⟨#[]⟩, .int .i64 0, .slice (some ⟨w32.heap.size, 0, none⟩) 1 1]); rw [← cx] at cs ct bt cu cv cw ⊢; clear cx hHeld
      refine hK.out _ _ ?_ (fun hHeld => ?_)
      case refine_1 => exact ⟨bt.out.cell, bt.out.heap, cs.out.cell 1⟩
      clear hK K
      try simp only [setIfInBounds_toArray, set_cons_zero, set_cons_succ]
      refine wpAnyH_done (by kernel_rfl) ?_ _
      obtain ⟨C, _, D, _, E, _, F, _, G, _, H, _⟩ := cw.out.all6
      go_wp2_with fail
      refine bodyPost_ret (v := .agg #[.int .i64 i, .int .i64 0, .int .i64 0, .string ⟨#[]⟩, .int .i64 0, .slice (some ⟨w32.heap.size, 0, none⟩) 1 1]) (by simp [results, Tryz.results158, go_sem, C, D, E, F, G, H]) rfl ?_
      rw [j.out]
      exact ⟨⟨⟨i, 0, 0, ⟨#[]⟩, 0⟩, some ⟨w32.heap.size, 0, none⟩, 1, 1⟩, rfl, hI (cv.out.weaken (Nat.le_of_lt ar.out.lt)), cu, ct⟩
end Go.Proofs.YtkjoohnndobjeaaGreatDoor
