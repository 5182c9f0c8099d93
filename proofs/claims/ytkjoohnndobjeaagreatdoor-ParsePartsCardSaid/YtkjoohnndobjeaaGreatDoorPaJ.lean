/-
 The walk of the parser's factors.
-/
import Derived.Test.YtkjoohnndobjeaaGreatDoorPaI
set_option linter.unusedVariables false
set_option maxHeartbeats 4000000
set_option maxRecDepth 100000
namespace Go.Proofs.YtkjoohnndobjeaaGreatDoor
open Go.RowKit Go.Fl Go.Fl.Lx Go.Fl.Nm Go.Fl.Fm Go.Fl.Rt Go.Fl.Pa
open List (setIfInBounds_toArray set_cons_zero set_cons_succ getElem_toArray getElem_cons_zero getElem_cons_succ)
/-- What a factor comes to, with what a factor behind a sign (r1), and an atom (r2), come to. -/
def factorR (ts : List Tok) (k m : Nat) (r1 r2 : PR TE) : PR TE :=
 if (tk ts (k + signP ts k)).kind = 2 ∧ isS false ts (k + signP ts k + 1) [94] = false then (numP ts k).map numE
 else if signP ts k = 1 then
  if m = 100 then failP ts k 5
  else
   match r1 with
   | .ok e k1 => .ok (opE 7 [e]) k1
   | r => r
 else
  match r2 with
  | .ok e k1 =>
   if isS false ts k1 [94] then
    if integerP ts (k1 + 1) = false then unex ts (k1 + 1)
    else if 16 < powV (tk ts (k1 + 1)).text then failP ts (k1 + 1) 2
    else .ok (powE (powV (tk ts (k1 + 1)).text) e) (k1 + 2)
   else .ok e k1
  | r => r
theorem factorP_eq (nm : List UInt8 → Bool) (ts : List Tok) (f k m : Nat) : factorP nm ts (f + 1) k m = factorR ts k m (factorP nm ts f (k + 1) (m + 1)) (atomP nm ts f k m) := by
 rw [factorP.eq_def]
 rfl
/-- Number tokens are digits and points. -/
def DigTs (ts : List Tok) : Prop := ∀ k, (tk ts k).kind = 2 → ∀ c ∈ (tk ts k).text, c.toNat = 46 ∨ (48 ≤ c.toNat ∧ c.toNat ≤ 57)
theorem int_digits {ts : List Tok} {k : Nat} (h : DigTs ts) (hi : integerP ts k = true) : ∀ c ∈ (tk ts k).text, 48 ≤ c.toNat ∧ c.toNat ≤ 57 := by
 unfold integerP at hi
 rw [Bool.and_eq_true, beq_iff_eq, Bool.not_eq_true'] at hi
 intro c hc
 rcases h k hi.1 c hc with e | e
 ·
  exfalso
  have h46 : c = 46 := UInt8.toNat_inj.1 e
  rw [h46] at hc
  rw [Bool.eq_false_iff] at hi
  exact hi.2 (List.contains_iff_mem.2 hc)
 ·
  exact e
theorem powV_app (l : List UInt8) (b : UInt8) : powV (l ++ [b]) = min (10 * powV l + (b.toNat - 48)) 17 := by simp [powV]
theorem powV_le (l : List UInt8) : powV l ≤ 17 := by
 rcases List.eq_nil_or_concat l with rfl | ⟨a, b, rfl⟩
 ·
  exact Nat.zero_le _
 ·
  rw [List.concat_eq_append, powV_app]; omega
theorem hd_pow {v : Nat} (h : v ≤ 16) : HdOk ⟨8, 0, 0, ⟨#[]⟩, v⟩ := by
 refine ⟨?_, ?_, ?_, ?_, ?_, ?_, ?_, ?_, Nat.zero_le _⟩ <;> simp only <;> omega

theorem pFactor {w0 w : World} {g : Nat} {A : Option Addr} {len cap : Nat} {ts : List Tok} {k m : Nat} (h : Env w0 g A len cap ts k m w) (hk : k ≤ 105000) (hm : m ≤ 100) (hR : RX w0) (hD : DigTs ts) (r1 r2 : PR TE) (hro1 : signP ts k = 1 → r1 ≠ .out) (hr2 : r2 ≠ .out) (hrk : ∀ T k1, r2 = .ok T k1 → k1 ≤ 105000)
  (K1 : signP ts k = 1 → m ≠ 100 → ∀ w', Env w0 g A len cap ts (k + 1) (m + 1) w' → Calls Tryz.prog 126 #[.pointer (some ⟨g, 0, none⟩)] w' (ExR w0 g A len cap ts (m + 1) r1 w'))
  (K2 : ∀ w', Env w0 g A len cap ts k m w' → Calls Tryz.prog 158 #[.pointer (some ⟨g, 0, none⟩)] w' (ExR w0 g A len cap ts m r2 w')) :
  Calls Tryz.prog 126 #[.pointer (some ⟨g, 0, none⟩)] w (ExR w0 g A len cap ts m (factorR ts k m r1 r2) w) := by
 have ax := hI K1
 have dx := hI K2
 obtain ⟨x, cq⟩ := eX (factorR ts k m r1 r2)
 have E := hI cq
 rw [← cq]
 clear K1 K2 cq
 go_enter Tryz.func126, Tryz.ntmps126
 go_upto_region 1 with (fail)
 obtain ⟨w1, cj⟩ := eX (w.alloc (Obj.cells #[.int .i64 0, .int .i64 0, .int .i64 0, .string ⟨#[]⟩, .int .i64 0, .slice none 0 0] 29))
 have O1 := hI (show Below w.heap.size w w1 by rw [cj]; exact below_box _ _)
 have F1 := hI (show Blk w1 w.heap.size 29 #[.int .i64 0, .int .i64 0, .int .i64 0, .string ⟨#[]⟩, .int .i64 0, .slice none 0 0] by rw [cj]; exact Blk.new _ _ _)
 rw [← cj]
 clear cj
 have ae := hI (show some w.heap.size ≠ some g from fun e => by have := h.gl; injection e with e; omega)
 have ap : w.heap.size ≠ g := fun e => ae.out (by rw [e])
 have ay : w0.heap.size ≤ w.heap.size := h.b.size
 have em : g < w.heap.size := h.gl
 have d0 := hI (h.belowW O1.out)
 have d7 := hI (grown_of (some g) O1.out)
 have en : w.heap.size < w1.heap.size := F1.out.lt
 clear h
 unfold factorR at E
 have d8 := signP_le ts k
 obtain ⟨s, d2⟩ := eX (signP ts k)
 have KS := hI (pSign d0.out)
 rw [← d2] at KS E ax hro1 d8
 clear d2
 go_wp2_with fail
 refine KS.out.mono ?_
 rintro e w2 ⟨rfl, HB2⟩
 have cs := hI (d0.out.belowW HB2.out)
 have F2 := hI (F1.out.belowW HB2.out)
 have ea := hI (grown_tr d7.out (grown_of (some g) HB2.out))
 have KT := hI (cs.out.tok s (by omega))
 obtain ⟨T, d4⟩ := eX (tk ts (k + s))
 rw [← d4] at KT E
 obtain ⟨b2, eb⟩ : ∃ b, ((T.kind : Int) == 2) = b := ⟨_, rfl⟩
 have J := hI (show (T.kind = 2) ↔ b2 = true by rw [← eb, beq_iff_eq]; omega)
 obtain ⟨c, hc⟩ : ∃ c, isS false ts (k + (s + 1)) [94] = c := ⟨_, rfl⟩
 rw [Nat.add_assoc k s 1, hc] at E
 have e1 : IntKind.i64.wrap ((s : Int) + 1) = (s : Int) + 1 := by rw [IntKind.wrap_i64]; omega
 obtain ⟨bs, ec⟩ : ∃ b, ((s : Int) == 1) = b := ⟨_, rfl⟩
 have cl := hI (show (s = 1) ↔ bs = true by rw [← ec, beq_iff_eq]; omega)
 have KU := hI (fun (w3 : World) (hb : Below w2.heap.size w2 w3) => pIs (cs.out.belowW hb) (s + 1) (by omega) ⟨#[94]⟩)
 rw [show kwP (⟨#[94]⟩ : ByteArray).data.toList = false by decide, show (⟨#[94]⟩ : ByteArray).data.toList = [94] from rfl, hc] at KU
 clear d4 hc
 go_wp2_with fail
 refine KT.out.mono ?_
 rintro e w3 ⟨rfl, HB3⟩
 have hF := tokF0 T
 have cm := hI (cs.out.belowW HB3.out)
 have F3 := hI (F2.out.belowW HB3.out)
 have bu := hI (grown_tr ea.out (grown_of (some g) HB3.out))
 cases b2 with
 | true =>
  go_wp2_with fail
  refine (KU.out w3 HB3.out).mono ?_
  rintro e w4 ⟨rfl, HB4⟩
  have cn := hI (cm.out.belowW HB4.out)
  have F4 := hI (F3.out.belowW HB4.out)
  have bq := hI (grown_tr bu.out (grown_of (some g) HB4.out))
  cases c with
  | false =>
   have j := hI (show x = (numP ts k).map numE by rw [E.out, if_pos ⟨J.out.2 (by first | rfl | trivial), rfl⟩])
   clear E
   have KN := hI (pNumber cn.out (by omega) hR)
   cases L : numP ts k with
   | out => exact (numP_out L).elim
   | bad ln co er =>
    have l := hI (show x = .bad ln co er by rw [j.out, L]; rfl)
    rw [L] at KN
    clear L j
    go_wp2_with fail
    refine KN.out.mono ?_
    rintro e w5 ⟨rfl, o⟩
    go_wp2_with fail
    rw [l.out]
    exact ⟨rfl, exr_bad (hI (grown_tr bq.out o.out))⟩
   | ok a k1 =>
    have l := hI (show x = .ok (numE a) k1 by rw [j.out, L]; rfl)
    have ed := hd_num (numP_small2 L)
    rw [L] at KN
    clear L j
    obtain ⟨n, d⟩ := a
    go_wp2_with fail
    refine KN.out.mono ?_
    rintro e w5 ⟨rfl, o, HV5⟩
    have V := hI (F4.out.grown o.out ae.out)
    go_wp2_with fail
    refine (pNum (n, d) w5).mono ?_
    rintro e w6 ⟨rfl, M⟩
    have F6 := hI (V.out.belowW M.out)
    have bw := hI (HV5.out.belowW M.out)
    have W := hI (grown_tr bq.out (grown_tr o.out (grown_of (some g) M.out)))
    simp only [ndR, Nd.val]
    obtain ⟨r0, h0, r1, h1, r2, h2, r3, h3, r4, h4, r5, h5⟩ := F6.out.all6
    go_wp2_with fail
    rw [pst6 F6.out]
    have N := hI (F6.out.put #[.int .i64 1, .int .i64 n, .int .i64 d, .string ⟨#[]⟩, .int .i64 0, .slice none 0 0])
    obtain ⟨O, _, P, _, Q, _, R, _, S, _, U, _⟩ := N.out.all6
    refine bodyPost_ret (v := .agg #[.int .i64 1, .int .i64 n, .int .i64 d, .string ⟨#[]⟩, .int .i64 0, .slice none 0 0]) (by simp [results, Tryz.results126, go_sem, O, P, Q, R, S, U]) rfl ?_
    rw [l.out]
    exact ⟨ndR (n, d), rfl, hI (inx_leaf _ _ _ ed), hI (grown_new W.out (Nat.le_refl _) _ _), hI (bw.out.far ap ay _ _)⟩
  | true =>
   have E := hI (E.out.trans (if_neg (fun e => by cases e.2)))
   cases bs with
   | true =>
    have ar := cl.out.2 (by first | rfl | trivial)
    have j := hI (E.out.trans (if_pos ar))
    have hro1 := hro1 ar
    have ax := hI (ax.out ar)
    clear E ar
    have KD := hI (deeper_factor cn.out (by omega) hm r1 hro1 ax.out)
    obtain ⟨r2, hr2⟩ := eX ((if m = 100 then failP ts k 5 else r1))
    rw [← hr2] at KD
    have J := hI hr2
    clear hr2
    have X : w.heap.size < w4.heap.size := F4.out.lt
    cases r2 with
    | out =>
     exfalso
     have y := J.out
     split at y
     ·
      exact fail_out y.symm
     ·
      exact hro1 y.symm
    | bad ln co er =>
     have l := hI (show x = .bad ln co er by
      have y := J.out
      rw [j.out]
      split at y
      ·
       rename_i h8
       rw [if_pos h8, y]
      ·
       rename_i h8
       rw [if_neg h8, ← y])
     clear j J
     go_wp2_with fail
     refine KD.out.mono ?_
     rintro e w5 ⟨rfl, o⟩
     go_wp2_with fail
     rw [l.out]
     exact ⟨rfl, exr_bad (hI (grown_tr bq.out o.out))⟩
    | ok T1 k1 =>
     have l := hI (show x = .ok (opE 7 [T1]) k1 by
      have y := J.out
      rw [j.out]
      split at y
      ·
       exact (fail_ok y.symm).elim
      ·
       rename_i h8
       rw [if_neg h8, ← y])
     clear j J
     go_wp2_with fail
     refine KD.out.mono ?_
     rintro e w5 ⟨v, rfl, HX5, o, HV5⟩
     have V := hI (F4.out.grown o.out ae.out)
     have W := hI (grown_tr bq.out o.out)
     obtain ⟨Y, D⟩ := eX (w5.alloc (Obj.cells #[.int .i64 v.h.kind, .int .i64 v.h.n, .int .i64 v.h.d, .string v.h.name, .int .i64 v.h.k, .slice v.A v.len v.cap] 29))
     have H := hI (show Below w5.heap.size w5 Y by rw [D]; exact below_box _ _)
     have I := hI (V.out.belowW H.out)
     have a6 := hI (HV5.out.belowW H.out)
     have a7 := hI (grown_tr W.out (grown_of (some g) H.out))
     have a8 := hI (show InX w.heap.size.succ Y (.mk ⟨7, 0, 0, ⟨#[]⟩, 0⟩ [T1]) ⟨⟨7, 0, 0, ⟨#[]⟩, 0⟩, some ⟨w5.heap.size, 0, none⟩, 1, 1⟩ by rw [D]; exact inx_new1 w5 ⟨7, 0, 0, ⟨#[]⟩, 0⟩ (hd_op (kd := 7) (by decide)) T1 v _ (Nat.succ_le_of_lt V.out.lt) (HX5.out.weaken (Nat.succ_le_of_lt X)))
     obtain ⟨r0, h0, r1, h1, r2, h2, r3, h3, r4, h4, r5, h5⟩ := I.out.all6
     rw [D] at r0 r1 r2 r3 r4 r5 h0 h1 h2 h3 h4 h5
     go_wp2_with fail
     rw [← D]
     rw [pst6 I.out]
     have N := hI (I.out.put #[.int .i64 7, .int .i64 0, .int .i64 0, .string ⟨#[]⟩, .int .i64 0, .slice (some ⟨w5.heap.size, 0, none⟩) 1 1])
     obtain ⟨O, _, P, _, Q, _, R, _, S, _, U, _⟩ := N.out.all6
     refine bodyPost_ret (v := .agg #[.int .i64 7, .int .i64 0, .int .i64 0, .string ⟨#[]⟩, .int .i64 0, .slice (some ⟨w5.heap.size, 0, none⟩) 1 1]) (by simp [results, Tryz.results126, go_sem, O, P, Q, R, S, U]) rfl ?_
     rw [l.out]
     exact ⟨⟨⟨7, 0, 0, ⟨#[]⟩, 0⟩, some ⟨w5.heap.size, 0, none⟩, 1, 1⟩, rfl, hI ((a8.out.far (Nat.lt_succ_self _) _ _).weaken (Nat.le_succ _)), hI (grown_new a7.out (Nat.le_refl _) _ _), hI (a6.out.far ap ay _ _)⟩
   | false =>
    have j := hI (E.out.trans (if_neg (fun e => by have := cl.out.1 e; cases this)))
    clear E
    have KA := hI (dx.out w4 cn.out)
    have X : w.heap.size < w4.heap.size := F4.out.lt
    have a9 : g < w4.heap.size := cn.out.gl
    cases r2 with
    | out => exact (hr2 rfl).elim
    | bad ln co er =>
     have l := hI (show x = .bad ln co er from j.out)
     clear j
     go_wp2_with fail
     refine KA.out.mono ?_
     rintro e w5 ⟨rfl, o⟩
     go_wp2_with fail
     rw [l.out]
     exact ⟨rfl, exr_bad (hI (grown_tr bq.out o.out))⟩
    | ok T1 k1 =>
     have ee := hrk T1 k1 rfl
     have j := hI (show x = (if isS false ts k1 [94] then
        if integerP ts (k1 + 1) = false then unex ts (k1 + 1)
        else if 16 < powV (tk ts (k1 + 1)).text then failP ts (k1 + 1) 2
        else .ok (powE (powV (tk ts (k1 + 1)).text) T1) (k1 + 2)
       else .ok T1 k1) from j.out)
     go_wp2_with fail
     refine KA.out.mono ?_
     rintro e w5 ⟨v, rfl, HX5, o, HV5⟩
     have V := hI (F4.out.grown o.out ae.out)
     have o := hI (grown_tr bq.out o.out)
     go_upto_region 7 with (fail)
     obtain ⟨w6, au⟩ := eX (w5.alloc (Obj.cells #[.int .i64 v.h.kind, .int .i64 v.h.n, .int .i64 v.h.d, .string v.h.name, .int .i64 v.h.k, .slice v.A v.len v.cap] 29))
     have M := hI (show Below w5.heap.size w5 w6 by rw [au]; exact below_box _ _)
     have E6 := hI (show Blk w6 w5.heap.size 29 #[.int .i64 v.h.kind, .int .i64 v.h.n, .int .i64 v.h.d, .string v.h.name, .int .i64 v.h.k, .slice v.A v.len v.cap] by rw [au]; exact Blk.new _ _ _)
     rw [← au]
     clear au
     have bw := hI (HV5.out.belowW M.out)
     have F6 := hI (V.out.belowW M.out)
     have b6 := hI (HX5.out.belowW M.out)
     have W := hI (grown_tr o.out (grown_of (some g) M.out))
     have b7 : w5.heap.size ≠ g := Nat.ne_of_gt HV5.out.gl
     have b8 := hI (show some w5.heap.size ≠ some g from fun e => b7 (Option.some.inj e))
     have KC := hI (pAccept bw.out (by omega) ⟨#[94]⟩)
     rw [show kwP (⟨#[94]⟩ : ByteArray).data.toList = false by decide, show (⟨#[94]⟩ : ByteArray).data.toList = [94] from rfl] at KC
     obtain ⟨c, hc⟩ : ∃ c, isS false ts k1 [94] = c := ⟨_, rfl⟩
     rw [hc] at KC j
     clear hc
     cases c with
     | false =>
      have l := hI (show x = .ok T1 k1 from j.out)
      clear j
      go_wp2_with fail
      refine KC.out.mono ?_
      rintro e w7 ⟨rfl, r, F⟩
      have F : Hid (Env w0 g A len cap ts k1 m w7) := F
      have Z := hI (F6.out.grown r.out ae.out)
      have E7 := hI (E6.out.grown r.out b8.out)
      have bb := hI (b6.out.mv a9 r.out)
      have r := hI (grown_tr W.out r.out)
      obtain ⟨a0, b0, a1, b1, a2, b2, a3, b3, a4, b4, a5, b5⟩ := E7.out.all6
      obtain ⟨r0, h0, r1, h1, r2, h2, r3, h3, r4, h4, r5, h5⟩ := Z.out.all6
      go_wp2_with fail
      rw [pst6 Z.out]
      have N := hI (Z.out.put #[.int .i64 v.h.kind, .int .i64 v.h.n, .int .i64 v.h.d, .string v.h.name, .int .i64 v.h.k, .slice v.A v.len v.cap])
      obtain ⟨O, _, P, _, Q, _, R, _, S, _, U, _⟩ := N.out.all6
      refine bodyPost_ret (v := .agg #[.int .i64 v.h.kind, .int .i64 v.h.n, .int .i64 v.h.d, .string v.h.name, .int .i64 v.h.k, .slice v.A v.len v.cap]) (by simp [results, Tryz.results126, go_sem, O, P, Q, R, S, U]) rfl ?_
      rw [l.out]
      exact ⟨v, rfl, hI ((bb.out.far X _ _).weaken (Nat.le_of_lt X)), hI (grown_new r.out (Nat.le_refl _) _ _), hI (F.out.far ap ay _ _)⟩
     | true =>
      have j := hI (show x = (if integerP ts (k1 + 1) = false then unex ts (k1 + 1)
        else if 16 < powV (tk ts (k1 + 1)).text then failP ts (k1 + 1) 2
        else .ok (powE (powV (tk ts (k1 + 1)).text) T1) (k1 + 2)) from j.out)
      go_wp2_with fail
      refine KC.out.mono ?_
      rintro e w7 ⟨rfl, r, F⟩
      have F : Hid (Env w0 g A len cap ts (k1 + 1) m w7) := F
      have Z := hI (F6.out.grown r.out ae.out)
      have E7 := hI (E6.out.grown r.out b8.out)
      have bb := hI (b6.out.mv a9 r.out)
      have r := hI (grown_tr W.out r.out)
      have KI := hI (pInteger F.out 0 (by omega))
      rw [Nat.add_zero] at KI
      obtain ⟨i, hi⟩ : ∃ i, integerP ts (k1 + 1) = i := ⟨_, rfl⟩
      rw [hi] at KI j
      have HI := hI hi
      clear hi
      go_wp2_with fail
      refine KI.out.mono ?_
      rintro e w8 ⟨rfl, HB8⟩
      have aa : Hid (Env w0 g A len cap ts (k1 + 1) m w8) := hI (F.out.belowW HB8.out)
      have F8 := hI (Z.out.belowW HB8.out)
      have E8 := hI (E7.out.belowW HB8.out)
      have c8 := hI (bb.out.belowW HB8.out)
      have b9 := hI (grown_tr r.out (grown_of (some g) HB8.out))
      cases i with
      | false =>
       have l := hI (show x = unex ts (k1 + 1) from j.out)
       clear j
       go_wp2_with fail
       refine aa.out.unx.mono ?_
       rintro e w9 ⟨he, HB9⟩
       obtain ⟨c, hc⟩ := panU_pan ts _
       have HC := hI hc
       rw [hc] at he
       subst he
       clear hc
       go_wp2_with fail
       rw [l.out]
       exact ⟨rfl, exr_unex HC.out.symm (hI (grown_tr b9.out (grown_of _ HB9.out)))⟩
      | true =>
       have j := hI (show x = (if 16 < powV (tk ts (k1 + 1)).text then failP ts (k1 + 1) 2 else .ok (powE (powV (tk ts (k1 + 1)).text) T1) (k1 + 2)) from j.out)
       have ca := hI (int_digits hD HI.out)
       have KT := hI (show Calls Tryz.prog 124 #[.pointer (some ⟨g, 0, none⟩), .int .i64 ((0 : Nat) : Int)] w8 (RetB (tokV (tk ts (k1 + 1))) w8) from aa.out.tok 0 (by omega))
       have da : (tk ts (k1 + 1)).text.length ≤ 100 := (aa.out.t.tk (k1 + 1)).1
       have db := hI (fun (w' : World) (hb : Below w8.heap.size w8 w') => Env.fail (show Env w0 g A len cap ts (k1 + 1) m w' from aa.out.belowW hb) 2)
       obtain ⟨u, be⟩ := eX (tk ts (k1 + 1))
       have ef := hI be
       rw [← be] at KT da j ca db
       clear be
       go_wp2_with fail
       refine KT.out.mono ?_
       rintro e w9 ⟨rfl, HB9⟩
       have hF := tokF1 u
       have dc := hI (aa.out.belowW HB9.out)
       have F9 := hI (F8.out.belowW HB9.out)
       have E9 := hI (E8.out.belowW HB9.out)
       have df := hI (c8.out.belowW HB9.out)
       have dg := hI (grown_tr b9.out (grown_of (some g) HB9.out))
       obtain ⟨B, G⟩ : ∃ B : ByteArray, B = ⟨u.text.toArray⟩ := ⟨_, rfl⟩
       have bf : B.size = u.text.length := by rw [G]; exact List.size_toArray ..
       have eg := hI (show B.data.toList = u.text by rw [G])
       have dh := hI (show ∀ p (h : p < B.size), 48 ≤ (B[p]'h).toNat ∧ (B[p]'h).toNat ≤ 57 by
        subst G
        intro p h
        exact ca.out _ (List.getElem_mem (by rw [← bf]; exact h)))
       have di := hI G
       have cb := hI bf
       clear bf
       go_wp2_with fail
       rw [← G]
       clear G
       go_loopw [5] (fun dv wr => ∃ pos : Nat, pos ≤ B.size ∧ wr = w9.iter B pos ∧ dv = .int .i64 (powV (u.text.take pos) : Nat)) (fun _ wr => B.size - wr.iterPos w9.heap.size)
       case atStart => exact ⟨0, Nat.zero_le _, rfl, rfl⟩
       case round =>
        obtain ⟨pos, eh, rfl, rfl⟩ := hrel
        by_cases hlt : pos < B.size
        ·
         obtain ⟨dj, dk⟩ := dh.out pos hlt
         have bg : ∀ ty, (Instr.next (.pointer (some ⟨w9.heap.size, 0, none⟩)) true ty).run Tryz.prog (w9.iter B pos) = _ := fun ty => run_next_ascii w9 B pos ty hlt (by omega)
         have bh := hI (show powV (u.text.take (pos + 1)) = min (10 * powV (u.text.take pos) + ((B[pos]'hlt).toNat - 48)) 17 by
          rw [List.take_succ_eq_append_getElem (by rw [← cb.out]; exact hlt), powV_app]
          have G := di.out
          subst G
          rfl)
         have bi := powV_le (u.text.take pos)
         obtain ⟨q, L⟩ : ∃ q : Nat, q = (B[pos]'hlt).toNat := ⟨_, rfl⟩
         rw [← L] at bg dj dk bh
         obtain ⟨z, hz⟩ : ∃ z : Nat, z = powV (u.text.take pos) := ⟨_, rfl⟩
         rw [← hz] at bi bh ⊢
         clear L hz
         have e1 : IntKind.i32.wrap ((q : Int) - 48) = ((q - 48 : Nat) : Int) := by rw [IntKind.wrap_i32]; omega
         have e2 : IntKind.i64.wrap (10 * (z : Int)) = ((10 * z : Nat) : Int) := by rw [IntKind.wrap_i64]; omega
         have e3 : IntKind.i64.wrap ((q - 48 : Nat) : Int) = ((q - 48 : Nat) : Int) := by rw [IntKind.wrap_i64]; omega
         have e4 : IntKind.i64.wrap (((10 * z : Nat) : Int) + ((q - 48 : Nat) : Int)) = ((10 * z + (q - 48) : Nat) : Int) := by rw [IntKind.wrap_i64]; omega
         go_wp2
         go_roundw
         case rel => exact ⟨pos + 1, by omega, rfl, by rw [bh]; congr 1; omega⟩
         case measure => simp; omega
        ·
         obtain rfl : pos = B.size := by omega
         have bg : ∀ ty, (Instr.next (.pointer (some ⟨w9.heap.size, 0, none⟩)) true ty).run Tryz.prog (w9.iter B B.size) = _ := fun ty => run_next_end w9 B B.size ty hlt
         have cc := hI (show u.text.take B.size = u.text by rw [cb.out]; exact List.take_length)
         rw [cc.out]
         have bi := powV_le u.text
         obtain ⟨z, hz⟩ : ∃ z : Nat, z = powV u.text := ⟨_, rfl⟩
         rw [← hz] at bi j ⊢
         clear hz cc
         go_upto_region 16 with (fail)
         obtain ⟨ac, hw⟩ := eX (w9.iter B B.size)
         have ad := hI (show Below w9.heap.size w9 ac by rw [hw]; exact iter_below _ _ _)
         rw [← hw]
         clear hw bg
         have bk := hI (dc.out.belowW ad.out)
         have dl := hI (F9.out.belowW ad.out)
         have dm := hI (E9.out.belowW ad.out)
         have dn := hI (df.out.belowW ad.out)
         have cd := hI (grown_tr dg.out (grown_of (some g) ad.out))
         by_cases hz16 : 16 < z
         ·
          have l := hI (show x = failP ts (k1 + 1) 2 by rw [j.out, if_pos hz16])
          clear j
          have d1 : decide ((16 : Int) < (z : Int)) = true := decide_eq_true (by omega)
          go_wp2_with fail
          refine (bk.out.fail 2).mono ?_
          rintro e C ⟨rfl, HB11⟩
          go_wp2_with fail
          rw [l.out]
          exact ⟨rfl, exr_fail (hI (grown_tr cd.out (grown_of _ HB11.out)))⟩
         ·
          have l := hI (show x = .ok (powE z T1) (k1 + 2) by rw [j.out, if_neg hz16])
          clear j
          have d1 : decide ((16 : Int) < (z : Int)) = false := decide_eq_false (by omega)
          have e1 : IntKind.i64.wrap (((k1 + 1 : Nat) : Int) + 1) = ((k1 + 2 : Nat) : Int) := by rw [IntKind.wrap_i64]; omega
          have el : IntKind.i64.wrap ((k1 : Int) + 1 + 1) = ((k1 + 2 : Nat) : Int) := by rw [IntKind.wrap_i64]; omega
          have HP := hI (show Blk ac g 140 #[.slice A len cap, .int .i64 ((k1 + 1 : Nat) : Int), .int .i64 (m : Nat)] from bk.out.p)
          obtain ⟨p0, f0, p1, f1, p2, f2⟩ := HP.out.all3
          go_upto_region 19 with (fail)
          rw [HP.out.setCell_eq]
          have bm := hI (putB_grown ac g 140 #[.slice A len cap, .int .i64 ((k1 + 2 : Nat) : Int), .int .i64 (m : Nat)])
          have ce := hI (bk.out.put (k1 + 2) m (by omega))
          have cf := hI (dm.out.far (t' := 140) b7 #[.slice A len cap, .int .i64 ((k1 + 2 : Nat) : Int), .int .i64 (m : Nat)])
          have bn := hI (dl.out.far (t' := 140) ap #[.slice A len cap, .int .i64 ((k1 + 2 : Nat) : Int), .int .i64 (m : Nat)])
          have cg := hI (dn.out.mv a9 bm.out)
          have ch := hI (grown_tr cd.out bm.out)
          obtain ⟨C, bo⟩ := eX (putB ac g 140 #[.slice A len cap, .int .i64 ((k1 + 2 : Nat) : Int), .int .i64 (m : Nat)])
          have ci : putB ac g 140 ((#[.slice A len cap, .int .i64 ((k1 + 1 : Nat) : Int), .int .i64 (m : Nat)] : Array Value).setIfInBounds 1 (.int .i64 ((k1 : Int) + 2))) = C := by rw [bo]; rfl
          rw [← bo] at ce cf bn cg ch
          rw [ci]
          clear bo ci p0 f0 p1 f1 p2 f2 HP bm
          obtain ⟨a0, b0, a1, b1, a2, b2, a3, b3, a4, b4, a5, b5⟩ := cf.out.all6
          obtain ⟨Y, D⟩ := eX (C.alloc (Obj.cells #[.int .i64 v.h.kind, .int .i64 v.h.n, .int .i64 v.h.d, .string v.h.name, .int .i64 v.h.k, .slice v.A v.len v.cap] 29))
          have H := hI (show Below C.heap.size C Y by rw [D]; exact below_box _ _)
          have I := hI (bn.out.belowW H.out)
          have a6 := hI (ce.out.belowW H.out)
          have a7 := hI (grown_tr ch.out (grown_of (some g) H.out))
          have a8 := hI (show InX w.heap.size.succ Y (.mk ⟨8, 0, 0, ⟨#[]⟩, (z : Nat)⟩ [T1]) ⟨⟨8, 0, 0, ⟨#[]⟩, (z : Nat)⟩, some ⟨C.heap.size, 0, none⟩, 1, 1⟩ by rw [D]; exact inx_new1 C ⟨8, 0, 0, ⟨#[]⟩, (z : Nat)⟩ (hd_pow (by omega)) T1 v _ (Nat.succ_le_of_lt bn.out.lt) (cg.out.weaken (Nat.succ_le_of_lt X)))
          obtain ⟨r0, h0, r1, h1, r2, h2, r3, h3, r4, h4, r5, h5⟩ := I.out.all6
          rw [D] at r0 r1 r2 r3 r4 r5 h0 h1 h2 h3 h4 h5
          go_wp2_with fail
          rw [← D]
          rw [pst6 I.out]
          have N := hI (I.out.put #[.int .i64 8, .int .i64 0, .int .i64 0, .string ⟨#[]⟩, .int .i64 (z : Nat), .slice (some ⟨C.heap.size, 0, none⟩) 1 1])
          obtain ⟨O, _, P, _, Q, _, R, _, S, _, U, _⟩ := N.out.all6
          refine bodyPost_ret (v := .agg #[.int .i64 8, .int .i64 0, .int .i64 0, .string ⟨#[]⟩, .int .i64 (z : Nat), .slice (some ⟨C.heap.size, 0, none⟩) 1 1]) (by simp [results, Tryz.results126, go_sem, O, P, Q, R, S, U]) rfl ?_
          rw [l.out]
          exact ⟨⟨⟨8, 0, 0, ⟨#[]⟩, (z : Nat)⟩, some ⟨C.heap.size, 0, none⟩, 1, 1⟩, rfl, hI ((a8.out.far (Nat.lt_succ_self _) _ _).weaken (Nat.le_succ _)), hI (grown_new a7.out (Nat.le_refl _) _ _), hI (a6.out.far ap ay _ _)⟩
 | false =>
  have E := hI (E.out.trans (if_neg (fun e => by have := J.out.1 e.1; cases this)))
  cases bs with
  | true =>
   have ar := cl.out.2 (by first | rfl | trivial)
   have j := hI (E.out.trans (if_pos ar))
   have hro1 := hro1 ar
   have ax := hI (ax.out ar)
   clear E ar
   have KD := hI (deeper_factor cm.out (by omega) hm r1 hro1 ax.out)
   obtain ⟨r2, hr2⟩ := eX ((if m = 100 then failP ts k 5 else r1))
   rw [← hr2] at KD
   have J := hI hr2
   clear hr2
   have X : w.heap.size < w3.heap.size := F3.out.lt
   cases r2 with
   | out =>
    exfalso
    have y := J.out
    split at y
    ·
     exact fail_out y.symm
    ·
     exact hro1 y.symm
   | bad ln co er =>
    have l := hI (show x = .bad ln co er by
     have y := J.out
     rw [j.out]
     split at y
     ·
      rename_i h8
      rw [if_pos h8, y]
     ·
      rename_i h8
      rw [if_neg h8, ← y])
    clear j J
    go_wp2_with fail
    refine KD.out.mono ?_
    rintro e w5 ⟨rfl, o⟩
    go_wp2_with fail
    rw [l.out]
    exact ⟨rfl, exr_bad (hI (grown_tr bu.out o.out))⟩
   | ok T1 k1 =>
    have l := hI (show x = .ok (opE 7 [T1]) k1 by
     have y := J.out
     rw [j.out]
     split at y
     ·
      exact (fail_ok y.symm).elim
     ·
      rename_i h8
      rw [if_neg h8, ← y])
    clear j J
    go_wp2_with fail
    refine KD.out.mono ?_
    rintro e w5 ⟨v, rfl, HX5, o, HV5⟩
    have V := hI (F3.out.grown o.out ae.out)
    have W := hI (grown_tr bu.out o.out)
    obtain ⟨Y, D⟩ := eX (w5.alloc (Obj.cells #[.int .i64 v.h.kind, .int .i64 v.h.n, .int .i64 v.h.d, .string v.h.name, .int .i64 v.h.k, .slice v.A v.len v.cap] 29))
    have H := hI (show Below w5.heap.size w5 Y by rw [D]; exact below_box _ _)
    have I := hI (V.out.belowW H.out)
    have a6 := hI (HV5.out.belowW H.out)
    have a7 := hI (grown_tr W.out (grown_of (some g) H.out))
    have a8 := hI (show InX w.heap.size.succ Y (.mk ⟨7, 0, 0, ⟨#[]⟩, 0⟩ [T1]) ⟨⟨7, 0, 0, ⟨#[]⟩, 0⟩, some ⟨w5.heap.size, 0, none⟩, 1, 1⟩ by rw [D]; exact inx_new1 w5 ⟨7, 0, 0, ⟨#[]⟩, 0⟩ (hd_op (kd := 7) (by decide)) T1 v _ (Nat.succ_le_of_lt V.out.lt) (HX5.out.weaken (Nat.succ_le_of_lt X)))
    obtain ⟨r0, h0, r1, h1, r2, h2, r3, h3, r4, h4, r5, h5⟩ := I.out.all6
    rw [D] at r0 r1 r2 r3 r4 r5 h0 h1 h2 h3 h4 h5
    go_wp2_with fail
    rw [← D]
    rw [pst6 I.out]
    have N := hI (I.out.put #[.int .i64 7, .int .i64 0, .int .i64 0, .string ⟨#[]⟩, .int .i64 0, .slice (some ⟨w5.heap.size, 0, none⟩) 1 1])
    obtain ⟨O, _, P, _, Q, _, R, _, S, _, U, _⟩ := N.out.all6
    refine bodyPost_ret (v := .agg #[.int .i64 7, .int .i64 0, .int .i64 0, .string ⟨#[]⟩, .int .i64 0, .slice (some ⟨w5.heap.size, 0, none⟩) 1 1]) (by simp [results, Tryz.results126, go_sem, O, P, Q, R, S, U]) rfl ?_
    rw [l.out]
    exact ⟨⟨⟨7, 0, 0, ⟨#[]⟩, 0⟩, some ⟨w5.heap.size, 0, none⟩, 1, 1⟩, rfl, hI ((a8.out.far (Nat.lt_succ_self _) _ _).weaken (Nat.le_succ _)), hI (grown_new a7.out (Nat.le_refl _) _ _), hI (a6.out.far ap ay _ _)⟩
  | false =>
   have j := hI (E.out.trans (if_neg (fun e => by have := cl.out.1 e; cases this)))
   clear E
   have KA := hI (dx.out w3 cm.out)
   have X : w.heap.size < w3.heap.size := F3.out.lt
   have a9 : g < w3.heap.size := cm.out.gl
   cases r2 with
   | out => exact (hr2 rfl).elim
   | bad ln co er =>
    have l := hI (show x = .bad ln co er from j.out)
    clear j
    go_wp2_with fail
    refine KA.out.mono ?_
    rintro e w5 ⟨rfl, o⟩
    go_wp2_with fail
    rw [l.out]
    exact ⟨rfl, exr_bad (hI (grown_tr bu.out o.out))⟩
   | ok T1 k1 =>
    have ee := hrk T1 k1 rfl
    have j := hI (show x = (if isS false ts k1 [94] then
       if integerP ts (k1 + 1) = false then unex ts (k1 + 1)
       else if 16 < powV (tk ts (k1 + 1)).text then failP ts (k1 + 1) 2
       else .ok (powE (powV (tk ts (k1 + 1)).text) T1) (k1 + 2)
      else .ok T1 k1) from j.out)
    go_wp2_with fail
    refine KA.out.mono ?_
    rintro e w5 ⟨v, rfl, HX5, o, HV5⟩
    have V := hI (F3.out.grown o.out ae.out)
    have o := hI (grown_tr bu.out o.out)
    go_upto_region 7 with (fail)
    obtain ⟨w6, au⟩ := eX (w5.alloc (Obj.cells #[.int .i64 v.h.kind, .int .i64 v.h.n, .int .i64 v.h.d, .string v.h.name, .int .i64 v.h.k, .slice v.A v.len v.cap] 29))
    have M := hI (show Below w5.heap.size w5 w6 by rw [au]; exact below_box _ _)
    have E6 := hI (show Blk w6 w5.heap.size 29 #[.int .i64 v.h.kind, .int .i64 v.h.n, .int .i64 v.h.d, .string v.h.name, .int .i64 v.h.k, .slice v.A v.len v.cap] by rw [au]; exact Blk.new _ _ _)
    rw [← au]
    clear au
    have bw := hI (HV5.out.belowW M.out)
    have F6 := hI (V.out.belowW M.out)
    have b6 := hI (HX5.out.belowW M.out)
    have W := hI (grown_tr o.out (grown_of (some g) M.out))
    have b7 : w5.heap.size ≠ g := Nat.ne_of_gt HV5.out.gl
    have b8 := hI (show some w5.heap.size ≠ some g from fun e => b7 (Option.some.inj e))
    have KC := hI (pAccept bw.out (by omega) ⟨#[94]⟩)
    rw [show kwP (⟨#[94]⟩ : ByteArray).data.toList = false by decide, show (⟨#[94]⟩ : ByteArray).data.toList = [94] from rfl] at KC
    obtain ⟨c, hc⟩ : ∃ c, isS false ts k1 [94] = c := ⟨_, rfl⟩
    rw [hc] at KC j
    clear hc
    cases c with
    | false =>
     have l := hI (show x = .ok T1 k1 from j.out)
     clear j
     go_wp2_with fail
     refine KC.out.mono ?_
     rintro e w7 ⟨rfl, r, F⟩
     have F : Hid (Env w0 g A len cap ts k1 m w7) := F
     have Z := hI (F6.out.grown r.out ae.out)
     have E7 := hI (E6.out.grown r.out b8.out)
     have bb := hI (b6.out.mv a9 r.out)
     have r := hI (grown_tr W.out r.out)
     obtain ⟨a0, b0, a1, b1, a2, b2, a3, b3, a4, b4, a5, b5⟩ := E7.out.all6
     obtain ⟨r0, h0, r1, h1, r2, h2, r3, h3, r4, h4, r5, h5⟩ := Z.out.all6
     go_wp2_with fail
     rw [pst6 Z.out]
     have N := hI (Z.out.put #[.int .i64 v.h.kind, .int .i64 v.h.n, .int .i64 v.h.d, .string v.h.name, .int .i64 v.h.k, .slice v.A v.len v.cap])
     obtain ⟨O, _, P, _, Q, _, R, _, S, _, U, _⟩ := N.out.all6
     refine bodyPost_ret (v := .agg #[.int .i64 v.h.kind, .int .i64 v.h.n, .int .i64 v.h.d, .string v.h.name, .int .i64 v.h.k, .slice v.A v.len v.cap]) (by simp [results, Tryz.results126, go_sem, O, P, Q, R, S, U]) rfl ?_
     rw [l.out]
     exact ⟨v, rfl, hI ((bb.out.far X _ _).weaken (Nat.le_of_lt X)), hI (grown_new r.out (Nat.le_refl _) _ _), hI (F.out.far ap ay _ _)⟩
    | true =>
     have j := hI (show x = (if integerP ts (k1 + 1) = false then unex ts (k1 + 1)
       else if 16 < powV (tk ts (k1 + 1)).text then failP ts (k1 + 1) 2
       else .ok (powE (powV (tk ts (k1 + 1)).text) T1) (k1 + 2)) from j.out)
     go_wp2_with fail
     refine KC.out.mono ?_
     rintro e w7 ⟨rfl, r, F⟩
     have F : Hid (Env w0 g A len cap ts (k1 + 1) m w7) := F
     have Z := hI (F6.out.grown r.out ae.out)
     have E7 := hI (E6.out.grown r.out b8.out)
     have bb := hI (b6.out.mv a9 r.out)
     have r := hI (grown_tr W.out r.out)
     have KI := hI (pInteger F.out 0 (by omega))
     rw [Nat.add_zero] at KI
     obtain ⟨i, hi⟩ : ∃ i, integerP ts (k1 + 1) = i := ⟨_, rfl⟩
     rw [hi] at KI j
     have HI := hI hi
     clear hi
     go_wp2_with fail
     refine KI.out.mono ?_
     rintro e w8 ⟨rfl, HB8⟩
     have aa : Hid (Env w0 g A len cap ts (k1 + 1) m w8) := hI (F.out.belowW HB8.out)
     have F8 := hI (Z.out.belowW HB8.out)
     have E8 := hI (E7.out.belowW HB8.out)
     have c8 := hI (bb.out.belowW HB8.out)
     have b9 := hI (grown_tr r.out (grown_of (some g) HB8.out))
     cases i with
     | false =>
      have l := hI (show x = unex ts (k1 + 1) from j.out)
      clear j
      go_wp2_with fail
      refine aa.out.unx.mono ?_
      rintro e w9 ⟨he, HB9⟩
      obtain ⟨c, hc⟩ := panU_pan ts _
      have HC := hI hc
      rw [hc] at he
      subst he
      clear hc
      go_wp2_with fail
      rw [l.out]
      exact ⟨rfl, exr_unex HC.out.symm (hI (grown_tr b9.out (grown_of _ HB9.out)))⟩
     | true =>
      have j := hI (show x = (if 16 < powV (tk ts (k1 + 1)).text then failP ts (k1 + 1) 2 else .ok (powE (powV (tk ts (k1 + 1)).text) T1) (k1 + 2)) from j.out)
      have ca := hI (int_digits hD HI.out)
      have KT := hI (show Calls Tryz.prog 124 #[.pointer (some ⟨g, 0, none⟩), .int .i64 ((0 : Nat) : Int)] w8 (RetB (tokV (tk ts (k1 + 1))) w8) from aa.out.tok 0 (by omega))
      have da : (tk ts (k1 + 1)).text.length ≤ 100 := (aa.out.t.tk (k1 + 1)).1
      have db := hI (fun (w' : World) (hb : Below w8.heap.size w8 w') => Env.fail (show Env w0 g A len cap ts (k1 + 1) m w' from aa.out.belowW hb) 2)
      obtain ⟨u, be⟩ := eX (tk ts (k1 + 1))
      have ef := hI be
      rw [← be] at KT da j ca db
      clear be
      go_wp2_with fail
      refine KT.out.mono ?_
      rintro e w9 ⟨rfl, HB9⟩
      have hF := tokF1 u
      have dc := hI (aa.out.belowW HB9.out)
      have F9 := hI (F8.out.belowW HB9.out)
      have E9 := hI (E8.out.belowW HB9.out)
      have df := hI (c8.out.belowW HB9.out)
      have dg := hI (grown_tr b9.out (grown_of (some g) HB9.out))
      obtain ⟨B, G⟩ : ∃ B : ByteArray, B = ⟨u.text.toArray⟩ := ⟨_, rfl⟩
      have bf : B.size = u.text.length := by rw [G]; exact List.size_toArray ..
      have eg := hI (show B.data.toList = u.text by rw [G])
      have dh := hI (show ∀ p (h : p < B.size), 48 ≤ (B[p]'h).toNat ∧ (B[p]'h).toNat ≤ 57 by
       subst G
       intro p h
       exact ca.out _ (List.getElem_mem (by rw [← bf]; exact h)))
      have di := hI G
      have cb := hI bf
      clear bf
      go_wp2_with fail
      rw [← G]
      clear G
      go_loopw [5] (fun dv wr => ∃ pos : Nat, pos ≤ B.size ∧ wr = w9.iter B pos ∧ dv = .int .i64 (powV (u.text.take pos) : Nat)) (fun _ wr => B.size - wr.iterPos w9.heap.size)
      case atStart => exact ⟨0, Nat.zero_le _, rfl, rfl⟩
      case round =>
       obtain ⟨pos, eh, rfl, rfl⟩ := hrel
       by_cases hlt : pos < B.size
       ·
        obtain ⟨dj, dk⟩ := dh.out pos hlt
        have bg : ∀ ty, (Instr.next (.pointer (some ⟨w9.heap.size, 0, none⟩)) true ty).run Tryz.prog (w9.iter B pos) = _ := fun ty => run_next_ascii w9 B pos ty hlt (by omega)
        have bh := hI (show powV (u.text.take (pos + 1)) = min (10 * powV (u.text.take pos) + ((B[pos]'hlt).toNat - 48)) 17 by
         rw [List.take_succ_eq_append_getElem (by rw [← cb.out]; exact hlt), powV_app]
         have G := di.out
         subst G
         rfl)
        have bi := powV_le (u.text.take pos)
        obtain ⟨q, L⟩ : ∃ q : Nat, q = (B[pos]'hlt).toNat := ⟨_, rfl⟩
        rw [← L] at bg dj dk bh
        obtain ⟨z, hz⟩ : ∃ z : Nat, z = powV (u.text.take pos) := ⟨_, rfl⟩
        rw [← hz] at bi bh ⊢
        clear L hz
        have e1 : IntKind.i32.wrap ((q : Int) - 48) = ((q - 48 : Nat) : Int) := by rw [IntKind.wrap_i32]; omega
        have e2 : IntKind.i64.wrap (10 * (z : Int)) = ((10 * z : Nat) : Int) := by rw [IntKind.wrap_i64]; omega
        have e3 : IntKind.i64.wrap ((q - 48 : Nat) : Int) = ((q - 48 : Nat) : Int) := by rw [IntKind.wrap_i64]; omega
        have e4 : IntKind.i64.wrap (((10 * z : Nat) : Int) + ((q - 48 : Nat) : Int)) = ((10 * z + (q - 48) : Nat) : Int) := by rw [IntKind.wrap_i64]; omega
        go_wp2
        go_roundw
        case rel => exact ⟨pos + 1, by omega, rfl, by rw [bh]; congr 1; omega⟩
        case measure => simp; omega
       ·
        obtain rfl : pos = B.size := by omega
        have bg : ∀ ty, (Instr.next (.pointer (some ⟨w9.heap.size, 0, none⟩)) true ty).run Tryz.prog (w9.iter B B.size) = _ := fun ty => run_next_end w9 B B.size ty hlt
        have cc := hI (show u.text.take B.size = u.text by rw [cb.out]; exact List.take_length)
        rw [cc.out]
        have bi := powV_le u.text
        obtain ⟨z, hz⟩ : ∃ z : Nat, z = powV u.text := ⟨_, rfl⟩
        rw [← hz] at bi j ⊢
        clear hz cc
        go_upto_region 16 with (fail)
        obtain ⟨ac, hw⟩ := eX (w9.iter B B.size)
        have ad := hI (show Below w9.heap.size w9 ac by rw [hw]; exact iter_below _ _ _)
        rw [← hw]
        clear hw bg
        have bk := hI (dc.out.belowW ad.out)
        have dl := hI (F9.out.belowW ad.out)
        have dm := hI (E9.out.belowW ad.out)
        have dn := hI (df.out.belowW ad.out)
        have cd := hI (grown_tr dg.out (grown_of (some g) ad.out))
        by_cases hz16 : 16 < z
        ·
         have l := hI (show x = failP ts (k1 + 1) 2 by rw [j.out, if_pos hz16])
         clear j
         have d1 : decide ((16 : Int) < (z : Int)) = true := decide_eq_true (by omega)
         go_wp2_with fail
         refine (bk.out.fail 2).mono ?_
         rintro e C ⟨rfl, HB11⟩
         go_wp2_with fail
         rw [l.out]
         exact ⟨rfl, exr_fail (hI (grown_tr cd.out (grown_of _ HB11.out)))⟩
        ·
         have l := hI (show x = .ok (powE z T1) (k1 + 2) by rw [j.out, if_neg hz16])
         clear j
         have d1 : decide ((16 : Int) < (z : Int)) = false := decide_eq_false (by omega)
         have e1 : IntKind.i64.wrap (((k1 + 1 : Nat) : Int) + 1) = ((k1 + 2 : Nat) : Int) := by rw [IntKind.wrap_i64]; omega
         have el : IntKind.i64.wrap ((k1 : Int) + 1 + 1) = ((k1 + 2 : Nat) : Int) := by rw [IntKind.wrap_i64]; omega
         have HP := hI (show Blk ac g 140 #[.slice A len cap, .int .i64 ((k1 + 1 : Nat) : Int), .int .i64 (m : Nat)] from bk.out.p)
         obtain ⟨p0, f0, p1, f1, p2, f2⟩ := HP.out.all3
         go_upto_region 19 with (fail)
         rw [HP.out.setCell_eq]
         have bm := hI (putB_grown ac g 140 #[.slice A len cap, .int .i64 ((k1 + 2 : Nat) : Int), .int .i64 (m : Nat)])
         have ce := hI (bk.out.put (k1 + 2) m (by omega))
         have cf := hI (dm.out.far (t' := 140) b7 #[.slice A len cap, .int .i64 ((k1 + 2 : Nat) : Int), .int .i64 (m : Nat)])
         have bn := hI (dl.out.far (t' := 140) ap #[.slice A len cap, .int .i64 ((k1 + 2 : Nat) : Int), .int .i64 (m : Nat)])
         have cg := hI (dn.out.mv a9 bm.out)
         have ch := hI (grown_tr cd.out bm.out)
         obtain ⟨C, bo⟩ := eX (putB ac g 140 #[.slice A len cap, .int .i64 ((k1 + 2 : Nat) : Int), .int .i64 (m : Nat)])
         have ci : putB ac g 140 ((#[.slice A len cap, .int .i64 ((k1 + 1 : Nat) : Int), .int .i64 (m : Nat)] : Array Value).setIfInBounds 1 (.int .i64 ((k1 : Int) + 2))) = C := by rw [bo]; rfl
         rw [← bo] at ce cf bn cg ch
         rw [ci]
         clear bo ci p0 f0 p1 f1 p2 f2 HP bm
         obtain ⟨a0, b0, a1, b1, a2, b2, a3, b3, a4, b4, a5, b5⟩ := cf.out.all6
         obtain ⟨Y, D⟩ := eX (C.alloc (Obj.cells #[.int .i64 v.h.kind, .int .i64 v.h.n, .int .i64 v.h.d, .string v.h.name, .int .i64 v.h.k, .slice v.A v.len v.cap] 29))
         have H := hI (show Below C.heap.size C Y by rw [D]; exact below_box _ _)
         have I := hI (bn.out.belowW H.out)
         have a6 := hI (ce.out.belowW H.out)
         have a7 := hI (grown_tr ch.out (grown_of (some g) H.out))
         have a8 := hI (show InX w.heap.size.succ Y (.mk ⟨8, 0, 0, ⟨#[]⟩, (z : Nat)⟩ [T1]) ⟨⟨8, 0, 0, ⟨#[]⟩, (z : Nat)⟩, some ⟨C.heap.size, 0, none⟩, 1, 1⟩ by rw [D]; exact inx_new1 C ⟨8, 0, 0, ⟨#[]⟩, (z : Nat)⟩ (hd_pow (by omega)) T1 v _ (Nat.succ_le_of_lt bn.out.lt) (cg.out.weaken (Nat.succ_le_of_lt X)))
         obtain ⟨r0, h0, r1, h1, r2, h2, r3, h3, r4, h4, r5, h5⟩ := I.out.all6
         rw [D] at r0 r1 r2 r3 r4 r5 h0 h1 h2 h3 h4 h5
         go_wp2_with fail
         rw [← D]
         rw [pst6 I.out]
         have N := hI (I.out.put #[.int .i64 8, .int .i64 0, .int .i64 0, .string ⟨#[]⟩, .int .i64 (z : Nat), .slice (some ⟨C.heap.size, 0, none⟩) 1 1])
         obtain ⟨O, _, P, _, Q, _, R, _, S, _, U, _⟩ := N.out.all6
         refine bodyPost_ret (v := .agg #[.int .i64 8, .int .i64 0, .int .i64 0, .string ⟨#[]⟩, .int .i64 (z : Nat), .slice (some ⟨C.heap.size, 0, none⟩) 1 1]) (by simp [results, Tryz.results126, go_sem, O, P, Q, R, S, U]) rfl ?_
         rw [l.out]
         exact ⟨⟨⟨8, 0, 0, ⟨#[]⟩, (z : Nat)⟩, some ⟨C.heap.size, 0, none⟩, 1, 1⟩, rfl, hI ((a8.out.far (Nat.lt_succ_self _) _ _).weaken (Nat.le_succ _)), hI (grown_new a7.out (Nat.le_refl _) _ _), hI (a6.out.far ap ay _ _)⟩
end Go.Proofs.YtkjoohnndobjeaaGreatDoor
