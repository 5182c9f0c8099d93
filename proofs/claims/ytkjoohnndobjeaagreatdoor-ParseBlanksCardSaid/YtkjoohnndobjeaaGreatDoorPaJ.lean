/-
  The walk of the parser's factors.
-/
import Derived.Test.YtkjoohnndobjeaaGreatDoorPaI
set_option linter.unusedVariables false
set_option maxHeartbeats 4000000
set_option maxRecDepth 100000
namespace Go.Proofs.YtkjoohnndobjeaaGreatDoor
open Go.RowKit Go.Fl Go.Fl.Lx Go.Fl.Nm Go.Fl.Fm Go.Fl.Rt Go.Fl.Pa
open List (setIfInBounds_toArray set_cons_zero set_cons_succ getElem_toArray getElem_cons_zero getElem_cons_succ)
/-- What a factor comes to, with what a factor behind a sign (r1), and an atom (r2), come to. -/
def factorR (ts : List Tok) (k m : Nat) (r1 r2 : PR TE) : PR TE :=
  if (tk ts (k + signP ts k)).kind = 2 ∧ isS false ts (k + signP ts k + 1) [94] = false then (numP ts k).map numE
  else if signP ts k = 1 then
    if m = 100 then failP ts k 5
    else
      match r1 with
      | .ok e k1 => .ok (opE 7 [e]) k1
      | r => r
  else
    match r2 with
    | .ok e k1 =>
      if isS false ts k1 [94] then
        if integerP ts (k1 + 1) = false then unex ts (k1 + 1)
        else if 16 < powV (tk ts (k1 + 1)).text then failP ts (k1 + 1) 2
        else .ok (powE (powV (tk ts (k1 + 1)).text) e) (k1 + 2)
      else .ok e k1
    | r => r
theorem factorP_eq (nm : List UInt8 → Bool) (ts : List Tok) (f k m : Nat) : factorP nm ts (f + 1) k m = factorR ts k m (factorP nm ts f (k + 1) (m + 1)) (atomP nm ts f k m) := by
 rw [factorP.eq_def]
 rfl
/-- Number tokens are digits and points. -/
def DigTs (ts : List Tok) : Prop := ∀ k, (tk ts k).kind = 2 → ∀ c ∈ (tk ts k).text, c.toNat = 46 ∨ (48 ≤ c.toNat ∧ c.toNat ≤ 57)
theorem int_digits {ts : List Tok} {k : Nat} (h : DigTs ts) (hi : integerP ts k = true) : ∀ c ∈ (tk ts k).text, 48 ≤ c.toNat ∧ c.toNat ≤ 57 := by
 unfold integerP at hi
 rw [Bool.and_eq_true, beq_iff_eq, Bool.not_eq_true'] at hi
 intro c hc
 rcases h k hi.1 c hc with e | e
 ·
  exfalso
  have h46 : c = 46 := UInt8.toNat_inj.1 e
  rw [h46] at hc
  rw [Bool.eq_false_iff] at hi
  exact hi.2 (List.contains_iff_mem.2 hc)
 exact e
theorem powV_app (l : List UInt8) (b : UInt8) : powV (l ++ [b]) = min (10 * powV l + (b.toNat - 48)) 17 := by simp [powV]
theorem powV_le (l : List UInt8) : powV l ≤ 17 := by
 rcases List.eq_nil_or_concat l with rfl | ⟨a, b, rfl⟩
 ·
  exact Nat.zero_le _
 rw [List.concat_eq_append, powV_app]; omega
theorem hd_pow {v : Nat} (h : v ≤ 16) : HdOk ⟨8, 0, 0, ⟨#[]⟩, v⟩ := by
 refine ⟨?_, ?_, ?_, ?_, ?_, ?_, ?_, ?_, Nat.zero_le _⟩ <;> simp only <;> omega

theorem pFactor {w0 w : World} {g : Nat} {A : Option Addr} {len cap : Nat} {ts : List Tok} {k m : Nat} (h : Env w0 g A len cap ts k m w) (hk : k ≤ 105000) (hm : m ≤ 100) (hR : RX w0) (hD : DigTs ts) (r1 r2 : PR TE) (hro1 : signP ts k = 1 → r1 ≠ .out) (hr2 : r2 ≠ .out) (hrk : ∀ T k1, r2 = .ok T k1 → k1 ≤ 105000)
 (K1 : signP ts k = 1 → m ≠ 100 → ∀ w', Env w0 g A len cap ts (k + 1) (m + 1) w' → Calls Tryz.prog 126 #[.pointer (some ⟨g, 0, none⟩)] w' (ExR w0 g A len cap ts (m + 1) r1 w'))
 (K2 : ∀ w', Env w0 g A len cap ts k m w' → Calls Tryz.prog 158 #[.pointer (some ⟨g, 0, none⟩)] w' (ExR w0 g A len cap ts m r2 w')) :
 Calls Tryz.prog 126 #[.pointer (some ⟨g, 0, none⟩)] w (ExR w0 g A len cap ts m (factorR ts k m r1 r2) w) := by
 have au := hI K1
 have dk := hI K2
 obtain ⟨u, cp⟩ := eX (factorR ts k m r1 r2)
 have C := hI cp
 rw [← cp]
 clear K1 K2 cp
 go_enter Tryz.func126, Tryz.ntmps126
 go_upto_region 1 with (fail)
 obtain ⟨w1, dl, O1, F1⟩ := aX w 29 #[.int .i64 0, .int .i64 0, .int .i64 0, .string ⟨#[]⟩, .int .i64 0, .slice none 0 0]
 rw [← dl]
 clear dl
 have ab := hI (show some w.heap.size ≠ some g from fun e => by have := h.gl; injection e with e; omega)
 have am : w.heap.size ≠ g := fun e => ab.out (by rw [e])
 have av : w0.heap.size ≤ w.heap.size := h.b.size
 have d9 : g < w.heap.size := h.gl
 have dp := hI (h.belowW O1.out)
 have ea : w.heap.size < w1.heap.size := F1.out.lt
 clear h
 unfold factorR at C
 have dy := signP_le ts k
 obtain ⟨s, dq⟩ := eX (signP ts k)
 have KS := hI (pSign dp.out)
 rw [← dq] at KS C au hro1 dy
 clear dq
 go_wp2_with fail
 refine KS.out.mono ?_
 rintro e w2 ⟨rfl, cq⟩
 have cr := dp.out.b9 cq
 have KT := hI (cr.out.tok s (by omega))
 obtain ⟨T, ds⟩ := eX (tk ts (k + s))
 rw [← ds] at KT C
 obtain ⟨b2, dz⟩ : ∃ b, ((T.kind : Int) == 2) = b := ⟨_, rfl⟩
 have L := hI (show (T.kind = 2) ↔ b2 = true by rw [← dz, beq_iff_eq]; omega)
 obtain ⟨c, hc⟩ : ∃ c, isS false ts (k + (s + 1)) [94] = c := ⟨_, rfl⟩
 rw [Nat.add_assoc k s 1, hc] at C
 have e1 : IntKind.i64.wrap ((s : Int) + 1) = (s : Int) + 1 := by rw [IntKind.wrap_i64]; omega
 obtain ⟨bs, d0⟩ : ∃ b, ((s : Int) == 1) = b := ⟨_, rfl⟩
 have cj := hI (show (s = 1) ↔ bs = true by rw [← d0, beq_iff_eq]; omega)
 have KU := hI (fun (w3 : World) (hb : Below w2.heap.size w2 w3) => pIs (cr.out.belowW hb) (s + 1) (by omega) ⟨#[94]⟩)
 rw [show kwP (⟨#[94]⟩ : ByteArray).data.toList = false by decide, show (⟨#[94]⟩ : ByteArray).data.toList = [94] from rfl, hc] at KU
 clear ds hc
 go_wp2_with fail
 refine KT.out.mono ?_
 rintro e w3 ⟨rfl, ck⟩
 have hF := tokF0 T
 have cl := cr.out.b9 ck
 have F3 := hI ((F1.out.belowW cq.out).belowW ck.out)
 have bn := hI (grown_tr (grown_tr (grown_of (some g) O1.out) (grown_of (some g) cq.out)) (grown_of (some g) ck.out))
 cases b2 with
 | true =>
  go_wp2_with fail
  refine (KU.out w3 ck.out).mono ?_
  rintro e w4 ⟨rfl, ct⟩; have cm := cl.out.b9 ct; have F4 := F3.out.b9 ct; have bl := hI (grown_tr bn.out (grown_of (some g) ct.out))
  cases c with
  | false =>
   have j := hI (show u = (numP ts k).map numE by rw [C.out, if_pos ⟨L.out.2 (by first | rfl | trivial), rfl⟩]); clear C; have KN := hI (pNumber cm.out (by omega) hR)
   cases M : numP ts k with
   | out => exact (numP_out M).elim
   | bad ln co er =>
    have l := hI (show u = .bad ln co er by rw [j.out, M]; rfl); rw [M] at KN; clear M j
    go_wp2_with fail
    refine KN.out.mono ?_
    rintro e w5 ⟨rfl, r⟩
    go_wp2_with fail
    rw [l.out]
    exact ⟨rfl, exr_bad (hI (grown_tr bl.out r.out))⟩
   | ok a k1 =>
    have l := hI (show u = .ok (numE a) k1 by rw [j.out, M]; rfl); have d2 := hd_num (numP_small2 M); rw [M] at KN; clear M j; obtain ⟨n, d⟩ := a
    go_wp2_with fail
    refine KN.out.mono ?_
    rintro e w5 ⟨rfl, r, V⟩
    go_wp2_with fail
    refine (pNum (n, d) w5).mono ?_
    rintro e w6 ⟨rfl, N⟩; have F6 := hI ((F4.out.grown r.out ab.out).belowW N.out); simp only [ndR, Nd.val]; obtain ⟨r0, h0, r1, h1, r2, h2, r3, h3, r4, h4, r5, h5⟩ := F6.out.all6
    go_wp2_with fail
    rw [pst6 F6.out]; obtain ⟨O, _, P, _, Q, _, R, _, S, _, U, _⟩ := (F6.out.put #[.int .i64 1, .int .i64 n, .int .i64 d, .string ⟨#[]⟩, .int .i64 0, .slice none 0 0]).all6
    refine bodyPost_ret (v := .agg #[.int .i64 1, .int .i64 n, .int .i64 d, .string ⟨#[]⟩, .int .i64 0, .slice none 0 0]) (by simp [results, Tryz.results126, go_sem, O, P, Q, R, S, U]) rfl ?_
    rw [l.out]
    exact ⟨ndR (n, d), rfl, hI (inx_leaf _ _ _ d2), hI (grown_new (grown_tr bl.out (grown_tr r.out (grown_of (some g) N.out))) (Nat.le_refl _) _ _), hI ((V.out.belowW N.out).far am av _ _)⟩
  | true =>
   have C := hI (C.out.trans (if_neg (fun e => by cases e.2)))
   cases bs with
   | true =>
    have ao := cj.out.2 (by first | rfl | trivial); have j := hI (C.out.trans (if_pos ao)); have hro1 := hro1 ao; have au := hI (au.out ao); clear C ao; have KD := hI (deeper_factor cm.out (by omega) hm r1 hro1 au.out); obtain ⟨r2, hr2⟩ := eX ((if m = 100 then failP ts k 5 else r1)); rw [← hr2] at KD; have L := hI hr2; clear hr2; have W : w.heap.size < w4.heap.size := F4.out.lt
    cases r2 with
    | out =>
     exfalso
     have x := L.out
     split at x
     ·
      exact fail_out x.symm
     exact hro1 x.symm
    | bad ln co er =>
     have l := hI (show u = .bad ln co er by
      have x := L.out; rw [j.out]
      split at x
      ·
       rename_i h8
       rw [if_pos h8, x]
      rename_i h8
      rw [if_neg h8, ← x])
     clear j L
     go_wp2_with fail
     refine KD.out.mono ?_
     rintro e w5 ⟨rfl, r⟩
     go_wp2_with fail
     rw [l.out]
     exact ⟨rfl, exr_bad (hI (grown_tr bl.out r.out))⟩
    | ok T1 k1 =>
     have l := hI (show u = .ok (opE 7 [T1]) k1 by
      have x := L.out; rw [j.out]
      split at x
      ·
       exact (fail_ok x.symm).elim
      rename_i h8
      rw [if_neg h8, ← x])
     clear j L
     go_wp2_with fail
     refine KD.out.mono ?_
     rintro e w5 ⟨v, rfl, ax, r, V⟩; have F5 := hI (F4.out.grown r.out ab.out); obtain ⟨wa, F, G, _⟩ := aX w5 29 #[.int .i64 v.h.kind, .int .i64 v.h.n, .int .i64 v.h.d, .string v.h.name, .int .i64 v.h.k, .slice v.A v.len v.cap]; have H := F5.out.b9 G; have az := hI (show InX w.heap.size.succ wa (.mk ⟨7, 0, 0, ⟨#[]⟩, 0⟩ [T1]) ⟨⟨7, 0, 0, ⟨#[]⟩, 0⟩, some ⟨w5.heap.size, 0, none⟩, 1, 1⟩ by rw [F]; exact inx_new1 w5 ⟨7, 0, 0, ⟨#[]⟩, 0⟩ (hd_op (kd := 7) (by decide)) T1 v _ (Nat.succ_le_of_lt F5.out.lt) (ax.out.weaken (Nat.succ_le_of_lt W))); obtain ⟨r0, h0, r1, h1, r2, h2, r3, h3, r4, h4, r5, h5⟩ := H.out.all6; rw [F] at r0 r1 r2 r3 r4 r5 h0 h1 h2 h3 h4 h5
     go_wp2_with fail
     rw [← F]; rw [pst6 H.out]; obtain ⟨O, _, P, _, Q, _, R, _, S, _, U, _⟩ := (H.out.put #[.int .i64 7, .int .i64 0, .int .i64 0, .string ⟨#[]⟩, .int .i64 0, .slice (some ⟨w5.heap.size, 0, none⟩) 1 1]).all6
     refine bodyPost_ret (v := .agg #[.int .i64 7, .int .i64 0, .int .i64 0, .string ⟨#[]⟩, .int .i64 0, .slice (some ⟨w5.heap.size, 0, none⟩) 1 1]) (by simp [results, Tryz.results126, go_sem, O, P, Q, R, S, U]) rfl ?_
     rw [l.out]
     exact ⟨⟨⟨7, 0, 0, ⟨#[]⟩, 0⟩, some ⟨w5.heap.size, 0, none⟩, 1, 1⟩, rfl, hI ((az.out.far (Nat.lt_succ_self _) _ _).weaken (Nat.le_succ _)), hI (grown_new (grown_tr (grown_tr bl.out r.out) (grown_of (some g) G.out)) (Nat.le_refl _) _ _), hI ((V.out.belowW G.out).far am av _ _)⟩
   | false =>
    have j := hI (C.out.trans (if_neg (fun e => by have := cj.out.1 e; cases this))); clear C; have KA := hI (dk.out w4 cm.out); have W : w.heap.size < w4.heap.size := F4.out.lt; have a6 : g < w4.heap.size := cm.out.gl
    cases r2 with
    | out => exact (hr2 rfl).elim
    | bad ln co er =>
     have l := hI (show u = .bad ln co er from j.out); clear j
     go_wp2_with fail
     refine KA.out.mono ?_
     rintro e w5 ⟨rfl, r⟩
     go_wp2_with fail
     rw [l.out]
     exact ⟨rfl, exr_bad (hI (grown_tr bl.out r.out))⟩
    | ok T1 k1 =>
     have d3 := hrk T1 k1 rfl
     have j := hI (show u = (if isS false ts k1 [94] then
      if integerP ts (k1 + 1) = false then unex ts (k1 + 1)
      else if 16 < powV (tk ts (k1 + 1)).text then failP ts (k1 + 1) 2
      else .ok (powE (powV (tk ts (k1 + 1)).text) T1) (k1 + 2)
      else .ok T1 k1) from j.out)
     go_wp2_with fail
     refine KA.out.mono ?_
     rintro e w5 ⟨v, rfl, ax, r, V⟩
     go_upto_region 7 with (fail)
     obtain ⟨w6, br, N, E6⟩ := aX w5 29 #[.int .i64 v.h.kind, .int .i64 v.h.n, .int .i64 v.h.d, .string v.h.name, .int .i64 v.h.k, .slice v.A v.len v.cap]; rw [← br]; clear br; have F6 := hI ((F4.out.grown r.out ab.out).belowW N.out); have bu := ax.out.b9 N; have bv := hI (grown_tr (grown_tr bl.out r.out) (grown_of (some g) N.out)); have bw : w5.heap.size ≠ g := Nat.ne_of_gt V.out.gl; have bx := hI (show some w5.heap.size ≠ some g from fun e => bw (Option.some.inj e)); have KC := hI (pAccept (V.out.belowW N.out) (by omega) ⟨#[94]⟩); rw [show kwP (⟨#[94]⟩ : ByteArray).data.toList = false by decide, show (⟨#[94]⟩ : ByteArray).data.toList = [94] from rfl] at KC
     obtain ⟨c, hc⟩ : ∃ c, isS false ts k1 [94] = c := ⟨_, rfl⟩
     rw [hc] at KC j; clear hc
     cases c with
     | false =>
      have l := hI (show u = .ok T1 k1 from j.out); clear j
      go_wp2_with fail
      refine KC.out.mono ?_
      rintro e w7 ⟨rfl, y, D⟩; have D : Hid (Env w0 g A len cap ts k1 m w7) := D; have F7 := hI (F6.out.grown y.out ab.out); obtain ⟨a0, b0, a1, b1, a2, b2, a3, b3, a4, b4, a5, b5⟩ := (E6.out.grown y.out bx.out).all6; obtain ⟨r0, h0, r1, h1, r2, h2, r3, h3, r4, h4, r5, h5⟩ := F7.out.all6
      go_wp2_with fail
      rw [pst6 F7.out]; obtain ⟨O, _, P, _, Q, _, R, _, S, _, U, _⟩ := (F7.out.put #[.int .i64 v.h.kind, .int .i64 v.h.n, .int .i64 v.h.d, .string v.h.name, .int .i64 v.h.k, .slice v.A v.len v.cap]).all6
      refine bodyPost_ret (v := .agg #[.int .i64 v.h.kind, .int .i64 v.h.n, .int .i64 v.h.d, .string v.h.name, .int .i64 v.h.k, .slice v.A v.len v.cap]) (by simp [results, Tryz.results126, go_sem, O, P, Q, R, S, U]) rfl ?_
      rw [l.out]
      exact ⟨v, rfl, hI (((bu.out.mv a6 y.out).far W _ _).weaken (Nat.le_of_lt W)), hI (grown_new (grown_tr bv.out y.out) (Nat.le_refl _) _ _), hI (D.out.far am av _ _)⟩
     | true =>
      have j := hI (show u = (if integerP ts (k1 + 1) = false then unex ts (k1 + 1)
       else if 16 < powV (tk ts (k1 + 1)).text then failP ts (k1 + 1) 2
       else .ok (powE (powV (tk ts (k1 + 1)).text) T1) (k1 + 2)) from j.out)
      go_wp2_with fail
      refine KC.out.mono ?_
      rintro e w7 ⟨rfl, y, D⟩; have D : Hid (Env w0 g A len cap ts (k1 + 1) m w7) := D; have KI := hI (pInteger D.out 0 (by omega)); rw [Nat.add_zero] at KI
      obtain ⟨i, hi⟩ : ∃ i, integerP ts (k1 + 1) = i := ⟨_, rfl⟩
      rw [hi] at KI j; have HI := hI hi; clear hi
      go_wp2_with fail
      refine KI.out.mono ?_
      rintro e w8 ⟨rfl, X⟩; have aq : Hid (Env w0 g A len cap ts (k1 + 1) m w8) := D.out.b9 X; have bz := hI (grown_tr (grown_tr bv.out y.out) (grown_of (some g) X.out))
      cases i with
      | false =>
       have l := hI (show u = unex ts (k1 + 1) from j.out); clear j
       go_wp2_with fail
       refine aq.out.unx.mono ?_
       rintro e w9 ⟨he, I⟩; obtain ⟨c, hc⟩ := panU_pan ts _; have HC := hI hc; rw [hc] at he; subst he; clear hc
       go_wp2_with fail
       rw [l.out]
       exact ⟨rfl, exr_unex HC.out.symm (hI (grown_tr bz.out (grown_of _ I.out)))⟩
      | true =>
       have j := hI (show u = (if 16 < powV (tk ts (k1 + 1)).text then failP ts (k1 + 1) 2 else .ok (powE (powV (tk ts (k1 + 1)).text) T1) (k1 + 2)) from j.out); have b7 := hI (int_digits hD HI.out); have KT := hI (show Calls Tryz.prog 124 #[.pointer (some ⟨g, 0, none⟩), .int .i64 ((0 : Nat) : Int)] w8 (RetB (tokV (tk ts (k1 + 1))) w8) from aq.out.tok 0 (by omega)); have c7 : (tk ts (k1 + 1)).text.length ≤ 100 := (aq.out.t.tk (k1 + 1)).1; obtain ⟨o, b8⟩ := eX (tk ts (k1 + 1)); rw [← b8] at KT c7 j b7; clear b8
       go_wp2_with fail
       refine KT.out.mono ?_
       rintro e w9 ⟨rfl, I⟩; have hF := tokF1 o
       obtain ⟨B, J⟩ : ∃ B : ByteArray, B = ⟨o.text.toArray⟩ := ⟨_, rfl⟩
       have ba : B.size = o.text.length := by rw [J]; exact List.size_toArray ..
       have c8 := hI (show ∀ p (h : p < B.size), 48 ≤ (B[p]'h).toNat ∧ (B[p]'h).toNat ≤ 57 by
        subst J
        intro p h
        exact b7.out _ (List.getElem_mem (by rw [← ba]; exact h)))
       have c9 := hI J; have ca := hI ba; clear ba
       go_wp2_with fail
       rw [← J]; clear J
       go_loopw [5] (fun dv wr => ∃ pos : Nat, pos ≤ B.size ∧ wr = w9.iter B pos ∧ dv = .int .i64 (powV (o.text.take pos) : Nat)) (fun _ wr => B.size - wr.iterPos w9.heap.size)
       case atStart => exact ⟨0, Nat.zero_le _, rfl, rfl⟩
       obtain ⟨pos, d4, rfl, rfl⟩ := hrel
       by_cases hlt : pos < B.size
       ·
        obtain ⟨da, db⟩ := c8.out pos hlt
        have bb : ∀ ty, (Instr.next (.pointer (some ⟨w9.heap.size, 0, none⟩)) true ty).run Tryz.prog (w9.iter B pos) = _ := fun ty => run_next_ascii w9 B pos ty hlt (by omega)
        have bc := hI (show powV (o.text.take (pos + 1)) = min (10 * powV (o.text.take pos) + ((B[pos]'hlt).toNat - 48)) 17 by
         rw [List.take_succ_eq_append_getElem (by rw [← ca.out]; exact hlt), powV_app]; have J := c9.out; subst J
         rfl)
        have bd := powV_le (o.text.take pos)
        obtain ⟨q, M⟩ : ∃ q : Nat, q = (B[pos]'hlt).toNat := ⟨_, rfl⟩
        rw [← M] at bb da db bc
        obtain ⟨z, Y⟩ : ∃ z : Nat, z = powV (o.text.take pos) := ⟨_, rfl⟩
        rw [← Y] at bd bc ⊢; clear M Y; have e1 : IntKind.i32.wrap ((q : Int) - 48) = ((q - 48 : Nat) : Int) := (by rw [IntKind.wrap_i32]; omega); have e2 : IntKind.i64.wrap (10 * (z : Int)) = ((10 * z : Nat) : Int) := (by rw [IntKind.wrap_i64]; omega); have e3 : IntKind.i64.wrap ((q - 48 : Nat) : Int) = ((q - 48 : Nat) : Int) := (by rw [IntKind.wrap_i64]; omega); have e4 : IntKind.i64.wrap (((10 * z : Nat) : Int) + ((q - 48 : Nat) : Int)) = ((10 * z + (q - 48) : Nat) : Int) := (by rw [IntKind.wrap_i64]; omega)
        go_wp2
        go_roundw
        case rel => exact ⟨pos + 1, by omega, rfl, by rw [bc]; congr 1; omega⟩
        case measure => simp; omega
       obtain rfl : pos = B.size := by omega
       have bb : ∀ ty, (Instr.next (.pointer (some ⟨w9.heap.size, 0, none⟩)) true ty).run Tryz.prog (w9.iter B B.size) = _ := fun ty => run_next_end w9 B B.size ty hlt
       have cb := hI (show o.text.take B.size = o.text by rw [ca.out]; exact List.take_length); rw [cb.out]; have bd := powV_le o.text
       obtain ⟨z, Y⟩ : ∃ z : Nat, z = powV o.text := ⟨_, rfl⟩
       rw [← Y] at bd j ⊢; clear Y cb
       go_upto_region 16 with (fail)
       obtain ⟨Z, hw⟩ := eX (w9.iter B B.size); have aa := hI (show Below w9.heap.size w9 Z by rw [hw]; exact iter_below _ _ _); rw [← hw]; clear hw bb; have bf := hI ((aq.out.belowW I.out).belowW aa.out); have cc := hI (grown_tr (grown_tr bz.out (grown_of (some g) I.out)) (grown_of (some g) aa.out))
       by_cases hz16 : 16 < z
       ·
        have l := hI (show u = failP ts (k1 + 1) 2 by rw [j.out, if_pos hz16]); clear j; have d1 : decide ((16 : Int) < (z : Int)) = true := decide_eq_true (by omega)
        go_wp2_with fail
        refine (bf.out.fail 2).mono ?_
        rintro e E ⟨rfl, dd⟩
        go_wp2_with fail
        rw [l.out]
        exact ⟨rfl, exr_fail (hI (grown_tr cc.out (grown_of _ dd.out)))⟩
       have l := hI (show u = .ok (powE z T1) (k1 + 2) by rw [j.out, if_neg hz16]); clear j; have d1 : decide ((16 : Int) < (z : Int)) = false := decide_eq_false (by omega); have e1 : IntKind.i64.wrap (((k1 + 1 : Nat) : Int) + 1) = ((k1 + 2 : Nat) : Int) := (by rw [IntKind.wrap_i64]; omega); have d8 : IntKind.i64.wrap ((k1 : Int) + 1 + 1) = ((k1 + 2 : Nat) : Int) := (by rw [IntKind.wrap_i64]; omega); have HP := hI (show Blk Z g 140 #[.slice A len cap, .int .i64 ((k1 + 1 : Nat) : Int), .int .i64 (m : Nat)] from bf.out.p); obtain ⟨p0, f0, p1, f1, p2, f2⟩ := HP.out.all3
       go_upto_region 19 with (fail)
       rw [HP.out.setCell_eq]; have bh := hI (putB_grown Z g 140 #[.slice A len cap, .int .i64 ((k1 + 2 : Nat) : Int), .int .i64 (m : Nat)]); have cd := hI (bf.out.put (k1 + 2) m (by omega)); have ce := hI (((((E6.out.grown y.out bx.out).belowW X.out).belowW I.out).belowW aa.out).far (t' := 140) bw #[.slice A len cap, .int .i64 ((k1 + 2 : Nat) : Int), .int .i64 (m : Nat)]); have bi := hI (((((F6.out.grown y.out ab.out).belowW X.out).belowW I.out).belowW aa.out).far (t' := 140) am #[.slice A len cap, .int .i64 ((k1 + 2 : Nat) : Int), .int .i64 (m : Nat)]); have cf := hI (((((bu.out.mv a6 y.out).belowW X.out).belowW I.out).belowW aa.out).mv a6 bh.out); have cg := hI (grown_tr cc.out bh.out); obtain ⟨E, bj⟩ := eX (putB Z g 140 #[.slice A len cap, .int .i64 ((k1 + 2 : Nat) : Int), .int .i64 (m : Nat)]); have ch : putB Z g 140 ((#[.slice A len cap, .int .i64 ((k1 + 1 : Nat) : Int), .int .i64 (m : Nat)] : Array Value).setIfInBounds 1 (.int .i64 ((k1 : Int) + 2))) = E := (by rw [bj]; rfl); rw [← bj] at cd ce bi cf cg; rw [ch]; clear bj ch p0 f0 p1 f1 p2 f2 HP bh; obtain ⟨a0, b0, a1, b1, a2, b2, a3, b3, a4, b4, a5, b5⟩ := ce.out.all6; obtain ⟨wa, F, G, _⟩ := aX E 29 #[.int .i64 v.h.kind, .int .i64 v.h.n, .int .i64 v.h.d, .string v.h.name, .int .i64 v.h.k, .slice v.A v.len v.cap]; have H := bi.out.b9 G; have az := hI (show InX w.heap.size.succ wa (.mk ⟨8, 0, 0, ⟨#[]⟩, (z : Nat)⟩ [T1]) ⟨⟨8, 0, 0, ⟨#[]⟩, (z : Nat)⟩, some ⟨E.heap.size, 0, none⟩, 1, 1⟩ by rw [F]; exact inx_new1 E ⟨8, 0, 0, ⟨#[]⟩, (z : Nat)⟩ (hd_pow (by omega)) T1 v _ (Nat.succ_le_of_lt bi.out.lt) (cf.out.weaken (Nat.succ_le_of_lt W))); obtain ⟨r0, h0, r1, h1, r2, h2, r3, h3, r4, h4, r5, h5⟩ := H.out.all6; rw [F] at r0 r1 r2 r3 r4 r5 h0 h1 h2 h3 h4 h5
       go_wp2_with fail
       rw [← F]; rw [pst6 H.out]; obtain ⟨O, _, P, _, Q, _, R, _, S, _, U, _⟩ := (H.out.put #[.int .i64 8, .int .i64 0, .int .i64 0, .string ⟨#[]⟩, .int .i64 (z : Nat), .slice (some ⟨E.heap.size, 0, none⟩) 1 1]).all6
       refine bodyPost_ret (v := .agg #[.int .i64 8, .int .i64 0, .int .i64 0, .string ⟨#[]⟩, .int .i64 (z : Nat), .slice (some ⟨E.heap.size, 0, none⟩) 1 1]) (by simp [results, Tryz.results126, go_sem, O, P, Q, R, S, U]) rfl ?_
       rw [l.out]
       exact ⟨⟨⟨8, 0, 0, ⟨#[]⟩, (z : Nat)⟩, some ⟨E.heap.size, 0, none⟩, 1, 1⟩, rfl, hI ((az.out.far (Nat.lt_succ_self _) _ _).weaken (Nat.le_succ _)), hI (grown_new (grown_tr cg.out (grown_of (some g) G.out)) (Nat.le_refl _) _ _), hI ((cd.out.belowW G.out).far am av _ _)⟩
 | false =>
  have C := hI (C.out.trans (if_neg (fun e => by have := L.out.1 e.1; cases this)))
  cases bs with
  | true =>
   have ao := cj.out.2 (by first | rfl | trivial); have j := hI (C.out.trans (if_pos ao)); have hro1 := hro1 ao; have au := hI (au.out ao); clear C ao; have KD := hI (deeper_factor cl.out (by omega) hm r1 hro1 au.out); obtain ⟨r2, hr2⟩ := eX ((if m = 100 then failP ts k 5 else r1)); rw [← hr2] at KD; have L := hI hr2; clear hr2; have W : w.heap.size < w3.heap.size := F3.out.lt
   cases r2 with
   | out =>
    exfalso
    have x := L.out
    split at x
    ·
     exact fail_out x.symm
    exact hro1 x.symm
   | bad ln co er =>
    have l := hI (show u = .bad ln co er by
     have x := L.out; rw [j.out]
     split at x
     ·
      rename_i h8
      rw [if_pos h8, x]
     rename_i h8
     rw [if_neg h8, ← x])
    clear j L
    go_wp2_with fail
    refine KD.out.mono ?_
    rintro e w5 ⟨rfl, r⟩
    go_wp2_with fail
    rw [l.out]
    exact ⟨rfl, exr_bad (hI (grown_tr bn.out r.out))⟩
   | ok T1 k1 =>
    have l := hI (show u = .ok (opE 7 [T1]) k1 by
     have x := L.out; rw [j.out]
     split at x
     ·
      exact (fail_ok x.symm).elim
     rename_i h8
     rw [if_neg h8, ← x])
    clear j L
    go_wp2_with fail
    refine KD.out.mono ?_
    rintro e w5 ⟨v, rfl, ax, r, V⟩; have F5 := hI (F3.out.grown r.out ab.out); obtain ⟨wa, F, G, _⟩ := aX w5 29 #[.int .i64 v.h.kind, .int .i64 v.h.n, .int .i64 v.h.d, .string v.h.name, .int .i64 v.h.k, .slice v.A v.len v.cap]; have H := F5.out.b9 G; have az := hI (show InX w.heap.size.succ wa (.mk ⟨7, 0, 0, ⟨#[]⟩, 0⟩ [T1]) ⟨⟨7, 0, 0, ⟨#[]⟩, 0⟩, some ⟨w5.heap.size, 0, none⟩, 1, 1⟩ by rw [F]; exact inx_new1 w5 ⟨7, 0, 0, ⟨#[]⟩, 0⟩ (hd_op (kd := 7) (by decide)) T1 v _ (Nat.succ_le_of_lt F5.out.lt) (ax.out.weaken (Nat.succ_le_of_lt W))); obtain ⟨r0, h0, r1, h1, r2, h2, r3, h3, r4, h4, r5, h5⟩ := H.out.all6; rw [F] at r0 r1 r2 r3 r4 r5 h0 h1 h2 h3 h4 h5
    go_wp2_with fail
    rw [← F]; rw [pst6 H.out]; obtain ⟨O, _, P, _, Q, _, R, _, S, _, U, _⟩ := (H.out.put #[.int .i64 7, .int .i64 0, .int .i64 0, .string ⟨#[]⟩, .int .i64 0, .slice (some ⟨w5.heap.size, 0, none⟩) 1 1]).all6
    refine bodyPost_ret (v := .agg #[.int .i64 7, .int .i64 0, .int .i64 0, .string ⟨#[]⟩, .int .i64 0, .slice (some ⟨w5.heap.size, 0, none⟩) 1 1]) (by simp [results, Tryz.results126, go_sem, O, P, Q, R, S, U]) rfl ?_
    rw [l.out]
    exact ⟨⟨⟨7, 0, 0, ⟨#[]⟩, 0⟩, some ⟨w5.heap.size, 0, none⟩, 1, 1⟩, rfl, hI ((az.out.far (Nat.lt_succ_self _) _ _).weaken (Nat.le_succ _)), hI (grown_new (grown_tr (grown_tr bn.out r.out) (grown_of (some g) G.out)) (Nat.le_refl _) _ _), hI ((V.out.belowW G.out).far am av _ _)⟩
  | false =>
   have j := hI (C.out.trans (if_neg (fun e => by have := cj.out.1 e; cases this))); clear C; have KA := hI (dk.out w3 cl.out); have W : w.heap.size < w3.heap.size := F3.out.lt; have a6 : g < w3.heap.size := cl.out.gl
   cases r2 with
   | out => exact (hr2 rfl).elim
   | bad ln co er =>
    have l := hI (show u = .bad ln co er from j.out); clear j
    go_wp2_with fail
    refine KA.out.mono ?_
    rintro e w5 ⟨rfl, r⟩
    go_wp2_with fail
    rw [l.out]
    exact ⟨rfl, exr_bad (hI (grown_tr bn.out r.out))⟩
   | ok T1 k1 =>
    have d3 := hrk T1 k1 rfl
    have j := hI (show u = (if isS false ts k1 [94] then
     if integerP ts (k1 + 1) = false then unex ts (k1 + 1)
     else if 16 < powV (tk ts (k1 + 1)).text then failP ts (k1 + 1) 2
     else .ok (powE (powV (tk ts (k1 + 1)).text) T1) (k1 + 2)
     else .ok T1 k1) from j.out)
    go_wp2_with fail
    refine KA.out.mono ?_
    rintro e w5 ⟨v, rfl, ax, r, V⟩
    go_upto_region 7 with (fail)
    obtain ⟨w6, br, N, E6⟩ := aX w5 29 #[.int .i64 v.h.kind, .int .i64 v.h.n, .int .i64 v.h.d, .string v.h.name, .int .i64 v.h.k, .slice v.A v.len v.cap]; rw [← br]; clear br; have F6 := hI ((F3.out.grown r.out ab.out).belowW N.out); have bu := ax.out.b9 N; have bv := hI (grown_tr (grown_tr bn.out r.out) (grown_of (some g) N.out)); have bw : w5.heap.size ≠ g := Nat.ne_of_gt V.out.gl; have bx := hI (show some w5.heap.size ≠ some g from fun e => bw (Option.some.inj e)); have KC := hI (pAccept (V.out.belowW N.out) (by omega) ⟨#[94]⟩); rw [show kwP (⟨#[94]⟩ : ByteArray).data.toList = false by decide, show (⟨#[94]⟩ : ByteArray).data.toList = [94] from rfl] at KC
    obtain ⟨c, hc⟩ : ∃ c, isS false ts k1 [94] = c := ⟨_, rfl⟩
    rw [hc] at KC j; clear hc
    cases c with
    | false =>
     have l := hI (show u = .ok T1 k1 from j.out); clear j
     go_wp2_with fail
     refine KC.out.mono ?_
     rintro e w7 ⟨rfl, y, D⟩; have D : Hid (Env w0 g A len cap ts k1 m w7) := D; have F7 := hI (F6.out.grown y.out ab.out); obtain ⟨a0, b0, a1, b1, a2, b2, a3, b3, a4, b4, a5, b5⟩ := (E6.out.grown y.out bx.out).all6; obtain ⟨r0, h0, r1, h1, r2, h2, r3, h3, r4, h4, r5, h5⟩ := F7.out.all6
     go_wp2_with fail
     rw [pst6 F7.out]; obtain ⟨O, _, P, _, Q, _, R, _, S, _, U, _⟩ := (F7.out.put #[.int .i64 v.h.kind, .int .i64 v.h.n, .int .i64 v.h.d, .string v.h.name, .int .i64 v.h.k, .slice v.A v.len v.cap]).all6
     refine bodyPost_ret (v := .agg #[.int .i64 v.h.kind, .int .i64 v.h.n, .int .i64 v.h.d, .string v.h.name, .int .i64 v.h.k, .slice v.A v.len v.cap]) (by simp [results, Tryz.results126, go_sem, O, P, Q, R, S, U]) rfl ?_
     rw [l.out]
     exact ⟨v, rfl, hI (((bu.out.mv a6 y.out).far W _ _).weaken (Nat.le_of_lt W)), hI (grown_new (grown_tr bv.out y.out) (Nat.le_refl _) _ _), hI (D.out.far am av _ _)⟩
    | true =>
     have j := hI (show u = (if integerP ts (k1 + 1) = false then unex ts (k1 + 1)
      else if 16 < powV (tk ts (k1 + 1)).text then failP ts (k1 + 1) 2
      else .ok (powE (powV (tk ts (k1 + 1)).text) T1) (k1 + 2)) from j.out)
     go_wp2_with fail
     refine KC.out.mono ?_
     rintro e w7 ⟨rfl, y, D⟩; have D : Hid (Env w0 g A len cap ts (k1 + 1) m w7) := D; have KI := hI (pInteger D.out 0 (by omega)); rw [Nat.add_zero] at KI
     obtain ⟨i, hi⟩ : ∃ i, integerP ts (k1 + 1) = i := ⟨_, rfl⟩
     rw [hi] at KI j; have HI := hI hi; clear hi
     go_wp2_with fail
     refine KI.out.mono ?_
     rintro e w8 ⟨rfl, X⟩; have aq : Hid (Env w0 g A len cap ts (k1 + 1) m w8) := D.out.b9 X; have bz := hI (grown_tr (grown_tr bv.out y.out) (grown_of (some g) X.out))
     cases i with
     | false =>
      have l := hI (show u = unex ts (k1 + 1) from j.out); clear j
      go_wp2_with fail
      refine aq.out.unx.mono ?_
      rintro e w9 ⟨he, I⟩; obtain ⟨c, hc⟩ := panU_pan ts _; have HC := hI hc; rw [hc] at he; subst he; clear hc
      go_wp2_with fail
      rw [l.out]
      exact ⟨rfl, exr_unex HC.out.symm (hI (grown_tr bz.out (grown_of _ I.out)))⟩
     | true =>
      have j := hI (show u = (if 16 < powV (tk ts (k1 + 1)).text then failP ts (k1 + 1) 2 else .ok (powE (powV (tk ts (k1 + 1)).text) T1) (k1 + 2)) from j.out); have b7 := hI (int_digits hD HI.out); have KT := hI (show Calls Tryz.prog 124 #[.pointer (some ⟨g, 0, none⟩), .int .i64 ((0 : Nat) : Int)] w8 (RetB (tokV (tk ts (k1 + 1))) w8) from aq.out.tok 0 (by omega)); have c7 : (tk ts (k1 + 1)).text.length ≤ 100 := (aq.out.t.tk (k1 + 1)).1; obtain ⟨o, b8⟩ := eX (tk ts (k1 + 1)); rw [← b8] at KT c7 j b7; clear b8
      go_wp2_with fail
      refine KT.out.mono ?_
      rintro e w9 ⟨rfl, I⟩; have hF := tokF1 o
      obtain ⟨B, J⟩ : ∃ B : ByteArray, B = ⟨o.text.toArray⟩ := ⟨_, rfl⟩
      have ba : B.size = o.text.length := by rw [J]; exact List.size_toArray ..
      have c8 := hI (show ∀ p (h : p < B.size), 48 ≤ (B[p]'h).toNat ∧ (B[p]'h).toNat ≤ 57 by
       subst J
       intro p h
       exact b7.out _ (List.getElem_mem (by rw [← ba]; exact h)))
      have c9 := hI J; have ca := hI ba; clear ba
      go_wp2_with fail
      rw [← J]; clear J
      go_loopw [5] (fun dv wr => ∃ pos : Nat, pos ≤ B.size ∧ wr = w9.iter B pos ∧ dv = .int .i64 (powV (o.text.take pos) : Nat)) (fun _ wr => B.size - wr.iterPos w9.heap.size)
      case atStart => exact ⟨0, Nat.zero_le _, rfl, rfl⟩
      obtain ⟨pos, d4, rfl, rfl⟩ := hrel
      by_cases hlt : pos < B.size
      ·
       obtain ⟨da, db⟩ := c8.out pos hlt
       have bb : ∀ ty, (Instr.next (.pointer (some ⟨w9.heap.size, 0, none⟩)) true ty).run Tryz.prog (w9.iter B pos) = _ := fun ty => run_next_ascii w9 B pos ty hlt (by omega)
       have bc := hI (show powV (o.text.take (pos + 1)) = min (10 * powV (o.text.take pos) + ((B[pos]'hlt).toNat - 48)) 17 by
        rw [List.take_succ_eq_append_getElem (by rw [← ca.out]; exact hlt), powV_app]; have J := c9.out; subst J
        rfl)
       have bd := powV_le (o.text.take pos)
       obtain ⟨q, M⟩ : ∃ q : Nat, q = (B[pos]'hlt).toNat := ⟨_, rfl⟩
       rw [← M] at bb da db bc
       obtain ⟨z, Y⟩ : ∃ z : Nat, z = powV (o.text.take pos) := ⟨_, rfl⟩
       rw [← Y] at bd bc ⊢; clear M Y; have e1 : IntKind.i32.wrap ((q : Int) - 48) = ((q - 48 : Nat) : Int) := (by rw [IntKind.wrap_i32]; omega); have e2 : IntKind.i64.wrap (10 * (z : Int)) = ((10 * z : Nat) : Int) := (by rw [IntKind.wrap_i64]; omega); have e3 : IntKind.i64.wrap ((q - 48 : Nat) : Int) = ((q - 48 : Nat) : Int) := (by rw [IntKind.wrap_i64]; omega); have e4 : IntKind.i64.wrap (((10 * z : Nat) : Int) + ((q - 48 : Nat) : Int)) = ((10 * z + (q - 48) : Nat) : Int) := (by rw [IntKind.wrap_i64]; omega)
       go_wp2
       go_roundw
       case rel => exact ⟨pos + 1, by omega, rfl, by rw [bc]; congr 1; omega⟩
       case measure => simp; omega
      obtain rfl : pos = B.size := by omega
      have bb : ∀ ty, (Instr.next (.pointer (some ⟨w9.heap.size, 0, none⟩)) true ty).run Tryz.prog (w9.iter B B.size) = _ := fun ty => run_next_end w9 B B.size ty hlt
      have cb := hI (show o.text.take B.size = o.text by rw [ca.out]; exact List.take_length); rw [cb.out]; have bd := powV_le o.text
      obtain ⟨z, Y⟩ : ∃ z : Nat, z = powV o.text := ⟨_, rfl⟩
      rw [← Y] at bd j ⊢; clear Y cb
      go_upto_region 16 with (fail)
      obtain ⟨Z, hw⟩ := eX (w9.iter B B.size); have aa := hI (show Below w9.heap.size w9 Z by rw [hw]; exact iter_below _ _ _); rw [← hw]; clear hw bb; have bf := hI ((aq.out.belowW I.out).belowW aa.out); have cc := hI (grown_tr (grown_tr bz.out (grown_of (some g) I.out)) (grown_of (some g) aa.out))
      by_cases hz16 : 16 < z
      ·
       have l := hI (show u = failP ts (k1 + 1) 2 by rw [j.out, if_pos hz16]); clear j; have d1 : decide ((16 : Int) < (z : Int)) = true := decide_eq_true (by omega)
       go_wp2_with fail
       refine (bf.out.fail 2).mono ?_
       rintro e E ⟨rfl, dd⟩
       go_wp2_with fail
       rw [l.out]
       exact ⟨rfl, exr_fail (hI (grown_tr cc.out (grown_of _ dd.out)))⟩
      have l := hI (show u = .ok (powE z T1) (k1 + 2) by rw [j.out, if_neg hz16]); clear j; have d1 : decide ((16 : Int) < (z : Int)) = false := decide_eq_false (by omega); have e1 : IntKind.i64.wrap (((k1 + 1 : Nat) : Int) + 1) = ((k1 + 2 : Nat) : Int) := (by rw [IntKind.wrap_i64]; omega); have d8 : IntKind.i64.wrap ((k1 : Int) + 1 + 1) = ((k1 + 2 : Nat) : Int) := (by rw [IntKind.wrap_i64]; omega); have HP := hI (show Blk Z g 140 #[.slice A len cap, .int .i64 ((k1 + 1 : Nat) : Int), .int .i64 (m : Nat)] from bf.out.p); obtain ⟨p0, f0, p1, f1, p2, f2⟩ := HP.out.all3
      go_upto_region 19 with (fail)
      rw [HP.out.setCell_eq]; have bh := hI (putB_grown Z g 140 #[.slice A len cap, .int .i64 ((k1 + 2 : Nat) : Int), .int .i64 (m : Nat)]); have cd := hI (bf.out.put (k1 + 2) m (by omega)); have ce := hI (((((E6.out.grown y.out bx.out).belowW X.out).belowW I.out).belowW aa.out).far (t' := 140) bw #[.slice A len cap, .int .i64 ((k1 + 2 : Nat) : Int), .int .i64 (m : Nat)]); have bi := hI (((((F6.out.grown y.out ab.out).belowW X.out).belowW I.out).belowW aa.out).far (t' := 140) am #[.slice A len cap, .int .i64 ((k1 + 2 : Nat) : Int), .int .i64 (m : Nat)]); have cf := hI (((((bu.out.mv a6 y.out).belowW X.out).belowW I.out).belowW aa.out).mv a6 bh.out); have cg := hI (grown_tr cc.out bh.out); obtain ⟨E, bj⟩ := eX (putB Z g 140 #[.slice A len cap, .int .i64 ((k1 + 2 : Nat) : Int), .int .i64 (m : Nat)]); have ch : putB Z g 140 ((#[.slice A len cap, .int .i64 ((k1 + 1 : Nat) : Int), .int .i64 (m : Nat)] : Array Value).setIfInBounds 1 (.int .i64 ((k1 : Int) + 2))) = E := (by rw [bj]; rfl); rw [← bj] at cd ce bi cf cg; rw [ch]; clear bj ch p0 f0 p1 f1 p2 f2 HP bh; obtain ⟨a0, b0, a1, b1, a2, b2, a3, b3, a4, b4, a5, b5⟩ := ce.out.all6; obtain ⟨wa, F, G, _⟩ := aX E 29 #[.int .i64 v.h.kind, .int .i64 v.h.n, .int .i64 v.h.d, .string v.h.name, .int .i64 v.h.k, .slice v.A v.len v.cap]; have H := bi.out.b9 G; have az := hI (show InX w.heap.size.succ wa (.mk ⟨8, 0, 0, ⟨#[]⟩, (z : Nat)⟩ [T1]) ⟨⟨8, 0, 0, ⟨#[]⟩, (z : Nat)⟩, some ⟨E.heap.size, 0, none⟩, 1, 1⟩ by rw [F]; exact inx_new1 E ⟨8, 0, 0, ⟨#[]⟩, (z : Nat)⟩ (hd_pow (by omega)) T1 v _ (Nat.succ_le_of_lt bi.out.lt) (cf.out.weaken (Nat.succ_le_of_lt W))); obtain ⟨r0, h0, r1, h1, r2, h2, r3, h3, r4, h4, r5, h5⟩ := H.out.all6; rw [F] at r0 r1 r2 r3 r4 r5 h0 h1 h2 h3 h4 h5
      go_wp2_with fail
      rw [← F]; rw [pst6 H.out]; obtain ⟨O, _, P, _, Q, _, R, _, S, _, U, _⟩ := (H.out.put #[.int .i64 8, .int .i64 0, .int .i64 0, .string ⟨#[]⟩, .int .i64 (z : Nat), .slice (some ⟨E.heap.size, 0, none⟩) 1 1]).all6
      refine bodyPost_ret (v := .agg #[.int .i64 8, .int .i64 0, .int .i64 0, .string ⟨#[]⟩, .int .i64 (z : Nat), .slice (some ⟨E.heap.size, 0, none⟩) 1 1]) (by simp [results, Tryz.results126, go_sem, O, P, Q, R, S, U]) rfl ?_
      rw [l.out]
      exact ⟨⟨⟨8, 0, 0, ⟨#[]⟩, (z : Nat)⟩, some ⟨E.heap.size, 0, none⟩, 1, 1⟩, rfl, hI ((az.out.far (Nat.lt_succ_self _) _ _).weaken (Nat.le_succ _)), hI (grown_new (grown_tr cg.out (grown_of (some g) G.out)) (Nat.le_refl _) _ _), hI ((cd.out.belowW G.out).far am av _ _)⟩
end Go.Proofs.YtkjoohnndobjeaaGreatDoor
