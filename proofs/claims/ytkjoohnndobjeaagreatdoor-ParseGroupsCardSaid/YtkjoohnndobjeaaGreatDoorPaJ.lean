/-
  The walk of the parser's factors.
-/
import Derived.Test.YtkjoohnndobjeaaGreatDoorPaI
set_option linter.unusedVariables false
namespace Go.Proofs.YtkjoohnndobjeaaGreatDoor
open Go.RowKit Go.Fl Go.Fl.Lx Go.Fl.Nm Go.Fl.Fm Go.Fl.Rt Go.Fl.Pa
open List (setIfInBounds_toArray set_cons_zero set_cons_succ getElem_toArray getElem_cons_zero getElem_cons_succ)
/-- What a factor comes to, with what a factor behind a sign (r1), and an atom (r2), come to. -/
def factorR (ts : List Tok) (k m : Nat) (r1 r2 : PR TE) : PR TE :=
  if (tk ts (k + signP ts k)).kind = 2 ∧ isS false ts (k + signP ts k + 1) [94] = false then (numP ts k).map numE
  else if signP ts k = 1 then
    if m = 100 then failP ts k 5
    else
      match r1 with
      | .ok e k1 => .ok (opE 7 [e]) k1
      | r => r
  else
    match r2 with
    | .ok e k1 =>
      if isS false ts k1 [94] then
        if integerP ts (k1 + 1) = false then unex ts (k1 + 1)
        else if 16 < powV (tk ts (k1 + 1)).text then failP ts (k1 + 1) 2
        else .ok (powE (powV (tk ts (k1 + 1)).text) e) (k1 + 2)
      else .ok e k1
    | r => r
theorem factorP_eq (nm : List UInt8 → Bool) (ts : List Tok) (f k m : Nat) : factorP nm ts (f + 1) k m = factorR ts k m (factorP nm ts f (k + 1) (m + 1)) (atomP nm ts f k m) := by
  rw [factorP.eq_def]
  rfl
/-- Number tokens are digits and points. -/
def DigTs (ts : List Tok) : Prop := ∀ k, (tk ts k).kind = 2 → ∀ c ∈ (tk ts k).text, c.toNat = 46 ∨ (48 ≤ c.toNat ∧ c.toNat ≤ 57)
theorem int_digits {ts : List Tok} {k : Nat} (h : DigTs ts) (hi : integerP ts k = true) : ∀ c ∈ (tk ts k).text, 48 ≤ c.toNat ∧ c.toNat ≤ 57 := by
  unfold integerP at hi
  rw [Bool.and_eq_true, beq_iff_eq, Bool.not_eq_true'] at hi
  intro c hc
  rcases h k hi.1 c hc with e | e
  · exfalso
    have h46 : c = 46 := UInt8.toNat_inj.1 e
    rw [h46] at hc
    rw [Bool.eq_false_iff] at hi
    exact hi.2 (List.contains_iff_mem.2 hc)
  · exact e
theorem powV_app (l : List UInt8) (b : UInt8) : powV (l ++ [b]) = min (10 * powV l + (b.toNat - 48)) 17 := by simp [powV]
theorem powV_le (l : List UInt8) : powV l ≤ 17 := by
  rcases List.eq_nil_or_concat l with rfl | ⟨a, b, rfl⟩
  · exact Nat.zero_le _
  · rw [List.concat_eq_append, powV_app]; omega
theorem hd_pow {v : Nat} (h : v ≤ 16) : HdOk ⟨8, 0, 0, ⟨#[]⟩, v⟩ := by
  refine ⟨?_, ?_, ?_, ?_, ?_, ?_, ?_, ?_, Nat.zero_le _⟩ <;> simp only <;> omega

set_option maxHeartbeats 4000000 in
set_option maxRecDepth 100000 in
theorem pFactor {w0 w : World} {g : Nat} {A : Option Addr} {len cap : Nat} {ts : List Tok} {k m : Nat} (h : Env w0 g A len cap ts k m w) (hk : k ≤ 105000) (hm : m ≤ 100) (hR : RX w0) (hD : DigTs ts) (r1 r2 : PR TE) (hro1 : signP ts k = 1 → r1 ≠ .out) (hr2 : r2 ≠ .out) (hrk : ∀ T k1, r2 = .ok T k1 → k1 ≤ 105000)
    (K1 : signP ts k = 1 → m ≠ 100 → ∀ w', Env w0 g A len cap ts (k + 1) (m + 1) w' → Calls Tryz.prog 126 #[.pointer (some ⟨g, 0, none⟩)] w' (ExR w0 g A len cap ts (m + 1) r1 w'))
    (K2 : ∀ w', Env w0 g A len cap ts k m w' → Calls Tryz.prog 158 #[.pointer (some ⟨g, 0, none⟩)] w' (ExR w0 g A len cap ts m r2 w')) :
    Calls Tryz.prog 126 #[.pointer (some ⟨g, 0, none⟩)] w (ExR w0 g A len cap ts m (factorR ts k m r1 r2) w) := by
  have HK1 := Lib.hid K1
  have HK2 := Lib.hid K2
  obtain ⟨RR, hRR⟩ : ∃ RR, RR = factorR ts k m r1 r2 := ⟨_, rfl⟩
  have HRR := Lib.hid hRR
  rw [← hRR]
  clear K1 K2 hRR
  go_enter Tryz.func126, Tryz.ntmps126
  go_upto_region 1 with (fail)
  obtain ⟨w1, hw1⟩ : ∃ z9 : World, z9 = w.alloc (Obj.cells #[.int .i64 0, .int .i64 0, .int .i64 0, .string ⟨#[]⟩, .int .i64 0, .slice none 0 0] 29) := ⟨_, rfl⟩
  have O1 := Lib.hid (show Below w.heap.size w w1 by rw [hw1]; exact below_box _ _)
  have F1 := Lib.hid (show Blk w1 w.heap.size 29 #[.int .i64 0, .int .i64 0, .int .i64 0, .string ⟨#[]⟩, .int .i64 0, .slice none 0 0] by rw [hw1]; exact Blk.new _ _ _)
  rw [← hw1]
  clear hw1
  have HNE := Lib.hid (show some w.heap.size ≠ some g from fun e => by have := h.gl; injection e with e; omega)
  have hwr : w.heap.size ≠ g := fun e => HNE.out (by rw [e])
  have hlr : w0.heap.size ≤ w.heap.size := h.b.size
  have hgl : g < w.heap.size := h.gl
  have HV1 := Lib.hid (h.belowW O1.out)
  have HG1 := Lib.hid (grown_of (some g) O1.out)
  have hr1 : w.heap.size < w1.heap.size := F1.out.lt
  clear h
  unfold factorR at HRR
  have hs1 := signP_le ts k
  obtain ⟨s, hss⟩ : ∃ s, s = signP ts k := ⟨_, rfl⟩
  have KS := Lib.hid (pSign HV1.out)
  rw [← hss] at KS HRR HK1 hro1 hs1
  clear hss
  go_wp2_with fail
  refine KS.out.mono ?_
  rintro e w2 ⟨rfl, HB2⟩
  have HV2 := Lib.hid (HV1.out.belowW HB2.out)
  have F2 := Lib.hid (F1.out.belowW HB2.out)
  have HG2 := Lib.hid (grown_tr HG1.out (grown_of (some g) HB2.out))
  have KT := Lib.hid (HV2.out.tok s (by omega))
  obtain ⟨T, hTT⟩ : ∃ t, t = tk ts (k + s) := ⟨_, rfl⟩
  rw [← hTT] at KT HRR
  obtain ⟨b2, hb2⟩ : ∃ b, ((T.kind : Int) == 2) = b := ⟨_, rfl⟩
  have HR2 := Lib.hid (show (T.kind = 2) ↔ b2 = true by rw [← hb2, beq_iff_eq]; omega)
  obtain ⟨c, hc⟩ : ∃ c, isS false ts (k + (s + 1)) [94] = c := ⟨_, rfl⟩
  rw [Nat.add_assoc k s 1, hc] at HRR
  have e1 : IntKind.i64.wrap ((s : Int) + 1) = (s : Int) + 1 := by rw [IntKind.wrap_i64]; omega
  obtain ⟨bs, hbs⟩ : ∃ b, ((s : Int) == 1) = b := ⟨_, rfl⟩
  have HRS := Lib.hid (show (s = 1) ↔ bs = true by rw [← hbs, beq_iff_eq]; omega)
  have KU := Lib.hid (fun (w3 : World) (hb : Below w2.heap.size w2 w3) => pIs (HV2.out.belowW hb) (s + 1) (by omega) ⟨#[94]⟩)
  rw [show kwP (⟨#[94]⟩ : ByteArray).data.toList = false by decide, show (⟨#[94]⟩ : ByteArray).data.toList = [94] from rfl, hc] at KU
  clear hTT hc
  go_wp2_with fail
  refine KT.out.mono ?_
  rintro e w3 ⟨rfl, HB3⟩
  have hF := tokF0 T
  have HV3 := Lib.hid (HV2.out.belowW HB3.out)
  have F3 := Lib.hid (F2.out.belowW HB3.out)
  have HG3 := Lib.hid (grown_tr HG2.out (grown_of (some g) HB3.out))
  cases b2 with
  | true =>
    go_wp2_with fail
    refine (KU.out w3 HB3.out).mono ?_
    rintro e w4 ⟨rfl, HB4⟩
    have HV4 := Lib.hid (HV3.out.belowW HB4.out)
    have F4 := Lib.hid (F3.out.belowW HB4.out)
    have HG4 := Lib.hid (grown_tr HG3.out (grown_of (some g) HB4.out))
    cases c with
    | false =>
      have HE1 := Lib.hid (show RR = (numP ts k).map numE by rw [HRR.out, if_pos ⟨HR2.out.2 (by first | rfl | trivial), rfl⟩])
      clear HRR
      have KN := Lib.hid (pNumber HV4.out (by omega) hR)
      cases hq : numP ts k with
      | out => exact (numP_out hq).elim
      | bad ln co er =>
        have HE := Lib.hid (show RR = .bad ln co er by rw [HE1.out, hq]; rfl)
        rw [hq] at KN
        clear hq HE1
        go_wp2_with fail
        refine KN.out.mono ?_
        rintro e w5 ⟨rfl, HG5⟩
        go_wp2_with fail
        rw [HE.out]
        exact ⟨rfl, exr_bad (Lib.hid (grown_tr HG4.out HG5.out))⟩
      | ok a k1 =>
        have HE := Lib.hid (show RR = .ok (numE a) k1 by rw [HE1.out, hq]; rfl)
        have hsm := hd_num (numP_small2 hq)
        rw [hq] at KN
        clear hq HE1
        obtain ⟨n, d⟩ := a
        go_wp2_with fail
        refine KN.out.mono ?_
        rintro e w5 ⟨rfl, HG5, HV5⟩
        have F5 := Lib.hid (F4.out.grown HG5.out HNE.out)
        go_wp2_with fail
        refine (pNum (n, d) w5).mono ?_
        rintro e w6 ⟨rfl, HB6⟩
        have F6 := Lib.hid (F5.out.belowW HB6.out)
        have HV6 := Lib.hid (HV5.out.belowW HB6.out)
        have HG6 := Lib.hid (grown_tr HG4.out (grown_tr HG5.out (grown_of (some g) HB6.out)))
        simp only [ndR, Nd.val]
        obtain ⟨r0, h0, r1, h1, r2, h2, r3, h3, r4, h4, r5, h5⟩ := F6.out.all6
        go_wp2_with fail
        rw [pst6 F6.out]
        have FZ := Lib.hid (F6.out.put #[.int .i64 1, .int .i64 n, .int .i64 d, .string ⟨#[]⟩, .int .i64 0, .slice none 0 0])
        obtain ⟨z0, _, z1, _, z2, _, z3, _, z4, _, z5, _⟩ := FZ.out.all6
        refine bodyPost_ret (v := .agg #[.int .i64 1, .int .i64 n, .int .i64 d, .string ⟨#[]⟩, .int .i64 0, .slice none 0 0]) (by simp [results, Tryz.results126, go_sem, z0, z1, z2, z3, z4, z5]) rfl ?_
        rw [HE.out]
        exact ⟨ndR (n, d), rfl, Lib.hid (inx_leaf _ _ _ hsm), Lib.hid (grown_new HG6.out (Nat.le_refl _) _ _), Lib.hid (HV6.out.far hwr hlr _ _)⟩
    | true =>
      have HRR := Lib.hid (HRR.out.trans (if_neg (fun e => by cases e.2)))
      cases bs with
      | true =>
        have hs9 := HRS.out.2 (by first | rfl | trivial)
        have HE1 := Lib.hid (HRR.out.trans (if_pos hs9))
        have hro1 := hro1 hs9
        have HK1 := Lib.hid (HK1.out hs9)
        clear HRR hs9
        have KD := Lib.hid (deeper_factor HV4.out (by omega) hm r1 hro1 HK1.out)
        obtain ⟨r2, hr2⟩ : ∃ r2, r2 = (if m = 100 then failP ts k 5 else r1) := ⟨_, rfl⟩
        rw [← hr2] at KD
        have HR2 := Lib.hid hr2
        clear hr2
        have hrw : w.heap.size < w4.heap.size := F4.out.lt
        cases r2 with
        | out =>
          exfalso
          have h9 := HR2.out
          split at h9
          · exact fail_out h9.symm
          · exact hro1 h9.symm
        | bad ln co er =>
          have HE := Lib.hid (show RR = .bad ln co er by
            have h9 := HR2.out
            rw [HE1.out]
            split at h9
            · rename_i h8
              rw [if_pos h8, h9]
            · rename_i h8
              rw [if_neg h8, ← h9])
          clear HE1 HR2
          go_wp2_with fail
          refine KD.out.mono ?_
          rintro e w5 ⟨rfl, HG5⟩
          go_wp2_with fail
          rw [HE.out]
          exact ⟨rfl, exr_bad (Lib.hid (grown_tr HG4.out HG5.out))⟩
        | ok T1 k1 =>
          have HE := Lib.hid (show RR = .ok (opE 7 [T1]) k1 by
            have h9 := HR2.out
            rw [HE1.out]
            split at h9
            · exact (fail_ok h9.symm).elim
            · rename_i h8
              rw [if_neg h8, ← h9])
          clear HE1 HR2
          go_wp2_with fail
          refine KD.out.mono ?_
          rintro e w5 ⟨v, rfl, HX5, HG5, HV5⟩
          have F5 := Lib.hid (F4.out.grown HG5.out HNE.out)
          have HG6 := Lib.hid (grown_tr HG4.out HG5.out)
          obtain ⟨wa, hwa⟩ : ∃ z9 : World, z9 = w5.alloc (Obj.cells #[.int .i64 v.h.kind, .int .i64 v.h.n, .int .i64 v.h.d, .string v.h.name, .int .i64 v.h.k, .slice v.A v.len v.cap] 29) := ⟨_, rfl⟩
          have HBa := Lib.hid (show Below w5.heap.size w5 wa by rw [hwa]; exact below_box _ _)
          have FA := Lib.hid (F5.out.belowW HBa.out)
          have HVA := Lib.hid (HV5.out.belowW HBa.out)
          have HGA := Lib.hid (grown_tr HG6.out (grown_of (some g) HBa.out))
          have HXA := Lib.hid (show InX w.heap.size.succ wa (.mk ⟨7, 0, 0, ⟨#[]⟩, 0⟩ [T1]) ⟨⟨7, 0, 0, ⟨#[]⟩, 0⟩, some ⟨w5.heap.size, 0, none⟩, 1, 1⟩ by rw [hwa]; exact inx_new1 w5 ⟨7, 0, 0, ⟨#[]⟩, 0⟩ (hd_op (kd := 7) (by decide)) T1 v _ (Nat.succ_le_of_lt F5.out.lt) (HX5.out.weaken (Nat.succ_le_of_lt hrw)))
          obtain ⟨r0, h0, r1, h1, r2, h2, r3, h3, r4, h4, r5, h5⟩ := FA.out.all6
          rw [hwa] at r0 r1 r2 r3 r4 r5 h0 h1 h2 h3 h4 h5
          go_wp2_with fail
          rw [← hwa]
          rw [pst6 FA.out]
          have FZ := Lib.hid (FA.out.put #[.int .i64 7, .int .i64 0, .int .i64 0, .string ⟨#[]⟩, .int .i64 0, .slice (some ⟨w5.heap.size, 0, none⟩) 1 1])
          obtain ⟨z0, _, z1, _, z2, _, z3, _, z4, _, z5, _⟩ := FZ.out.all6
          refine bodyPost_ret (v := .agg #[.int .i64 7, .int .i64 0, .int .i64 0, .string ⟨#[]⟩, .int .i64 0, .slice (some ⟨w5.heap.size, 0, none⟩) 1 1]) (by simp [results, Tryz.results126, go_sem, z0, z1, z2, z3, z4, z5]) rfl ?_
          rw [HE.out]
          exact ⟨⟨⟨7, 0, 0, ⟨#[]⟩, 0⟩, some ⟨w5.heap.size, 0, none⟩, 1, 1⟩, rfl, Lib.hid ((HXA.out.far (Nat.lt_succ_self _) _ _).weaken (Nat.le_succ _)), Lib.hid (grown_new HGA.out (Nat.le_refl _) _ _), Lib.hid (HVA.out.far hwr hlr _ _)⟩
      | false =>
        have HE1 := Lib.hid (HRR.out.trans (if_neg (fun e => by have := HRS.out.1 e; cases this)))
        clear HRR
        have KA := Lib.hid (HK2.out w4 HV4.out)
        have hrw : w.heap.size < w4.heap.size := F4.out.lt
        have hgw : g < w4.heap.size := HV4.out.gl
        cases r2 with
        | out => exact (hr2 rfl).elim
        | bad ln co er =>
          have HE := Lib.hid (show RR = .bad ln co er from HE1.out)
          clear HE1
          go_wp2_with fail
          refine KA.out.mono ?_
          rintro e w5 ⟨rfl, HG5⟩
          go_wp2_with fail
          rw [HE.out]
          exact ⟨rfl, exr_bad (Lib.hid (grown_tr HG4.out HG5.out))⟩
        | ok T1 k1 =>
          have hk1 := hrk T1 k1 rfl
          have HE1 := Lib.hid (show RR = (if isS false ts k1 [94] then
                if integerP ts (k1 + 1) = false then unex ts (k1 + 1)
                else if 16 < powV (tk ts (k1 + 1)).text then failP ts (k1 + 1) 2
                else .ok (powE (powV (tk ts (k1 + 1)).text) T1) (k1 + 2)
              else .ok T1 k1) from HE1.out)
          go_wp2_with fail
          refine KA.out.mono ?_
          rintro e w5 ⟨v, rfl, HX5, HG5, HV5⟩
          have F5 := Lib.hid (F4.out.grown HG5.out HNE.out)
          have HG5 := Lib.hid (grown_tr HG4.out HG5.out)
          go_upto_region 7 with (fail)
          obtain ⟨w6, hw6⟩ : ∃ z9 : World, z9 = w5.alloc (Obj.cells #[.int .i64 v.h.kind, .int .i64 v.h.n, .int .i64 v.h.d, .string v.h.name, .int .i64 v.h.k, .slice v.A v.len v.cap] 29) := ⟨_, rfl⟩
          have HB6 := Lib.hid (show Below w5.heap.size w5 w6 by rw [hw6]; exact below_box _ _)
          have E6 := Lib.hid (show Blk w6 w5.heap.size 29 #[.int .i64 v.h.kind, .int .i64 v.h.n, .int .i64 v.h.d, .string v.h.name, .int .i64 v.h.k, .slice v.A v.len v.cap] by rw [hw6]; exact Blk.new _ _ _)
          rw [← hw6]
          clear hw6
          have HV6 := Lib.hid (HV5.out.belowW HB6.out)
          have F6 := Lib.hid (F5.out.belowW HB6.out)
          have HX6 := Lib.hid (HX5.out.belowW HB6.out)
          have HG6 := Lib.hid (grown_tr HG5.out (grown_of (some g) HB6.out))
          have heg : w5.heap.size ≠ g := Nat.ne_of_gt HV5.out.gl
          have HNE6 := Lib.hid (show some w5.heap.size ≠ some g from fun e => heg (Option.some.inj e))
          have KC := Lib.hid (pAccept HV6.out (by omega) ⟨#[94]⟩)
          rw [show kwP (⟨#[94]⟩ : ByteArray).data.toList = false by decide, show (⟨#[94]⟩ : ByteArray).data.toList = [94] from rfl] at KC
          obtain ⟨c, hc⟩ : ∃ c, isS false ts k1 [94] = c := ⟨_, rfl⟩
          rw [hc] at KC HE1
          clear hc
          cases c with
          | false =>
            have HE := Lib.hid (show RR = .ok T1 k1 from HE1.out)
            clear HE1
            go_wp2_with fail
            refine KC.out.mono ?_
            rintro e w7 ⟨rfl, HG7, HV7⟩
            have HV7 : Hid (Env w0 g A len cap ts k1 m w7) := HV7
            have F7 := Lib.hid (F6.out.grown HG7.out HNE.out)
            have E7 := Lib.hid (E6.out.grown HG7.out HNE6.out)
            have HX7 := Lib.hid (HX6.out.mv hgw HG7.out)
            have HG7 := Lib.hid (grown_tr HG6.out HG7.out)
            obtain ⟨a0, b0, a1, b1, a2, b2, a3, b3, a4, b4, a5, b5⟩ := E7.out.all6
            obtain ⟨r0, h0, r1, h1, r2, h2, r3, h3, r4, h4, r5, h5⟩ := F7.out.all6
            go_wp2_with fail
            rw [pst6 F7.out]
            have FZ := Lib.hid (F7.out.put #[.int .i64 v.h.kind, .int .i64 v.h.n, .int .i64 v.h.d, .string v.h.name, .int .i64 v.h.k, .slice v.A v.len v.cap])
            obtain ⟨z0, _, z1, _, z2, _, z3, _, z4, _, z5, _⟩ := FZ.out.all6
            refine bodyPost_ret (v := .agg #[.int .i64 v.h.kind, .int .i64 v.h.n, .int .i64 v.h.d, .string v.h.name, .int .i64 v.h.k, .slice v.A v.len v.cap]) (by simp [results, Tryz.results126, go_sem, z0, z1, z2, z3, z4, z5]) rfl ?_
            rw [HE.out]
            exact ⟨v, rfl, Lib.hid ((HX7.out.far hrw _ _).weaken (Nat.le_of_lt hrw)), Lib.hid (grown_new HG7.out (Nat.le_refl _) _ _), Lib.hid (HV7.out.far hwr hlr _ _)⟩
          | true =>
            have HE1 := Lib.hid (show RR = (if integerP ts (k1 + 1) = false then unex ts (k1 + 1)
                else if 16 < powV (tk ts (k1 + 1)).text then failP ts (k1 + 1) 2
                else .ok (powE (powV (tk ts (k1 + 1)).text) T1) (k1 + 2)) from HE1.out)
            go_wp2_with fail
            refine KC.out.mono ?_
            rintro e w7 ⟨rfl, HG7, HV7⟩
            have HV7 : Hid (Env w0 g A len cap ts (k1 + 1) m w7) := HV7
            have F7 := Lib.hid (F6.out.grown HG7.out HNE.out)
            have E7 := Lib.hid (E6.out.grown HG7.out HNE6.out)
            have HX7 := Lib.hid (HX6.out.mv hgw HG7.out)
            have HG7 := Lib.hid (grown_tr HG6.out HG7.out)
            have KI := Lib.hid (pInteger HV7.out 0 (by omega))
            rw [Nat.add_zero] at KI
            obtain ⟨i, hi⟩ : ∃ i, integerP ts (k1 + 1) = i := ⟨_, rfl⟩
            rw [hi] at KI HE1
            have HI := Lib.hid hi
            clear hi
            go_wp2_with fail
            refine KI.out.mono ?_
            rintro e w8 ⟨rfl, HB8⟩
            have HV8 : Hid (Env w0 g A len cap ts (k1 + 1) m w8) := Lib.hid (HV7.out.belowW HB8.out)
            have F8 := Lib.hid (F7.out.belowW HB8.out)
            have E8 := Lib.hid (E7.out.belowW HB8.out)
            have HX8 := Lib.hid (HX7.out.belowW HB8.out)
            have HG8 := Lib.hid (grown_tr HG7.out (grown_of (some g) HB8.out))
            cases i with
            | false =>
              have HE := Lib.hid (show RR = unex ts (k1 + 1) from HE1.out)
              clear HE1
              go_wp2_with fail
              refine HV8.out.unx.mono ?_
              rintro e w9 ⟨he, HB9⟩
              obtain ⟨c, hc⟩ := panU_pan ts _
              have HC := Lib.hid hc
              rw [hc] at he
              subst he
              clear hc
              go_wp2_with fail
              rw [HE.out]
              exact ⟨rfl, exr_unex HC.out.symm (Lib.hid (grown_tr HG8.out (grown_of _ HB9.out)))⟩
            | true =>
              have HE1 := Lib.hid (show RR = (if 16 < powV (tk ts (k1 + 1)).text then failP ts (k1 + 1) 2 else .ok (powE (powV (tk ts (k1 + 1)).text) T1) (k1 + 2)) from HE1.out)
              have HDG := Lib.hid (int_digits hD HI.out)
              have KT := Lib.hid (show Calls Tryz.prog 124 #[.pointer (some ⟨g, 0, none⟩), .int .i64 ((0 : Nat) : Int)] w8 (RetB (tokV (tk ts (k1 + 1))) w8) from HV8.out.tok 0 (by omega))
              have htl : (tk ts (k1 + 1)).text.length ≤ 100 := (HV8.out.t.tk (k1 + 1)).1
              have HKF := Lib.hid (fun (w' : World) (hb : Below w8.heap.size w8 w') => Env.fail (show Env w0 g A len cap ts (k1 + 1) m w' from HV8.out.belowW hb) 2)
              obtain ⟨T2, hT2⟩ : ∃ t, t = tk ts (k1 + 1) := ⟨_, rfl⟩
              have HT2 := Lib.hid hT2
              rw [← hT2] at KT htl HE1 HDG HKF
              clear hT2
              go_wp2_with fail
              refine KT.out.mono ?_
              rintro e w9 ⟨rfl, HB9⟩
              have hF := tokF1 T2
              have HV9 := Lib.hid (HV8.out.belowW HB9.out)
              have F9 := Lib.hid (F8.out.belowW HB9.out)
              have E9 := Lib.hid (E8.out.belowW HB9.out)
              have HX9 := Lib.hid (HX8.out.belowW HB9.out)
              have HG9 := Lib.hid (grown_tr HG8.out (grown_of (some g) HB9.out))
              obtain ⟨B, hB⟩ : ∃ B : ByteArray, B = ⟨T2.text.toArray⟩ := ⟨_, rfl⟩
              have hBs : B.size = T2.text.length := by rw [hB]; exact List.size_toArray ..
              have HBt := Lib.hid (show B.data.toList = T2.text by rw [hB])
              have HDB := Lib.hid (show ∀ p (h : p < B.size), 48 ≤ (B[p]'h).toNat ∧ (B[p]'h).toNat ≤ 57 by
                subst hB
                intro p h
                exact HDG.out _ (List.getElem_mem (by rw [← hBs]; exact h)))
              have HBE := Lib.hid hB
              have HBS := Lib.hid hBs
              clear hBs
              go_wp2_with fail
              rw [← hB]
              clear hB
              go_loopw [5] (fun dv wr => ∃ pos : Nat, pos ≤ B.size ∧ wr = w9.iter B pos ∧ dv = .int .i64 (powV (T2.text.take pos) : Nat)) (fun _ wr => B.size - wr.iterPos w9.heap.size)
              case atStart => exact ⟨0, Nat.zero_le _, rfl, rfl⟩
              case round =>
                obtain ⟨pos, hpos, rfl, rfl⟩ := hrel
                by_cases hlt : pos < B.size
                · obtain ⟨hc1, hc2⟩ := HDB.out pos hlt
                  have hnx : ∀ ty, (Instr.next (.pointer (some ⟨w9.heap.size, 0, none⟩)) true ty).run Tryz.prog (w9.iter B pos) = _ := fun ty => run_next_ascii w9 B pos ty hlt (by omega)
                  have HPW := Lib.hid (show powV (T2.text.take (pos + 1)) = min (10 * powV (T2.text.take pos) + ((B[pos]'hlt).toNat - 48)) 17 by
                    rw [List.take_succ_eq_append_getElem (by rw [← HBS.out]; exact hlt), powV_app]
                    have hB := HBE.out
                    subst hB
                    rfl)
                  have hz17 := powV_le (T2.text.take pos)
                  obtain ⟨q, hq⟩ : ∃ q : Nat, q = (B[pos]'hlt).toNat := ⟨_, rfl⟩
                  rw [← hq] at hnx hc1 hc2 HPW
                  obtain ⟨z, hz⟩ : ∃ z : Nat, z = powV (T2.text.take pos) := ⟨_, rfl⟩
                  rw [← hz] at hz17 HPW ⊢
                  clear hq hz
                  have e1 : IntKind.i32.wrap ((q : Int) - 48) = ((q - 48 : Nat) : Int) := by rw [IntKind.wrap_i32]; omega
                  have e2 : IntKind.i64.wrap (10 * (z : Int)) = ((10 * z : Nat) : Int) := by rw [IntKind.wrap_i64]; omega
                  have e3 : IntKind.i64.wrap ((q - 48 : Nat) : Int) = ((q - 48 : Nat) : Int) := by rw [IntKind.wrap_i64]; omega
                  have e4 : IntKind.i64.wrap (((10 * z : Nat) : Int) + ((q - 48 : Nat) : Int)) = ((10 * z + (q - 48) : Nat) : Int) := by rw [IntKind.wrap_i64]; omega
                  go_wp2
                  go_roundw
                  case rel => exact ⟨pos + 1, by omega, rfl, by rw [HPW]; congr 1; omega⟩
                  case measure => simp; omega
                · obtain rfl : pos = B.size := by omega
                  have hnx : ∀ ty, (Instr.next (.pointer (some ⟨w9.heap.size, 0, none⟩)) true ty).run Tryz.prog (w9.iter B B.size) = _ := fun ty => run_next_end w9 B B.size ty hlt
                  have HTA := Lib.hid (show T2.text.take B.size = T2.text by rw [HBS.out]; exact List.take_length)
                  rw [HTA.out]
                  have hz17 := powV_le T2.text
                  obtain ⟨z, hz⟩ : ∃ z : Nat, z = powV T2.text := ⟨_, rfl⟩
                  rw [← hz] at hz17 HE1 ⊢
                  clear hz HTA
                  go_upto_region 16 with (fail)
                  obtain ⟨w10, hw⟩ : ∃ z9 : World, z9 = w9.iter B B.size := ⟨_, rfl⟩
                  have HB10 := Lib.hid (show Below w9.heap.size w9 w10 by rw [hw]; exact iter_below _ _ _)
                  rw [← hw]
                  clear hw hnx
                  have HV10 := Lib.hid (HV9.out.belowW HB10.out)
                  have F10 := Lib.hid (F9.out.belowW HB10.out)
                  have E10 := Lib.hid (E9.out.belowW HB10.out)
                  have HX10 := Lib.hid (HX9.out.belowW HB10.out)
                  have HG10 := Lib.hid (grown_tr HG9.out (grown_of (some g) HB10.out))
                  by_cases hz16 : 16 < z
                  · have HE := Lib.hid (show RR = failP ts (k1 + 1) 2 by rw [HE1.out, if_pos hz16])
                    clear HE1
                    have d1 : decide ((16 : Int) < (z : Int)) = true := decide_eq_true (by omega)
                    go_wp2_with fail
                    refine (HV10.out.fail 2).mono ?_
                    rintro e w11 ⟨rfl, HB11⟩
                    go_wp2_with fail
                    rw [HE.out]
                    exact ⟨rfl, exr_fail (Lib.hid (grown_tr HG10.out (grown_of _ HB11.out)))⟩
                  · have HE := Lib.hid (show RR = .ok (powE z T1) (k1 + 2) by rw [HE1.out, if_neg hz16])
                    clear HE1
                    have d1 : decide ((16 : Int) < (z : Int)) = false := decide_eq_false (by omega)
                    have e1 : IntKind.i64.wrap (((k1 + 1 : Nat) : Int) + 1) = ((k1 + 2 : Nat) : Int) := by rw [IntKind.wrap_i64]; omega
                    have e1' : IntKind.i64.wrap ((k1 : Int) + 1 + 1) = ((k1 + 2 : Nat) : Int) := by rw [IntKind.wrap_i64]; omega
                    have HP := Lib.hid (show Blk w10 g 140 #[.slice A len cap, .int .i64 ((k1 + 1 : Nat) : Int), .int .i64 (m : Nat)] from HV10.out.p)
                    obtain ⟨p0, f0, p1, f1, p2, f2⟩ := HP.out.all3
                    go_upto_region 19 with (fail)
                    rw [HP.out.setCell_eq]
                    have HM11 := Lib.hid (putB_grown w10 g 140 #[.slice A len cap, .int .i64 ((k1 + 2 : Nat) : Int), .int .i64 (m : Nat)])
                    have HV11 := Lib.hid (HV10.out.put (k1 + 2) m (by omega))
                    have E11 := Lib.hid (E10.out.far (t' := 140) heg #[.slice A len cap, .int .i64 ((k1 + 2 : Nat) : Int), .int .i64 (m : Nat)])
                    have F11 := Lib.hid (F10.out.far (t' := 140) hwr #[.slice A len cap, .int .i64 ((k1 + 2 : Nat) : Int), .int .i64 (m : Nat)])
                    have HX11 := Lib.hid (HX10.out.mv hgw HM11.out)
                    have HG11 := Lib.hid (grown_tr HG10.out HM11.out)
                    obtain ⟨w11, hw11⟩ : ∃ z9 : World, z9 = putB w10 g 140 #[.slice A len cap, .int .i64 ((k1 + 2 : Nat) : Int), .int .i64 (m : Nat)] := ⟨_, rfl⟩
                    have hw11' : putB w10 g 140 ((#[.slice A len cap, .int .i64 ((k1 + 1 : Nat) : Int), .int .i64 (m : Nat)] : Array Value).setIfInBounds 1 (.int .i64 ((k1 : Int) + 2))) = w11 := by rw [hw11]; rfl
                    rw [← hw11] at HV11 E11 F11 HX11 HG11
                    rw [hw11']
                    clear hw11 hw11' p0 f0 p1 f1 p2 f2 HP HM11
                    obtain ⟨a0, b0, a1, b1, a2, b2, a3, b3, a4, b4, a5, b5⟩ := E11.out.all6
                    obtain ⟨wa, hwa⟩ : ∃ z9 : World, z9 = w11.alloc (Obj.cells #[.int .i64 v.h.kind, .int .i64 v.h.n, .int .i64 v.h.d, .string v.h.name, .int .i64 v.h.k, .slice v.A v.len v.cap] 29) := ⟨_, rfl⟩
                    have HBa := Lib.hid (show Below w11.heap.size w11 wa by rw [hwa]; exact below_box _ _)
                    have FA := Lib.hid (F11.out.belowW HBa.out)
                    have HVA := Lib.hid (HV11.out.belowW HBa.out)
                    have HGA := Lib.hid (grown_tr HG11.out (grown_of (some g) HBa.out))
                    have HXA := Lib.hid (show InX w.heap.size.succ wa (.mk ⟨8, 0, 0, ⟨#[]⟩, (z : Nat)⟩ [T1]) ⟨⟨8, 0, 0, ⟨#[]⟩, (z : Nat)⟩, some ⟨w11.heap.size, 0, none⟩, 1, 1⟩ by rw [hwa]; exact inx_new1 w11 ⟨8, 0, 0, ⟨#[]⟩, (z : Nat)⟩ (hd_pow (by omega)) T1 v _ (Nat.succ_le_of_lt F11.out.lt) (HX11.out.weaken (Nat.succ_le_of_lt hrw)))
                    obtain ⟨r0, h0, r1, h1, r2, h2, r3, h3, r4, h4, r5, h5⟩ := FA.out.all6
                    rw [hwa] at r0 r1 r2 r3 r4 r5 h0 h1 h2 h3 h4 h5
                    go_wp2_with fail
                    rw [← hwa]
                    rw [pst6 FA.out]
                    have FZ := Lib.hid (FA.out.put #[.int .i64 8, .int .i64 0, .int .i64 0, .string ⟨#[]⟩, .int .i64 (z : Nat), .slice (some ⟨w11.heap.size, 0, none⟩) 1 1])
                    obtain ⟨z0, _, z1, _, z2, _, z3, _, z4, _, z5, _⟩ := FZ.out.all6
                    refine bodyPost_ret (v := .agg #[.int .i64 8, .int .i64 0, .int .i64 0, .string ⟨#[]⟩, .int .i64 (z : Nat), .slice (some ⟨w11.heap.size, 0, none⟩) 1 1]) (by simp [results, Tryz.results126, go_sem, z0, z1, z2, z3, z4, z5]) rfl ?_
                    rw [HE.out]
                    exact ⟨⟨⟨8, 0, 0, ⟨#[]⟩, (z : Nat)⟩, some ⟨w11.heap.size, 0, none⟩, 1, 1⟩, rfl, Lib.hid ((HXA.out.far (Nat.lt_succ_self _) _ _).weaken (Nat.le_succ _)), Lib.hid (grown_new HGA.out (Nat.le_refl _) _ _), Lib.hid (HVA.out.far hwr hlr _ _)⟩
  | false =>
    have HRR := Lib.hid (HRR.out.trans (if_neg (fun e => by have := HR2.out.1 e.1; cases this)))
    cases bs with
    | true =>
      have hs9 := HRS.out.2 (by first | rfl | trivial)
      have HE1 := Lib.hid (HRR.out.trans (if_pos hs9))
      have hro1 := hro1 hs9
      have HK1 := Lib.hid (HK1.out hs9)
      clear HRR hs9
      have KD := Lib.hid (deeper_factor HV3.out (by omega) hm r1 hro1 HK1.out)
      obtain ⟨r2, hr2⟩ : ∃ r2, r2 = (if m = 100 then failP ts k 5 else r1) := ⟨_, rfl⟩
      rw [← hr2] at KD
      have HR2 := Lib.hid hr2
      clear hr2
      have hrw : w.heap.size < w3.heap.size := F3.out.lt
      cases r2 with
      | out =>
        exfalso
        have h9 := HR2.out
        split at h9
        · exact fail_out h9.symm
        · exact hro1 h9.symm
      | bad ln co er =>
        have HE := Lib.hid (show RR = .bad ln co er by
          have h9 := HR2.out
          rw [HE1.out]
          split at h9
          · rename_i h8
            rw [if_pos h8, h9]
          · rename_i h8
            rw [if_neg h8, ← h9])
        clear HE1 HR2
        go_wp2_with fail
        refine KD.out.mono ?_
        rintro e w5 ⟨rfl, HG5⟩
        go_wp2_with fail
        rw [HE.out]
        exact ⟨rfl, exr_bad (Lib.hid (grown_tr HG3.out HG5.out))⟩
      | ok T1 k1 =>
        have HE := Lib.hid (show RR = .ok (opE 7 [T1]) k1 by
          have h9 := HR2.out
          rw [HE1.out]
          split at h9
          · exact (fail_ok h9.symm).elim
          · rename_i h8
            rw [if_neg h8, ← h9])
        clear HE1 HR2
        go_wp2_with fail
        refine KD.out.mono ?_
        rintro e w5 ⟨v, rfl, HX5, HG5, HV5⟩
        have F5 := Lib.hid (F3.out.grown HG5.out HNE.out)
        have HG6 := Lib.hid (grown_tr HG3.out HG5.out)
        obtain ⟨wa, hwa⟩ : ∃ z9 : World, z9 = w5.alloc (Obj.cells #[.int .i64 v.h.kind, .int .i64 v.h.n, .int .i64 v.h.d, .string v.h.name, .int .i64 v.h.k, .slice v.A v.len v.cap] 29) := ⟨_, rfl⟩
        have HBa := Lib.hid (show Below w5.heap.size w5 wa by rw [hwa]; exact below_box _ _)
        have FA := Lib.hid (F5.out.belowW HBa.out)
        have HVA := Lib.hid (HV5.out.belowW HBa.out)
        have HGA := Lib.hid (grown_tr HG6.out (grown_of (some g) HBa.out))
        have HXA := Lib.hid (show InX w.heap.size.succ wa (.mk ⟨7, 0, 0, ⟨#[]⟩, 0⟩ [T1]) ⟨⟨7, 0, 0, ⟨#[]⟩, 0⟩, some ⟨w5.heap.size, 0, none⟩, 1, 1⟩ by rw [hwa]; exact inx_new1 w5 ⟨7, 0, 0, ⟨#[]⟩, 0⟩ (hd_op (kd := 7) (by decide)) T1 v _ (Nat.succ_le_of_lt F5.out.lt) (HX5.out.weaken (Nat.succ_le_of_lt hrw)))
        obtain ⟨r0, h0, r1, h1, r2, h2, r3, h3, r4, h4, r5, h5⟩ := FA.out.all6
        rw [hwa] at r0 r1 r2 r3 r4 r5 h0 h1 h2 h3 h4 h5
        go_wp2_with fail
        rw [← hwa]
        rw [pst6 FA.out]
        have FZ := Lib.hid (FA.out.put #[.int .i64 7, .int .i64 0, .int .i64 0, .string ⟨#[]⟩, .int .i64 0, .slice (some ⟨w5.heap.size, 0, none⟩) 1 1])
        obtain ⟨z0, _, z1, _, z2, _, z3, _, z4, _, z5, _⟩ := FZ.out.all6
        refine bodyPost_ret (v := .agg #[.int .i64 7, .int .i64 0, .int .i64 0, .string ⟨#[]⟩, .int .i64 0, .slice (some ⟨w5.heap.size, 0, none⟩) 1 1]) (by simp [results, Tryz.results126, go_sem, z0, z1, z2, z3, z4, z5]) rfl ?_
        rw [HE.out]
        exact ⟨⟨⟨7, 0, 0, ⟨#[]⟩, 0⟩, some ⟨w5.heap.size, 0, none⟩, 1, 1⟩, rfl, Lib.hid ((HXA.out.far (Nat.lt_succ_self _) _ _).weaken (Nat.le_succ _)), Lib.hid (grown_new HGA.out (Nat.le_refl _) _ _), Lib.hid (HVA.out.far hwr hlr _ _)⟩
    | false =>
      have HE1 := Lib.hid (HRR.out.trans (if_neg (fun e => by have := HRS.out.1 e; cases this)))
      clear HRR
      have KA := Lib.hid (HK2.out w3 HV3.out)
      have hrw : w.heap.size < w3.heap.size := F3.out.lt
      have hgw : g < w3.heap.size := HV3.out.gl
      cases r2 with
      | out => exact (hr2 rfl).elim
      | bad ln co er =>
        have HE := Lib.hid (show RR = .bad ln co er from HE1.out)
        clear HE1
        go_wp2_with fail
        refine KA.out.mono ?_
        rintro e w5 ⟨rfl, HG5⟩
        go_wp2_with fail
        rw [HE.out]
        exact ⟨rfl, exr_bad (Lib.hid (grown_tr HG3.out HG5.out))⟩
      | ok T1 k1 =>
        have hk1 := hrk T1 k1 rfl
        have HE1 := Lib.hid (show RR = (if isS false ts k1 [94] then
              if integerP ts (k1 + 1) = false then unex ts (k1 + 1)
              else if 16 < powV (tk ts (k1 + 1)).text then failP ts (k1 + 1) 2
              else .ok (powE (powV (tk ts (k1 + 1)).text) T1) (k1 + 2)
            else .ok T1 k1) from HE1.out)
        go_wp2_with fail
        refine KA.out.mono ?_
        rintro e w5 ⟨v, rfl, HX5, HG5, HV5⟩
        have F5 := Lib.hid (F3.out.grown HG5.out HNE.out)
        have HG5 := Lib.hid (grown_tr HG3.out HG5.out)
        go_upto_region 7 with (fail)
        obtain ⟨w6, hw6⟩ : ∃ z9 : World, z9 = w5.alloc (Obj.cells #[.int .i64 v.h.kind, .int .i64 v.h.n, .int .i64 v.h.d, .string v.h.name, .int .i64 v.h.k, .slice v.A v.len v.cap] 29) := ⟨_, rfl⟩
        have HB6 := Lib.hid (show Below w5.heap.size w5 w6 by rw [hw6]; exact below_box _ _)
        have E6 := Lib.hid (show Blk w6 w5.heap.size 29 #[.int .i64 v.h.kind, .int .i64 v.h.n, .int .i64 v.h.d, .string v.h.name, .int .i64 v.h.k, .slice v.A v.len v.cap] by rw [hw6]; exact Blk.new _ _ _)
        rw [← hw6]
        clear hw6
        have HV6 := Lib.hid (HV5.out.belowW HB6.out)
        have F6 := Lib.hid (F5.out.belowW HB6.out)
        have HX6 := Lib.hid (HX5.out.belowW HB6.out)
        have HG6 := Lib.hid (grown_tr HG5.out (grown_of (some g) HB6.out))
        have heg : w5.heap.size ≠ g := Nat.ne_of_gt HV5.out.gl
        have HNE6 := Lib.hid (show some w5.heap.size ≠ some g from fun e => heg (Option.some.inj e))
        have KC := Lib.hid (pAccept HV6.out (by omega) ⟨#[94]⟩)
        rw [show kwP (⟨#[94]⟩ : ByteArray).data.toList = false by decide, show (⟨#[94]⟩ : ByteArray).data.toList = [94] from rfl] at KC
        obtain ⟨c, hc⟩ : ∃ c, isS false ts k1 [94] = c := ⟨_, rfl⟩
        rw [hc] at KC HE1
        clear hc
        cases c with
        | false =>
          have HE := Lib.hid (show RR = .ok T1 k1 from HE1.out)
          clear HE1
          go_wp2_with fail
          refine KC.out.mono ?_
          rintro e w7 ⟨rfl, HG7, HV7⟩
          have HV7 : Hid (Env w0 g A len cap ts k1 m w7) := HV7
          have F7 := Lib.hid (F6.out.grown HG7.out HNE.out)
          have E7 := Lib.hid (E6.out.grown HG7.out HNE6.out)
          have HX7 := Lib.hid (HX6.out.mv hgw HG7.out)
          have HG7 := Lib.hid (grown_tr HG6.out HG7.out)
          obtain ⟨a0, b0, a1, b1, a2, b2, a3, b3, a4, b4, a5, b5⟩ := E7.out.all6
          obtain ⟨r0, h0, r1, h1, r2, h2, r3, h3, r4, h4, r5, h5⟩ := F7.out.all6
          go_wp2_with fail
          rw [pst6 F7.out]
          have FZ := Lib.hid (F7.out.put #[.int .i64 v.h.kind, .int .i64 v.h.n, .int .i64 v.h.d, .string v.h.name, .int .i64 v.h.k, .slice v.A v.len v.cap])
          obtain ⟨z0, _, z1, _, z2, _, z3, _, z4, _, z5, _⟩ := FZ.out.all6
          refine bodyPost_ret (v := .agg #[.int .i64 v.h.kind, .int .i64 v.h.n, .int .i64 v.h.d, .string v.h.name, .int .i64 v.h.k, .slice v.A v.len v.cap]) (by simp [results, Tryz.results126, go_sem, z0, z1, z2, z3, z4, z5]) rfl ?_
          rw [HE.out]
          exact ⟨v, rfl, Lib.hid ((HX7.out.far hrw _ _).weaken (Nat.le_of_lt hrw)), Lib.hid (grown_new HG7.out (Nat.le_refl _) _ _), Lib.hid (HV7.out.far hwr hlr _ _)⟩
        | true =>
          have HE1 := Lib.hid (show RR = (if integerP ts (k1 + 1) = false then unex ts (k1 + 1)
              else if 16 < powV (tk ts (k1 + 1)).text then failP ts (k1 + 1) 2
              else .ok (powE (powV (tk ts (k1 + 1)).text) T1) (k1 + 2)) from HE1.out)
          go_wp2_with fail
          refine KC.out.mono ?_
          rintro e w7 ⟨rfl, HG7, HV7⟩
          have HV7 : Hid (Env w0 g A len cap ts (k1 + 1) m w7) := HV7
          have F7 := Lib.hid (F6.out.grown HG7.out HNE.out)
          have E7 := Lib.hid (E6.out.grown HG7.out HNE6.out)
          have HX7 := Lib.hid (HX6.out.mv hgw HG7.out)
          have HG7 := Lib.hid (grown_tr HG6.out HG7.out)
          have KI := Lib.hid (pInteger HV7.out 0 (by omega))
          rw [Nat.add_zero] at KI
          obtain ⟨i, hi⟩ : ∃ i, integerP ts (k1 + 1) = i := ⟨_, rfl⟩
          rw [hi] at KI HE1
          have HI := Lib.hid hi
          clear hi
          go_wp2_with fail
          refine KI.out.mono ?_
          rintro e w8 ⟨rfl, HB8⟩
          have HV8 : Hid (Env w0 g A len cap ts (k1 + 1) m w8) := Lib.hid (HV7.out.belowW HB8.out)
          have F8 := Lib.hid (F7.out.belowW HB8.out)
          have E8 := Lib.hid (E7.out.belowW HB8.out)
          have HX8 := Lib.hid (HX7.out.belowW HB8.out)
          have HG8 := Lib.hid (grown_tr HG7.out (grown_of (some g) HB8.out))
          cases i with
          | false =>
            have HE := Lib.hid (show RR = unex ts (k1 + 1) from HE1.out)
            clear HE1
            go_wp2_with fail
            refine HV8.out.unx.mono ?_
            rintro e w9 ⟨he, HB9⟩
            obtain ⟨c, hc⟩ := panU_pan ts _
            have HC := Lib.hid hc
            rw [hc] at he
            subst he
            clear hc
            go_wp2_with fail
            rw [HE.out]
            exact ⟨rfl, exr_unex HC.out.symm (Lib.hid (grown_tr HG8.out (grown_of _ HB9.out)))⟩
          | true =>
            have HE1 := Lib.hid (show RR = (if 16 < powV (tk ts (k1 + 1)).text then failP ts (k1 + 1) 2 else .ok (powE (powV (tk ts (k1 + 1)).text) T1) (k1 + 2)) from HE1.out)
            have HDG := Lib.hid (int_digits hD HI.out)
            have KT := Lib.hid (show Calls Tryz.prog 124 #[.pointer (some ⟨g, 0, none⟩), .int .i64 ((0 : Nat) : Int)] w8 (RetB (tokV (tk ts (k1 + 1))) w8) from HV8.out.tok 0 (by omega))
            have htl : (tk ts (k1 + 1)).text.length ≤ 100 := (HV8.out.t.tk (k1 + 1)).1
            have HKF := Lib.hid (fun (w' : World) (hb : Below w8.heap.size w8 w') => Env.fail (show Env w0 g A len cap ts (k1 + 1) m w' from HV8.out.belowW hb) 2)
            obtain ⟨T2, hT2⟩ : ∃ t, t = tk ts (k1 + 1) := ⟨_, rfl⟩
            have HT2 := Lib.hid hT2
            rw [← hT2] at KT htl HE1 HDG HKF
            clear hT2
            go_wp2_with fail
            refine KT.out.mono ?_
            rintro e w9 ⟨rfl, HB9⟩
            have hF := tokF1 T2
            have HV9 := Lib.hid (HV8.out.belowW HB9.out)
            have F9 := Lib.hid (F8.out.belowW HB9.out)
            have E9 := Lib.hid (E8.out.belowW HB9.out)
            have HX9 := Lib.hid (HX8.out.belowW HB9.out)
            have HG9 := Lib.hid (grown_tr HG8.out (grown_of (some g) HB9.out))
            obtain ⟨B, hB⟩ : ∃ B : ByteArray, B = ⟨T2.text.toArray⟩ := ⟨_, rfl⟩
            have hBs : B.size = T2.text.length := by rw [hB]; exact List.size_toArray ..
            have HBt := Lib.hid (show B.data.toList = T2.text by rw [hB])
            have HDB := Lib.hid (show ∀ p (h : p < B.size), 48 ≤ (B[p]'h).toNat ∧ (B[p]'h).toNat ≤ 57 by
              subst hB
              intro p h
              exact HDG.out _ (List.getElem_mem (by rw [← hBs]; exact h)))
            have HBE := Lib.hid hB
            have HBS := Lib.hid hBs
            clear hBs
            go_wp2_with fail
            rw [← hB]
            clear hB
            go_loopw [5] (fun dv wr => ∃ pos : Nat, pos ≤ B.size ∧ wr = w9.iter B pos ∧ dv = .int .i64 (powV (T2.text.take pos) : Nat)) (fun _ wr => B.size - wr.iterPos w9.heap.size)
            case atStart => exact ⟨0, Nat.zero_le _, rfl, rfl⟩
            case round =>
              obtain ⟨pos, hpos, rfl, rfl⟩ := hrel
              by_cases hlt : pos < B.size
              · obtain ⟨hc1, hc2⟩ := HDB.out pos hlt
                have hnx : ∀ ty, (Instr.next (.pointer (some ⟨w9.heap.size, 0, none⟩)) true ty).run Tryz.prog (w9.iter B pos) = _ := fun ty => run_next_ascii w9 B pos ty hlt (by omega)
                have HPW := Lib.hid (show powV (T2.text.take (pos + 1)) = min (10 * powV (T2.text.take pos) + ((B[pos]'hlt).toNat - 48)) 17 by
                  rw [List.take_succ_eq_append_getElem (by rw [← HBS.out]; exact hlt), powV_app]
                  have hB := HBE.out
                  subst hB
                  rfl)
                have hz17 := powV_le (T2.text.take pos)
                obtain ⟨q, hq⟩ : ∃ q : Nat, q = (B[pos]'hlt).toNat := ⟨_, rfl⟩
                rw [← hq] at hnx hc1 hc2 HPW
                obtain ⟨z, hz⟩ : ∃ z : Nat, z = powV (T2.text.take pos) := ⟨_, rfl⟩
                rw [← hz] at hz17 HPW ⊢
                clear hq hz
                have e1 : IntKind.i32.wrap ((q : Int) - 48) = ((q - 48 : Nat) : Int) := by rw [IntKind.wrap_i32]; omega
                have e2 : IntKind.i64.wrap (10 * (z : Int)) = ((10 * z : Nat) : Int) := by rw [IntKind.wrap_i64]; omega
                have e3 : IntKind.i64.wrap ((q - 48 : Nat) : Int) = ((q - 48 : Nat) : Int) := by rw [IntKind.wrap_i64]; omega
                have e4 : IntKind.i64.wrap (((10 * z : Nat) : Int) + ((q - 48 : Nat) : Int)) = ((10 * z + (q - 48) : Nat) : Int) := by rw [IntKind.wrap_i64]; omega
                go_wp2
                go_roundw
                case rel => exact ⟨pos + 1, by omega, rfl, by rw [HPW]; congr 1; omega⟩
                case measure => simp; omega
              · obtain rfl : pos = B.size := by omega
                have hnx : ∀ ty, (Instr.next (.pointer (some ⟨w9.heap.size, 0, none⟩)) true ty).run Tryz.prog (w9.iter B B.size) = _ := fun ty => run_next_end w9 B B.size ty hlt
                have HTA := Lib.hid (show T2.text.take B.size = T2.text by rw [HBS.out]; exact List.take_length)
                rw [HTA.out]
                have hz17 := powV_le T2.text
                obtain ⟨z, hz⟩ : ∃ z : Nat, z = powV T2.text := ⟨_, rfl⟩
                rw [← hz] at hz17 HE1 ⊢
                clear hz HTA
                go_upto_region 16 with (fail)
                obtain ⟨w10, hw⟩ : ∃ z9 : World, z9 = w9.iter B B.size := ⟨_, rfl⟩
                have HB10 := Lib.hid (show Below w9.heap.size w9 w10 by rw [hw]; exact iter_below _ _ _)
                rw [← hw]
                clear hw hnx
                have HV10 := Lib.hid (HV9.out.belowW HB10.out)
                have F10 := Lib.hid (F9.out.belowW HB10.out)
                have E10 := Lib.hid (E9.out.belowW HB10.out)
                have HX10 := Lib.hid (HX9.out.belowW HB10.out)
                have HG10 := Lib.hid (grown_tr HG9.out (grown_of (some g) HB10.out))
                by_cases hz16 : 16 < z
                · have HE := Lib.hid (show RR = failP ts (k1 + 1) 2 by rw [HE1.out, if_pos hz16])
                  clear HE1
                  have d1 : decide ((16 : Int) < (z : Int)) = true := decide_eq_true (by omega)
                  go_wp2_with fail
                  refine (HV10.out.fail 2).mono ?_
                  rintro e w11 ⟨rfl, HB11⟩
                  go_wp2_with fail
                  rw [HE.out]
                  exact ⟨rfl, exr_fail (Lib.hid (grown_tr HG10.out (grown_of _ HB11.out)))⟩
                · have HE := Lib.hid (show RR = .ok (powE z T1) (k1 + 2) by rw [HE1.out, if_neg hz16])
                  clear HE1
                  have d1 : decide ((16 : Int) < (z : Int)) = false := decide_eq_false (by omega)
                  have e1 : IntKind.i64.wrap (((k1 + 1 : Nat) : Int) + 1) = ((k1 + 2 : Nat) : Int) := by rw [IntKind.wrap_i64]; omega
                  have e1' : IntKind.i64.wrap ((k1 : Int) + 1 + 1) = ((k1 + 2 : Nat) : Int) := by rw [IntKind.wrap_i64]; omega
                  have HP := Lib.hid (show Blk w10 g 140 #[.slice A len cap, .int .i64 ((k1 + 1 : Nat) : Int), .int .i64 (m : Nat)] from HV10.out.p)
                  obtain ⟨p0, f0, p1, f1, p2, f2⟩ := HP.out.all3
                  go_upto_region 19 with (fail)
                  rw [HP.out.setCell_eq]
                  have HM11 := Lib.hid (putB_grown w10 g 140 #[.slice A len cap, .int .i64 ((k1 + 2 : Nat) : Int), .int .i64 (m : Nat)])
                  have HV11 := Lib.hid (HV10.out.put (k1 + 2) m (by omega))
                  have E11 := Lib.hid (E10.out.far (t' := 140) heg #[.slice A len cap, .int .i64 ((k1 + 2 : Nat) : Int), .int .i64 (m : Nat)])
                  have F11 := Lib.hid (F10.out.far (t' := 140) hwr #[.slice A len cap, .int .i64 ((k1 + 2 : Nat) : Int), .int .i64 (m : Nat)])
                  have HX11 := Lib.hid (HX10.out.mv hgw HM11.out)
                  have HG11 := Lib.hid (grown_tr HG10.out HM11.out)
                  obtain ⟨w11, hw11⟩ : ∃ z9 : World, z9 = putB w10 g 140 #[.slice A len cap, .int .i64 ((k1 + 2 : Nat) : Int), .int .i64 (m : Nat)] := ⟨_, rfl⟩
                  have hw11' : putB w10 g 140 ((#[.slice A len cap, .int .i64 ((k1 + 1 : Nat) : Int), .int .i64 (m : Nat)] : Array Value).setIfInBounds 1 (.int .i64 ((k1 : Int) + 2))) = w11 := by rw [hw11]; rfl
                  rw [← hw11] at HV11 E11 F11 HX11 HG11
                  rw [hw11']
                  clear hw11 hw11' p0 f0 p1 f1 p2 f2 HP HM11
                  obtain ⟨a0, b0, a1, b1, a2, b2, a3, b3, a4, b4, a5, b5⟩ := E11.out.all6
                  obtain ⟨wa, hwa⟩ : ∃ z9 : World, z9 = w11.alloc (Obj.cells #[.int .i64 v.h.kind, .int .i64 v.h.n, .int .i64 v.h.d, .string v.h.name, .int .i64 v.h.k, .slice v.A v.len v.cap] 29) := ⟨_, rfl⟩
                  have HBa := Lib.hid (show Below w11.heap.size w11 wa by rw [hwa]; exact below_box _ _)
                  have FA := Lib.hid (F11.out.belowW HBa.out)
                  have HVA := Lib.hid (HV11.out.belowW HBa.out)
                  have HGA := Lib.hid (grown_tr HG11.out (grown_of (some g) HBa.out))
                  have HXA := Lib.hid (show InX w.heap.size.succ wa (.mk ⟨8, 0, 0, ⟨#[]⟩, (z : Nat)⟩ [T1]) ⟨⟨8, 0, 0, ⟨#[]⟩, (z : Nat)⟩, some ⟨w11.heap.size, 0, none⟩, 1, 1⟩ by rw [hwa]; exact inx_new1 w11 ⟨8, 0, 0, ⟨#[]⟩, (z : Nat)⟩ (hd_pow (by omega)) T1 v _ (Nat.succ_le_of_lt F11.out.lt) (HX11.out.weaken (Nat.succ_le_of_lt hrw)))
                  obtain ⟨r0, h0, r1, h1, r2, h2, r3, h3, r4, h4, r5, h5⟩ := FA.out.all6
                  rw [hwa] at r0 r1 r2 r3 r4 r5 h0 h1 h2 h3 h4 h5
                  go_wp2_with fail
                  rw [← hwa]
                  rw [pst6 FA.out]
                  have FZ := Lib.hid (FA.out.put #[.int .i64 8, .int .i64 0, .int .i64 0, .string ⟨#[]⟩, .int .i64 (z : Nat), .slice (some ⟨w11.heap.size, 0, none⟩) 1 1])
                  obtain ⟨z0, _, z1, _, z2, _, z3, _, z4, _, z5, _⟩ := FZ.out.all6
                  refine bodyPost_ret (v := .agg #[.int .i64 8, .int .i64 0, .int .i64 0, .string ⟨#[]⟩, .int .i64 (z : Nat), .slice (some ⟨w11.heap.size, 0, none⟩) 1 1]) (by simp [results, Tryz.results126, go_sem, z0, z1, z2, z3, z4, z5]) rfl ?_
                  rw [HE.out]
                  exact ⟨⟨⟨8, 0, 0, ⟨#[]⟩, (z : Nat)⟩, some ⟨w11.heap.size, 0, none⟩, 1, 1⟩, rfl, Lib.hid ((HXA.out.far (Nat.lt_succ_self _) _ _).weaken (Nat.le_succ _)), Lib.hid (grown_new HGA.out (Nat.le_refl _) _ _), Lib.hid (HVA.out.far hwr hlr _ _)⟩
end Go.Proofs.YtkjoohnndobjeaaGreatDoor
