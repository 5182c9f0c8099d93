/-
  The walk of the parser's atoms.
-/
import Derived.Test.YtkjoohnndobjeaaGreatDoorQJ
set_option linter.unusedVariables false
namespace Go.Proofs.YtkjoohnndobjeaaGreatDoor
open Go.RowKit Go.Fl Go.Fl.Lx Go.Fl.Nm Go.Fl.Fm Go.Fl.Rt Go.Fl.Pa
open List (setIfInBounds_toArray set_cons_zero set_cons_succ getElem_toArray getElem_cons_zero getElem_cons_succ)
/-- A node over what a rule finds. -/
def opOne (kd : Int) (r : PR TE) : PR TE :=
  match r with
  | .ok e k1 => .ok (opE kd [e]) k1
  | r => r
/-- What an atom comes to, with what parentheses here (r0), and behind a function's name (r1), come to. -/
def atomR (nm : List UInt8 → Bool) (ts : List Tok) (k : Nat) (r0 r1 : PR TE) : PR TE :=
  if (tk ts k).kind = 2 then (numP ts k).map numE
  else if (tk ts k).kind = 1 ∧ nm (tk ts k).text = true then .ok (varE (tk ts k).text) (k + 1)
  else if (tk ts k).kind = 1 ∧ funK (tk ts k).text ≠ 0 then
    match r1 with
    | .ok e k1 => .ok (opE (funK (tk ts k).text) [e]) k1
    | r => r
  else r0
theorem atomP_eq (nm : List UInt8 → Bool) (ts : List Tok) (f k m : Nat) : atomP nm ts (f + 1) k m = atomR nm ts k (encP nm ts f k m) (encP nm ts f (k + 1) m) := by
  rw [atomP.eq_def]
  rfl
theorem funK_small (l : List UInt8) : 0 ≤ funK l ∧ funK l ≤ 13 := by
  unfold funK
  split
  · omega
  split
  · omega
  split
  · omega
  split
  · omega
  split <;> omega
theorem hd_var {s : List UInt8} (h : s.length ≤ 20) : HdOk ⟨2, 0, 0, ⟨s.toArray⟩, 0⟩ := by
  refine ⟨?_, ?_, ?_, ?_, ?_, ?_, ?_, ?_, ?_⟩ <;> first | decide | (simp only; omega) | (show s.toArray.size ≤ maxLen; rw [List.size_toArray]; exact Nat.le_trans h (by decide))
theorem hd_op {kd : Int} (h : 0 ≤ kd ∧ kd ≤ 13) : HdOk ⟨kd, 0, 0, ⟨#[]⟩, 0⟩ := by
  refine ⟨?_, ?_, ?_, ?_, ?_, ?_, ?_, ?_, Nat.zero_le _⟩ <;> simp only <;> omega

set_option maxHeartbeats 4000000 in
set_option maxRecDepth 100000 in
theorem pAtom {w0 w : World} {g : Nat} {A : Option Addr} {len cap : Nat} {ts : List Tok} {k m : Nat} (h : Env w0 g A len cap ts k m w) (hk : k ≤ 110000) (hR : RX w0) (hX : FX w0) (r0 r1 : PR TE) (hr0 : r0 ≠ .out) (hr1 : r1 ≠ .out)
    (K0 : ∀ w', Env w0 g A len cap ts k m w' → Calls Tryz.prog 176 #[.pointer (some ⟨g, 0, none⟩)] w' (ExR w0 g A len cap ts m r0 w'))
    (K1 : ∀ w', Env w0 g A len cap ts (k + 1) m w' → Calls Tryz.prog 176 #[.pointer (some ⟨g, 0, none⟩)] w' (ExR w0 g A len cap ts m r1 w')) :
    Calls Tryz.prog 158 #[.pointer (some ⟨g, 0, none⟩)] w (ExR w0 g A len cap ts m (atomR nameP ts k r0 r1) w) := by
  obtain ⟨bm, es, ck, hXA, hXL⟩ := hX
  have HXA := Lib.hid hXA
  have HXL := Lib.hid hXL
  have HK0 := Lib.hid K0
  have HK1 := Lib.hid K1
  obtain ⟨RR, hRR⟩ : ∃ RR, RR = atomR nameP ts k r0 r1 := ⟨_, rfl⟩
  have HRR := Lib.hid hRR
  rw [← hRR]
  clear K0 K1 hRR hXA hXL
  go_enter Tryz.func158, Tryz.ntmps158
  go_upto_region 1 with (fail)
  obtain ⟨w1, hw1⟩ : ∃ z9 : World, z9 = w.alloc (Obj.cells #[.int .i64 0, .int .i64 0, .int .i64 0, .string ⟨#[]⟩, .int .i64 0, .slice none 0 0] 29) := ⟨_, rfl⟩
  have O1 := Lib.hid (show Below w.heap.size w w1 by rw [hw1]; exact below_box _ _)
  have F1 := Lib.hid (show Blk w1 w.heap.size 29 #[.int .i64 0, .int .i64 0, .int .i64 0, .string ⟨#[]⟩, .int .i64 0, .slice none 0 0] by rw [hw1]; exact Blk.new _ _ _)
  rw [← hw1]
  clear hw1
  have HNE := Lib.hid (show some w.heap.size ≠ some g from fun e => by have := h.gl; injection e with e; omega)
  have hwr : w.heap.size ≠ g := fun e => HNE.out (by rw [e])
  have hlr : w0.heap.size ≤ w.heap.size := h.b.size
  have hgl : g < w.heap.size := h.gl
  have HV1 := Lib.hid (h.belowW O1.out)
  have HG1 := Lib.hid (grown_of (some g) O1.out)
  have hr1 : w.heap.size < w1.heap.size := F1.out.lt
  clear h
  have HGL := Lib.hid hgl
  have KT := Lib.hid (HV1.out.tok 0 (by omega))
  rw [Nat.add_zero] at KT
  have htl : (tk ts k).text.length ≤ 100 := (HV1.out.t.tk k).1
  have hsz : ((⟨(tk ts k).text.toArray⟩ : ByteArray)).size ≤ maxLen := Nat.le_trans (show (tk ts k).text.toArray.size ≤ 100 by rw [List.size_toArray]; exact htl) (by decide)
  have HNR0 := Lib.hid (show nameR ts k = if (tk ts k).kind = 1 ∧ nameP (tk ts k).text = true then .ok (tk ts k).text (k + 1) else unex ts k from rfl)
  unfold atomR at HRR
  obtain ⟨T, hTT⟩ : ∃ t, t = tk ts k := ⟨_, rfl⟩
  rw [← hTT] at KT HRR hsz htl HNR0
  obtain ⟨b2, hb2⟩ : ∃ b, ((T.kind : Int) == 2) = b := ⟨_, rfl⟩
  obtain ⟨b1, hb1⟩ : ∃ b, ((T.kind : Int) == 1) = b := ⟨_, rfl⟩
  obtain ⟨bn, hbn⟩ : ∃ b, nameP T.text = b := ⟨_, rfl⟩
  obtain ⟨fk, hfk⟩ : ∃ z, funK T.text = z := ⟨_, rfl⟩
  have HFE := Lib.hid hfk
  have HFK := Lib.hid (hd_op (by have := funK_small T.text; rw [hfk] at this; exact this))
  have h2' : (T.kind = 2) ↔ b2 = true := by rw [← hb2, beq_iff_eq]; omega
  have h1' : (T.kind = 1) ↔ b1 = true := by rw [← hb1, beq_iff_eq]; omega
  rw [hbn, hfk] at HRR
  have HR2 := Lib.hid h2'
  have HR1 := Lib.hid h1'
  have HNM := Lib.hid hbn
  have KN := Lib.hid (fun w' => name_any ⟨T.text.toArray⟩ w' hsz)
  have hl : (⟨T.text.toArray⟩ : ByteArray).data.toList = T.text := rfl
  rw [hl, hbn] at KN
  clear hTT hbn h2' h1' hl hsz hfk
  go_wp2_with fail
  refine KT.out.mono ?_
  rintro e w2 ⟨rfl, HB2⟩
  have hs2 := HB2.out.size
  go_upto_region 2 with (fail)
  obtain ⟨w3, hw3⟩ : ∃ z9 : World, z9 = w2.alloc (Obj.cells #[.int .i64 T.kind, .string ⟨T.text.toArray⟩, .int .i64 T.line, .int .i64 T.col] 58) := ⟨_, rfl⟩
  have HB3 := Lib.hid (show Below w2.heap.size w2 w3 by rw [hw3]; exact below_box _ _)
  have E3 := Lib.hid (show Blk w3 w2.heap.size 58 #[.int .i64 T.kind, .string ⟨T.text.toArray⟩, .int .i64 T.line, .int .i64 T.col] by rw [hw3]; exact Blk.new _ _ _)
  rw [← hw3]
  clear hw3
  have HV3 := Lib.hid ((HV1.out.belowW HB2.out).belowW HB3.out)
  have F3 := Lib.hid ((F1.out.belowW HB2.out).belowW HB3.out)
  have HG3 := Lib.hid (grown_tr HG1.out (grown_tr (grown_of (some g) HB2.out) (grown_of (some g) HB3.out)))
  have X3 := Lib.hid (HXA.out.belowW HV3.out.b)
  obtain ⟨te, hte⟩ : ∃ z, z = w2.heap.size := ⟨_, rfl⟩
  have hteW : w.heap.size < te := by omega
  have hte3 : te < w3.heap.size := by rw [hte]; exact E3.out.lt
  have HNEE := Lib.hid (show some te ≠ some g from fun e => by have := HGL.out; injection e with e; omega)
  rw [← hte] at E3 ⊢
  clear hte
  have q0 := E3.out.cell 0
  have q1 := E3.out.cell 1
  simp only [List.getElem?_toArray, List.getElem?_cons_zero, List.getElem?_cons_succ] at q0 q1
  cases b2 with
  | true =>
    have HE1 := Lib.hid (show RR = (numP ts k).map numE by rw [HRR.out, if_pos (HR2.out.2 rfl)])
    clear HRR
    have KN := Lib.hid (pNumber HV3.out (by omega) hR)
    cases hq : numP ts k with
    | out => exact (numP_out hq).elim
    | bad ln co er =>
      have HE := Lib.hid (show RR = .bad ln co er by rw [HE1.out, hq]; rfl)
      rw [hq] at KN
      clear hq HE1
      go_wp2_with fail
      refine KN.out.mono ?_
      rintro e w5 ⟨rfl, HG5⟩
      go_wp2_with fail
      rw [HE.out]
      exact ⟨rfl, exr_bad (Lib.hid (grown_tr HG3.out HG5.out))⟩
    | ok a k1 =>
      have HE := Lib.hid (show RR = .ok (numE a) k1 by rw [HE1.out, hq]; rfl)
      have hsm := hd_num (numP_small2 hq)
      rw [hq] at KN
      clear hq HE1
      obtain ⟨n, d⟩ := a
      go_wp2_with fail
      refine KN.out.mono ?_
      rintro e w5 ⟨rfl, HG5, HV5⟩
      have F5 := Lib.hid (F3.out.grown HG5.out HNE.out)
      go_wp2_with fail
      refine (pNum (n, d) w5).mono ?_
      rintro e w6 ⟨rfl, HB6⟩
      have F6 := Lib.hid (F5.out.belowW HB6.out)
      have HV6 := Lib.hid (HV5.out.belowW HB6.out)
      have HG6 := Lib.hid (grown_tr HG3.out (grown_tr HG5.out (grown_of (some g) HB6.out)))
      simp only [ndR, Nd.val]
      obtain ⟨r0, h0, r1, h1, r2, h2, r3, h3, r4, h4, r5, h5⟩ := F6.out.all6
      go_wp2_with fail
      rw [pst6 F6.out]
      have FZ := Lib.hid (F6.out.put #[.int .i64 1, .int .i64 n, .int .i64 d, .string ⟨#[]⟩, .int .i64 0, .slice none 0 0])
      obtain ⟨z0, _, z1, _, z2, _, z3, _, z4, _, z5, _⟩ := FZ.out.all6
      refine bodyPost_ret (v := .agg #[.int .i64 1, .int .i64 n, .int .i64 d, .string ⟨#[]⟩, .int .i64 0, .slice none 0 0]) (by simp [results, Tryz.results158, go_sem, z0, z1, z2, z3, z4, z5]) rfl ?_
      rw [HE.out]
      exact ⟨ndR (n, d), rfl, Lib.hid (inx_leaf _ _ _ hsm), Lib.hid (grown_new HG6.out (Nat.le_refl _) _ _), Lib.hid (HV6.out.far hwr hlr _ _)⟩
  | false =>
    cases b1 with
    | false =>
      have HE1 := Lib.hid (show RR = r0 by
        rw [HRR.out, if_neg (fun e => by have := HR2.out.1 e; cases this), if_neg (fun e => by have := HR1.out.1 e.1; cases this), if_neg (fun e => by have := HR1.out.1 e.1; cases this)])
      clear HRR
      obtain ⟨r, hrr⟩ : ∃ r, r = r0 := ⟨_, rfl⟩
      rw [← hrr] at HK0 HE1 hr0
      have HE := HE1
      have hr := hr0
      clear hrr hr0 HE1
      have KC := Lib.hid (HK0.out w3 HV3.out)
      have hgw : g < w3.heap.size := HV3.out.gl
      have hrw : w.heap.size < w3.heap.size := F3.out.lt
      cases r with
      | out => exact (hr rfl).elim
      | bad ln co er =>
        go_wp2_with fail
        refine KC.out.mono ?_
        rintro e w7 ⟨rfl, HG7⟩
        go_wp2_with fail
        rw [HE.out]
        exact ⟨rfl, exr_bad (Lib.hid (grown_tr HG3.out HG7.out))⟩
      | ok T k1 =>
        go_wp2_with fail
        refine KC.out.mono ?_
        rintro e w7 ⟨v, rfl, HX7, HG7, HV7⟩
        have F7 := Lib.hid (F3.out.grown HG7.out HNE.out)
        obtain ⟨r0, h0, r1, h1, r2, h2, r3, h3, r4, h4, r5, h5⟩ := F7.out.all6
        go_wp2_with fail
        rw [pst6 F7.out]
        have FZ := Lib.hid (F7.out.put #[.int .i64 v.h.kind, .int .i64 v.h.n, .int .i64 v.h.d, .string v.h.name, .int .i64 v.h.k, .slice v.A v.len v.cap])
        obtain ⟨z0, _, z1, _, z2, _, z3, _, z4, _, z5, _⟩ := FZ.out.all6
        refine bodyPost_ret (v := .agg #[.int .i64 v.h.kind, .int .i64 v.h.n, .int .i64 v.h.d, .string v.h.name, .int .i64 v.h.k, .slice v.A v.len v.cap]) (by simp [results, Tryz.results158, go_sem, z0, z1, z2, z3, z4, z5]) rfl ?_
        rw [HE.out]
        exact ⟨v, rfl, Lib.hid ((HX7.out.far hrw _ _).weaken (Nat.le_of_lt hrw)), Lib.hid (grown_new (Lib.hid (grown_tr HG3.out HG7.out)).out (Nat.le_refl _) _ _), Lib.hid (HV7.out.far hwr hlr _ _)⟩
    | true =>
      cases bn with
      | true =>
        have HE := Lib.hid (show RR = .ok (varE T.text) (k + 1) by
          rw [HRR.out, if_neg (fun e => by have := HR2.out.1 e; cases this), if_pos ⟨HR1.out.2 rfl, rfl⟩])
        have HNR := Lib.hid (show nameR ts k = .ok T.text (k + 1) by rw [HNR0.out, if_pos ⟨HR1.out.2 rfl, HNM.out⟩])
        clear HRR
        go_wp2_with fail
        refine (KN.out _).mono ?_
        rintro e w4 ⟨rfl, rfl⟩
        have KM := Lib.hid (pName HV3.out hk)
        have hsm := hd_var (nameP_len HNM.out)
        rw [HNR.out] at KM
        go_wp2_with fail
        refine KM.out.mono ?_
        rintro e w5 ⟨rfl, HG5, HV5⟩
        have F5 := Lib.hid (F3.out.grown HG5.out HNE.out)
        have HG6 := Lib.hid (grown_tr HG3.out HG5.out)
        obtain ⟨r0, h0, r1, h1, r2, h2, r3, h3, r4, h4, r5, h5⟩ := F5.out.all6
        go_wp2_with fail
        rw [pst6 F5.out]
        have FZ := Lib.hid (F5.out.put #[.int .i64 2, .int .i64 0, .int .i64 0, .string ⟨T.text.toArray⟩, .int .i64 0, .slice none 0 0])
        obtain ⟨z0, _, z1, _, z2, _, z3, _, z4, _, z5, _⟩ := FZ.out.all6
        refine bodyPost_ret (v := .agg #[.int .i64 2, .int .i64 0, .int .i64 0, .string ⟨T.text.toArray⟩, .int .i64 0, .slice none 0 0]) (by simp [results, Tryz.results158, go_sem, z0, z1, z2, z3, z4, z5]) rfl ?_
        rw [HE.out]
        exact ⟨⟨⟨2, 0, 0, ⟨T.text.toArray⟩, 0⟩, none, 0, 0⟩, rfl, Lib.hid (inx_leaf _ _ _ hsm), Lib.hid (grown_new HG6.out (Nat.le_refl _) _ _), Lib.hid (HV5.out.far hwr hlr _ _)⟩
      | false =>
        have gc3 := X3.out.cell
        have hl3 := HXL.out w3 T.text htl X3.out.heap
        rw [HFE.out] at hl3
        obtain ⟨bf, hbf⟩ : ∃ b, (fk != 0) = b := ⟨_, rfl⟩
        cases bf with
        | false =>
          have HE1 := Lib.hid (show RR = r0 by
            rw [HRR.out, if_neg (fun e => by have := HR2.out.1 e; cases this), if_neg (fun e => by cases e.2), if_neg (fun e => by rw [bne_eq_false_iff_eq] at hbf; exact e.2 hbf)])
          clear HRR
          go_wp2_with fail
          refine (KN.out _).mono ?_
          rintro e w4 ⟨rfl, rfl⟩
          obtain ⟨r, hrr⟩ : ∃ r, r = r0 := ⟨_, rfl⟩
          rw [← hrr] at HK0 HE1 hr0
          have HE := HE1
          have hr := hr0
          clear hrr hr0 HE1
          have KC := Lib.hid (HK0.out w3 HV3.out)
          have hgw : g < w3.heap.size := HV3.out.gl
          have hrw : w.heap.size < w3.heap.size := F3.out.lt
          cases r with
          | out => exact (hr rfl).elim
          | bad ln co er =>
            go_wp2_with fail
            refine KC.out.mono ?_
            rintro e w7 ⟨rfl, HG7⟩
            go_wp2_with fail
            rw [HE.out]
            exact ⟨rfl, exr_bad (Lib.hid (grown_tr HG3.out HG7.out))⟩
          | ok T k1 =>
            go_wp2_with fail
            refine KC.out.mono ?_
            rintro e w7 ⟨v, rfl, HX7, HG7, HV7⟩
            have F7 := Lib.hid (F3.out.grown HG7.out HNE.out)
            obtain ⟨r0, h0, r1, h1, r2, h2, r3, h3, r4, h4, r5, h5⟩ := F7.out.all6
            go_wp2_with fail
            rw [pst6 F7.out]
            have FZ := Lib.hid (F7.out.put #[.int .i64 v.h.kind, .int .i64 v.h.n, .int .i64 v.h.d, .string v.h.name, .int .i64 v.h.k, .slice v.A v.len v.cap])
            obtain ⟨z0, _, z1, _, z2, _, z3, _, z4, _, z5, _⟩ := FZ.out.all6
            refine bodyPost_ret (v := .agg #[.int .i64 v.h.kind, .int .i64 v.h.n, .int .i64 v.h.d, .string v.h.name, .int .i64 v.h.k, .slice v.A v.len v.cap]) (by simp [results, Tryz.results158, go_sem, z0, z1, z2, z3, z4, z5]) rfl ?_
            rw [HE.out]
            exact ⟨v, rfl, Lib.hid ((HX7.out.far hrw _ _).weaken (Nat.le_of_lt hrw)), Lib.hid (grown_new (Lib.hid (grown_tr HG3.out HG7.out)).out (Nat.le_refl _) _ _), Lib.hid (HV7.out.far hwr hlr _ _)⟩
        | true =>
          have HE1 := Lib.hid (show RR = opOne fk r1 by
            rw [HRR.out, if_neg (fun e => by have := HR2.out.1 e; cases this), if_neg (fun e => by cases e.2), if_pos ⟨HR1.out.2 rfl, fun e => by rw [bne_iff_ne] at hbf; exact hbf e⟩]; rfl)
          clear HRR
          go_wp2_with fail
          refine (KN.out _).mono ?_
          rintro e w4 ⟨rfl, rfl⟩
          have e1 : IntKind.i64.wrap ((k : Int) + 1) = (k : Int) + 1 := by rw [IntKind.wrap_i64]; omega
          have hteg : te ≠ g := fun e => by have := HGL.out; omega
          have hter : w.heap.size ≠ te := by omega
          have HP := Lib.hid (show Blk w3 g 140 #[.slice A len cap, .int .i64 (k : Nat), .int .i64 (m : Nat)] from HV3.out.p)
          obtain ⟨p0, f0, p1, f1, p2, f2⟩ := HP.out.all3
          go_upto_region 8 with (fail)
          rw [HP.out.setCell_eq]
          have HM5 := Lib.hid (putB_grown w3 g 140 #[.slice A len cap, .int .i64 ((k + 1 : Nat) : Int), .int .i64 (m : Nat)])
          have HV5 := Lib.hid (HV3.out.put (k + 1) m (by omega))
          have E5 := Lib.hid (E3.out.far (t' := 140) hteg #[.slice A len cap, .int .i64 ((k + 1 : Nat) : Int), .int .i64 (m : Nat)])
          have F5 := Lib.hid (F3.out.far (t' := 140) hwr #[.slice A len cap, .int .i64 ((k + 1 : Nat) : Int), .int .i64 (m : Nat)])
          have HG5 := Lib.hid (grown_tr HG3.out HM5.out)
          have X5 := Lib.hid (HXA.out.belowW HV5.out.b)
          obtain ⟨w5, hw5⟩ : ∃ z9 : World, z9 = putB w3 g 140 #[.slice A len cap, .int .i64 ((k + 1 : Nat) : Int), .int .i64 (m : Nat)] := ⟨_, rfl⟩
          have hw5' : putB w3 g 140 ((#[.slice A len cap, .int .i64 (k : Nat), .int .i64 (m : Nat)] : Array Value).setIfInBounds 1 (.int .i64 ((k : Int) + 1))) = w5 := by rw [hw5]; rfl
          rw [← hw5] at HV5 E5 F5 HG5 X5
          rw [hw5']
          clear hw5 hw5' p0 f0 p1 f1 p2 f2 HP HM5 gc3 hl3
          cases r1 with
          | out => exact (hr1 rfl).elim
          | bad ln co er =>
            have HE := Lib.hid (show RR = .bad ln co er from HE1.out)
            clear HE1
            have HR31 := Lib.hid (below_dr w5)
            have R31r := Lib.hid (F5.out.belowW HR31.out)
            have R31e := Lib.hid (E5.out.belowW HR31.out)
            have R31v := Lib.hid (HV5.out.belowW HR31.out)
            have R31x := Lib.hid (X5.out.belowW HR31.out)
            have R31g := Lib.hid (grown_tr HG5.out (grown_of (some g) HR31.out))
            refine wp_region_held_drew (S := fun w' => w'.cell? ⟨1, 0, none⟩ = some (.map (some bm)) ∧ w'.heap[bm]? = some (.map es ck) ∧ w'.cell? ⟨te, 1, none⟩ = some (.string ⟨T.text.toArray⟩)) (by kernel_rfl) ?_ (fun hHeld => ?_)
            case refine_1 => exact ⟨R31x.out.cell, R31x.out.heap, R31e.out.cell 1⟩
            obtain ⟨wd31, hwd⟩ : ∃ z9 : World, z9 = w5.drew := ⟨_, rfl⟩
            rw [← hwd] at HR31 R31r R31e R31v R31x R31g hHeld ⊢
            clear hwd
            refine tkY 0 rfl (v := ?_) (.inl ⟨by rfl, ?_⟩) ?_
            case refine_2 => intro w9 hSw; (try dsimp only at hSw); go_simp; (try with_reducible rfl)
            try simp only [Act.put, setIfInBounds_toArray, set_cons_zero, set_cons_succ, getElem_toArray, getElem_cons_zero]
            refine tkY 1 rfl (v := ?_) (.inl ⟨by rfl, ?_⟩) ?_
            case refine_2 => intro w9 hSw; (try dsimp only at hSw); go_simp; (try with_reducible rfl)
            try simp only [Act.put, setIfInBounds_toArray, set_cons_zero, set_cons_succ, getElem_toArray, getElem_cons_zero, getElem_cons_succ]
            refine tkY 2 rfl (v := ?_) (.inl ⟨by rfl, ?_⟩) ?_
            case refine_2 => intro w9 hSw; (try dsimp only at hSw); go_simp; (try with_reducible rfl)
            try simp only [Act.put, setIfInBounds_toArray, set_cons_zero, set_cons_succ, getElem_toArray, getElem_cons_zero, getElem_cons_succ]
            refine tkY 3 rfl (v := ?_) (.inl ⟨by rfl, ?_⟩) ?_
            case refine_2 => intro w9 hSw; (try dsimp only at hSw); have hl9 := HXL.out w9 T.text htl (by simp only [hSw]); rw [HFE.out] at hl9; go_simp; (try with_reducible rfl)
            try simp only [Act.put, setIfInBounds_toArray, set_cons_zero, set_cons_succ, getElem_toArray, getElem_cons_zero, getElem_cons_succ]
            refine tkY 4 rfl (v := ?_) (.inl ⟨by rfl, ?_⟩) ?_
            case refine_2 => intro w9 hSw; (try dsimp only at hSw); go_simp; (try with_reducible rfl)
            try simp only [Act.put, setIfInBounds_toArray, set_cons_zero, set_cons_succ, getElem_toArray, getElem_cons_zero, getElem_cons_succ]
            refine wpAnyH_ready (rs := [5]) (by kernel_rfl) (by simp) ?_
            refine (AllReadyH.cons rfl (fun K hK => ?_) AllReadyH.nil)
            go_simp
            (with_reducible refine (HK1.out wd31 R31v.out).mono ?_)
            rintro e w32 ⟨rfl, HGr⟩
            clear hHeld
            go_wp2_with fail
            rw [HE.out]
            exact ⟨rfl, exr_bad (Lib.hid (grown_tr R31g.out HGr.out))⟩
          | ok T1 k1 =>
            have HE := Lib.hid (show RR = .ok (opE fk [T1]) k1 from HE1.out)
            clear HE1
            have HR31 := Lib.hid (below_dr w5)
            have R31r := Lib.hid (F5.out.belowW HR31.out)
            have R31e := Lib.hid (E5.out.belowW HR31.out)
            have R31v := Lib.hid (HV5.out.belowW HR31.out)
            have R31x := Lib.hid (X5.out.belowW HR31.out)
            have R31g := Lib.hid (grown_tr HG5.out (grown_of (some g) HR31.out))
            refine wp_region_held_drew (S := fun w' => w'.cell? ⟨1, 0, none⟩ = some (.map (some bm)) ∧ w'.heap[bm]? = some (.map es ck) ∧ w'.cell? ⟨te, 1, none⟩ = some (.string ⟨T.text.toArray⟩)) (by kernel_rfl) ?_ (fun hHeld => ?_)
            case refine_1 => exact ⟨R31x.out.cell, R31x.out.heap, R31e.out.cell 1⟩
            obtain ⟨wd31, hwd⟩ : ∃ z9 : World, z9 = w5.drew := ⟨_, rfl⟩
            rw [← hwd] at HR31 R31r R31e R31v R31x R31g hHeld ⊢
            clear hwd
            refine tkY 0 rfl (v := ?_) (.inl ⟨by rfl, ?_⟩) ?_
            case refine_2 => intro w9 hSw; (try dsimp only at hSw); go_simp; (try with_reducible rfl)
            try simp only [Act.put, setIfInBounds_toArray, set_cons_zero, set_cons_succ, getElem_toArray, getElem_cons_zero]
            refine tkY 1 rfl (v := ?_) (.inl ⟨by rfl, ?_⟩) ?_
            case refine_2 => intro w9 hSw; (try dsimp only at hSw); go_simp; (try with_reducible rfl)
            try simp only [Act.put, setIfInBounds_toArray, set_cons_zero, set_cons_succ, getElem_toArray, getElem_cons_zero, getElem_cons_succ]
            refine tkY 2 rfl (v := ?_) (.inl ⟨by rfl, ?_⟩) ?_
            case refine_2 => intro w9 hSw; (try dsimp only at hSw); go_simp; (try with_reducible rfl)
            try simp only [Act.put, setIfInBounds_toArray, set_cons_zero, set_cons_succ, getElem_toArray, getElem_cons_zero, getElem_cons_succ]
            refine tkY 3 rfl (v := ?_) (.inl ⟨by rfl, ?_⟩) ?_
            case refine_2 => intro w9 hSw; (try dsimp only at hSw); have hl9 := HXL.out w9 T.text htl (by simp only [hSw]); rw [HFE.out] at hl9; go_simp; (try with_reducible rfl)
            try simp only [Act.put, setIfInBounds_toArray, set_cons_zero, set_cons_succ, getElem_toArray, getElem_cons_zero, getElem_cons_succ]
            refine tkY 4 rfl (v := ?_) (.inl ⟨by rfl, ?_⟩) ?_
            case refine_2 => intro w9 hSw; (try dsimp only at hSw); go_simp; (try with_reducible rfl)
            try simp only [Act.put, setIfInBounds_toArray, set_cons_zero, set_cons_succ, getElem_toArray, getElem_cons_zero, getElem_cons_succ]
            refine wpAnyH_ready (rs := [5]) (by kernel_rfl) (by simp) ?_
            refine (AllReadyH.cons rfl (fun K hK => ?_) AllReadyH.nil)
            go_simp
            (with_reducible refine (HK1.out wd31 R31v.out).mono ?_)
            rintro e w32 ⟨v, rfl, HXr, HGr, HVr⟩
            have R32r := Lib.hid (R31r.out.grown HGr.out HNE.out)
            have R32e := Lib.hid (R31e.out.grown HGr.out HNEE.out)
            have R32v := Lib.hid (HVr.out)
            have R32x := Lib.hid (HXA.out.belowW HVr.out.b)
            have R32g := Lib.hid (grown_tr R31g.out HGr.out)
            go_wp2_with fail
            clear hHeld
            refine hK.out _ _ ?_ (fun hHeld => ?_)
            case refine_1 => exact ⟨R32x.out.cell, R32x.out.heap, R32e.out.cell 1⟩
            clear hK K
            try simp only [setIfInBounds_toArray, set_cons_zero, set_cons_succ]
            refine wpAnyH_ready (rs := [6]) (by kernel_rfl) (by simp) ?_
            refine (AllReadyH.cons rfl (fun K hK => ?_) AllReadyH.nil)
            go_simp
            obtain ⟨w33, hw⟩ : ∃ z9 : World, z9 = w32.alloc (Obj.cells #[.int .i64 v.h.kind, .int .i64 v.h.n, .int .i64 v.h.d, .string v.h.name, .int .i64 v.h.k, .slice v.A v.len v.cap] 29) := ⟨_, rfl⟩
            have HC33 := Lib.hid (show Below w32.heap.size w32 w33 by rw [hw]; exact below_box _ _)
            have R33r := Lib.hid (R32r.out.belowW HC33.out)
            have R33e := Lib.hid (R32e.out.belowW HC33.out)
            have R33v := Lib.hid (R32v.out.belowW HC33.out)
            have R33x := Lib.hid (R32x.out.belowW HC33.out)
            have R33g := Lib.hid (grown_tr R32g.out (grown_of (some g) HC33.out))
            have R33n := Lib.hid (show InX wd31.heap.size w33 (.mk ⟨fk, 0, 0, ⟨#[]⟩, 0⟩ [T1]) ⟨⟨fk, 0, 0, ⟨#[]⟩, 0⟩, some ⟨w32.heap.size, 0, none⟩, 1, 1⟩ by rw [hw]; exact inx_new1 w32 ⟨fk, 0, 0, ⟨#[]⟩, 0⟩ HFK.out T1 v _ HGr.out.size HXr.out)
            rw [← hw]
            clear hw
            clear hHeld
            refine hK.out _ _ ?_ (fun hHeld => ?_)
            case refine_1 => exact ⟨R33x.out.cell, R33x.out.heap, R33e.out.cell 1⟩
            clear hK K
            try simp only [setIfInBounds_toArray, set_cons_zero, set_cons_succ]
            refine tkY 7 rfl (v := ?_) (.inl ⟨by rfl, ?_⟩) ?_
            case refine_2 => intro w9 hSw; (try dsimp only at hSw); go_simp; (try with_reducible rfl)
            try simp only [Act.put, setIfInBounds_toArray, set_cons_zero, set_cons_succ, getElem_toArray, getElem_cons_zero, getElem_cons_succ]
            refine wpAnyH_ready (rs := [8]) (by kernel_rfl) (by simp) ?_
            refine (AllReadyH.cons rfl (fun K hK => ?_) AllReadyH.nil)
            obtain ⟨ps0, fs0, ps1, fs1, ps2, fs2, ps3, fs3, ps4, fs4, ps5, fs5⟩ := R33r.out.all6
            go_simp
            rw [pst6 R33r.out]
            clear ps0 fs0 ps1 fs1 ps2 fs2 ps3 fs3 ps4 fs4 ps5 fs5
            have R34e := Lib.hid (R33e.out.far (t' := 29) (Ne.symm hter) #[.int .i64 fk, .int .i64 0, .int .i64 0, .string ⟨#[]⟩, .int .i64 0, .slice (some ⟨w32.heap.size, 0, none⟩) 1 1])
            have R34v := Lib.hid (R33v.out.far hwr hlr 29 #[.int .i64 fk, .int .i64 0, .int .i64 0, .string ⟨#[]⟩, .int .i64 0, .slice (some ⟨w32.heap.size, 0, none⟩) 1 1])
            have R34x := Lib.hid (HXA.out.belowW (R33v.out.far hwr hlr 29 #[.int .i64 fk, .int .i64 0, .int .i64 0, .string ⟨#[]⟩, .int .i64 0, .slice (some ⟨w32.heap.size, 0, none⟩) 1 1]).b)
            have R34g := Lib.hid (grown_new R33g.out (Nat.le_refl _) 29 #[.int .i64 fk, .int .i64 0, .int .i64 0, .string ⟨#[]⟩, .int .i64 0, .slice (some ⟨w32.heap.size, 0, none⟩) 1 1])
            have R34n := Lib.hid (R33n.out.far R31r.out.lt 29 #[.int .i64 fk, .int .i64 0, .int .i64 0, .string ⟨#[]⟩, .int .i64 0, .slice (some ⟨w32.heap.size, 0, none⟩) 1 1])
            have R34zz := Lib.hid (R33r.out.put #[.int .i64 fk, .int .i64 0, .int .i64 0, .string ⟨#[]⟩, .int .i64 0, .slice (some ⟨w32.heap.size, 0, none⟩) 1 1])
            obtain ⟨w34, hw9⟩ : ∃ z9 : World, z9 = putB w33 (w.heap.size) 29 #[.int .i64 fk, .int .i64 0, .int .i64 0, .string ⟨#[]⟩, .int .i64 0, .slice (some ⟨w32.heap.size, 0, none⟩) 1 1] := ⟨_, rfl⟩
            rw [← hw9] at R34e R34v R34x R34g R34n R34zz ⊢
            clear hw9 hHeld
            refine hK.out _ _ ?_ (fun hHeld => ?_)
            case refine_1 => exact ⟨R34x.out.cell, R34x.out.heap, R34e.out.cell 1⟩
            clear hK K
            try simp only [setIfInBounds_toArray, set_cons_zero, set_cons_succ]
            refine wpAnyH_done (by kernel_rfl) ?_ _
            obtain ⟨z0, _, z1, _, z2, _, z3, _, z4, _, z5, _⟩ := R34zz.out.all6
            go_wp2_with fail
            refine bodyPost_ret (v := .agg #[.int .i64 fk, .int .i64 0, .int .i64 0, .string ⟨#[]⟩, .int .i64 0, .slice (some ⟨w32.heap.size, 0, none⟩) 1 1]) (by simp [results, Tryz.results158, go_sem, z0, z1, z2, z3, z4, z5]) rfl ?_
            rw [HE.out]
            exact ⟨⟨⟨fk, 0, 0, ⟨#[]⟩, 0⟩, some ⟨w32.heap.size, 0, none⟩, 1, 1⟩, rfl, Lib.hid (R34n.out.weaken (Nat.le_of_lt R31r.out.lt)), R34g, R34v⟩
end Go.Proofs.YtkjoohnndobjeaaGreatDoor
