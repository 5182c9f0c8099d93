/-
  The walk of the parser's chains of operations.
-/
import Derived.Test.YtkjoohnndobjeaaGreatDoorPaJ
set_option linter.unusedVariables false
namespace Go.Proofs.YtkjoohnndobjeaaGreatDoor
open Go.RowKit Go.Fl Go.Fl.Lx Go.Fl.Nm Go.Fl.Fm Go.Fl.Rt Go.Fl.Pa
open List (setIfInBounds_toArray set_cons_zero set_cons_succ getElem_toArray getElem_cons_zero getElem_cons_succ)
/-- What a chain comes to, with what its first operand comes to. -/
def chainR (ch : TE → Nat → PR TE) (r : PR TE) : PR TE :=
  match r with
  | .ok e k1 => ch e k1
  | r => r
/-- One step of a chain. -/
def stepR (ts : List Tok) (opk : List UInt8 → Int) (ch : TE → Nat → PR TE) (e : TE) (k : Nat) (r : PR TE) : PR TE :=
  if (tk ts k).kind = 3 ∧ opk (tk ts k).text ≠ 0 then
    match r with
    | .ok b k1 => ch (opE (opk (tk ts k).text) [e, b]) k1
    | r => r
  else .ok e k
theorem map_kept {w w' : World} {bm g : Nat} {o : Obj} (h : w.heap[bm]? = some o) (hg : w.grownBy w' (some g)) (hne : bm ≠ g) : w'.heap[bm]? = some o :=
  (hg.block bm (Array.getElem?_eq_some_iff.1 h).1 (fun e => hne (Option.some.inj e))).trans h
theorem map_below {w w' : World} {bm : Nat} {o : Obj} (h : w.heap[bm]? = some o) (hb : Below w.heap.size w w') : w'.heap[bm]? = some o :=
  (hb.block bm (Array.getElem?_eq_some_iff.1 h).1).trans h
theorem map_put {w : World} {bm r : Nat} {o : Obj} (h : w.heap[bm]? = some o) (hne : bm ≠ r) (t : TypeId) (V : Array Value) : (putB w r t V).heap[bm]? = some o := map_kept h (putB_grown w r t V) hne
/-- A loop's state: so much fuel is left, the tree so far lies at the loop's variable. -/
def ChRel (w0 w : World) (g : Nat) (A : Option Addr) (len cap : Nat) (ts : List Tok) (m : Nat) (ch : Nat → TE → Nat → PR TE) (RR : PR TE) (B be bm : Nat) (es : Array MapEntry) (f0 : Nat) (f : Nat) (wr : World) : Prop :=
  ∃ (T : TE) (v : Nd) (k : Nat), Hid (ch f T k = RR) ∧ Hid (k ≤ ts.length ∧ 8 * (ts.length - k) + 2 ≤ f ∧ f ≤ f0) ∧ Hid (InA (fun b => B ≤ b ∧ b ≠ be) wr T v) ∧ Hid (Blk wr be 29 #[.int .i64 v.h.kind, .int .i64 v.h.n, .int .i64 v.h.d, .string v.h.name, .int .i64 v.h.k, .slice v.A v.len v.cap]) ∧ Hid (Blk wr w.heap.size 29 #[.int .i64 0, .int .i64 0, .int .i64 0, .string ⟨#[]⟩, .int .i64 0, .slice none 0 0]) ∧
    Hid (Env w0 g A len cap ts k m wr) ∧ Hid (w.grownBy wr (some g)) ∧ Hid (wr.heap[bm]? = some (.map es 2))

set_option maxHeartbeats 4000000 in
set_option maxRecDepth 100000 in
theorem pChainS {w0 w : World} {g : Nat} {A : Option Addr} {len cap : Nat} {ts : List Tok} {k m : Nat} (h : Env w0 g A len cap ts k m w) (hk : k ≤ 100001) (bm : Nat) (es : Array MapEntry) (opk : List UInt8 → Int) (hop : ∀ l, 0 ≤ opk l ∧ opk l ≤ 13)
    (LK : ∀ (w' : World) (l : List UInt8), w'.heap[bm]? = some (.map es 2) → (Instr.lookup 142 (.map (some bm)) (.string ⟨l.toArray⟩) true).run Tryz.prog w' = .ok (.tuple #[.int .i64 (opk l), .bool (opk l != 0)]) w')
    (hbm : w.heap[bm]? = some (.map es 2)) (hbg : bm ≠ g)
    (ch : Nat → TE → Nat → PR TE) (nx : Nat → Nat → PR TE) (hch : ∀ f e k, ch (f + 1) e k = stepR ts opk (ch f) e k (nx f (k + 1)))
    (hnk : ∀ f k b k2, nx f k = .ok b k2 → k < k2 ∧ k2 ≤ ts.length) (hno : ∀ f k, 8 * (ts.length - k) + 7 ≤ f → nx f k ≠ .out)
    (f0 : Nat) (r : PR TE) (hr : r ≠ .out) (hrk : ∀ T k1, r = .ok T k1 → k1 ≤ ts.length ∧ 8 * (ts.length - k1) + 2 ≤ f0)
    (K1 : ∀ w', Env w0 g A len cap ts k m w' → Calls Tryz.prog 93 #[.pointer (some ⟨g, 0, none⟩)] w' (ExR w0 g A len cap ts m r w'))
    (K2 : ∀ f k', f < f0 → 8 * (ts.length - k') + 7 ≤ f → k' ≤ 100001 → ∀ w', Env w0 g A len cap ts k' m w' → Calls Tryz.prog 93 #[.pointer (some ⟨g, 0, none⟩)] w' (ExR w0 g A len cap ts m (nx f k') w')) :
    Calls Tryz.prog 92 #[.pointer (some ⟨g, 0, none⟩), .func (.func 93) #[.pointer (some ⟨g, 0, none⟩)] #[], .func (.func 93) #[.pointer (some ⟨g, 0, none⟩)] #[], .map (some bm)] w (ExR w0 g A len cap ts m (chainR (ch f0) r) w) := by
  have HK2 := Lib.hid K2
  have HLK := Lib.hid LK
  have HCH := Lib.hid hch
  have HNK := Lib.hid hnk
  have HNO := Lib.hid hno
  have HTL := Lib.hid (show ts.length ≤ 100000 by rw [h.t.hl]; exact h.t.hs)
  obtain ⟨RR, hRR⟩ : ∃ RR, RR = chainR (ch f0) r := ⟨_, rfl⟩
  have HRR := Lib.hid hRR
  rw [← hRR]
  have HK1 := Lib.hid K1
  clear K1 K2 LK hch hnk hno hRR
  have hbmw : bm < w.heap.size := (Array.getElem?_eq_some_iff.1 hbm).1
  go_enter Tryz.func92, Tryz.ntmps92
  go_upto_region 1 with (fail)
  obtain ⟨w1, hw1⟩ : ∃ z9 : World, z9 = w.alloc (Obj.cells #[.int .i64 0, .int .i64 0, .int .i64 0, .string ⟨#[]⟩, .int .i64 0, .slice none 0 0] 29) := ⟨_, rfl⟩
  have O1 := Lib.hid (show Below w.heap.size w w1 by rw [hw1]; exact below_box _ _)
  have F1 := Lib.hid (show Blk w1 w.heap.size 29 #[.int .i64 0, .int .i64 0, .int .i64 0, .string ⟨#[]⟩, .int .i64 0, .slice none 0 0] by rw [hw1]; exact Blk.new _ _ _)
  rw [← hw1]
  clear hw1
  have HNE := Lib.hid (show some w.heap.size ≠ some g from fun e => by have := h.gl; injection e with e; omega)
  have hwr : w.heap.size ≠ g := fun e => HNE.out (by rw [e])
  have hlr : w0.heap.size ≤ w.heap.size := h.b.size
  have hgl : g < w.heap.size := h.gl
  have HV1 := Lib.hid (h.belowW O1.out)
  have HG1 := Lib.hid (grown_of (some g) O1.out)
  have hr1 : w.heap.size < w1.heap.size := F1.out.lt
  clear h
  have HGL := Lib.hid hgl
  have hgw1 : g < w1.heap.size := HV1.out.gl
  have M1 := Lib.hid (map_below hbm O1.out)
  clear hbm
  have KC := Lib.hid (HK1.out w1 HV1.out)
  cases r with
  | out => exact (hr rfl).elim
  | bad ln co er =>
    have HE := Lib.hid (show RR = .bad ln co er from HRR.out)
    clear HRR
    go_wp2_with fail
    refine KC.out.mono ?_
    rintro e w2 ⟨rfl, HG2⟩
    go_wp2_with fail
    rw [HE.out]
    exact ⟨rfl, exr_bad (Lib.hid (grown_tr HG1.out HG2.out))⟩
  | ok T k1 =>
    have HE := Lib.hid (show ch f0 T k1 = RR from HRR.out.symm)
    have HFU := Lib.hid (show k1 ≤ ts.length ∧ 8 * (ts.length - k1) + 2 ≤ f0 ∧ f0 ≤ f0 from ⟨(hrk T k1 rfl).1, (hrk T k1 rfl).2, Nat.le_refl _⟩)
    clear HRR hrk
    go_wp2_with fail
    refine KC.out.mono ?_
    rintro e w2 ⟨v, rfl, HX2, HG2, HV2⟩
    have F2r := Lib.hid (F1.out.grown HG2.out HNE.out)
    have M2 := Lib.hid (map_kept M1.out HG2.out hbg)
    have HGR := HG2
    have HG2 := Lib.hid (grown_tr HG1.out HG2.out)
    go_upto_region 2 with (fail)
    obtain ⟨w3, hw3⟩ : ∃ z9 : World, z9 = w2.alloc (Obj.cells #[.int .i64 v.h.kind, .int .i64 v.h.n, .int .i64 v.h.d, .string v.h.name, .int .i64 v.h.k, .slice v.A v.len v.cap] 29) := ⟨_, rfl⟩
    have HB3 := Lib.hid (show Below w2.heap.size w2 w3 by rw [hw3]; exact below_box _ _)
    have E3 := Lib.hid (show Blk w3 w2.heap.size 29 #[.int .i64 v.h.kind, .int .i64 v.h.n, .int .i64 v.h.d, .string v.h.name, .int .i64 v.h.k, .slice v.A v.len v.cap] by rw [hw3]; exact Blk.new _ _ _)
    rw [← hw3]
    clear hw3
    have HV3 := Lib.hid (HV2.out.belowW HB3.out)
    have F3 := Lib.hid (F2r.out.belowW HB3.out)
    have HX3 := Lib.hid (InA.belowW (InA.weaken (InA.lt HX2.out) (Q := fun b => w1.heap.size ≤ b ∧ b ≠ w2.heap.size) (fun b hb => ⟨hb.1, Nat.ne_of_lt hb.2⟩)) HB3.out)
    have HG3 := Lib.hid (grown_tr HG2.out (grown_of (some g) HB3.out))
    have M3 := Lib.hid (map_below M2.out HB3.out)
    have hbeW : w.heap.size < w2.heap.size := F2r.out.lt
    have hw1e : w1.heap.size ≤ w2.heap.size := HGR.out.size
    have hgbe2 : g < w2.heap.size := HV2.out.gl
    obtain ⟨be, hbe⟩ : ∃ z, z = w2.heap.size := ⟨_, rfl⟩
    rw [← hbe] at hw1e E3 hbeW hgbe2 HX3 ⊢
    clear hbe
    have hbeg : be ≠ g := by omega
    have hbel : w0.heap.size ≤ be := by omega
    have hbew : w.heap.size ≤ be := by omega
    have hrbe : w.heap.size ≠ be := by omega
    have hbmbe : bm ≠ be := by omega
    have HNEE := Lib.hid (show some be ≠ some g from fun e => hbeg (Option.some.inj e))
    have hr1' := hr1
    clear hr1
    have hr1 := hr1'
    clear hr1'
    go_loopg [10, 11] f0 (fun f d1 d2 wr => ChRel w0 w g A len cap ts m ch RR w1.heap.size be bm es f0 f wr)
    case atStart => exact ⟨T, v, k1, HE, HFU, HX3, E3, F3, HV3, HG3, M3⟩
    case round =>
      clear HE HFU HX3 E3 F3 HV3 HG3 M3 HB3 HX2 HG2 HV2 F2r M2 KC HK1 HG1 HV1 F1 O1 M1 HGR
      obtain ⟨T0, v, kk, HE0, HFU, HX1, E1, F1, HV1, HG1, HM1⟩ := hrel
      obtain ⟨hkl, hfu, hfu0⟩ := HFU.out
      have hkl0 := HTL.out
      cases gk with
      | zero => omega
      | succ f =>
        have HE1 := Lib.hid (show RR = stepR ts opk (ch f) T0 kk (nx f (kk + 1)) from HE0.out.symm.trans (HCH.out f T0 kk))
        have KT := Lib.hid (fun (w' : World) (hb : Below wr.heap.size wr w') => Env.tok (show Env w0 g A len cap ts kk m w' from HV1.out.belowW hb) 0 (by omega))
        simp only [Nat.add_zero] at KT
        have hlt0 := @tk_lt ts kk
        have htok := HV1.out.t.tk kk
        unfold stepR at HE1
        obtain ⟨T9, hTT⟩ : ∃ t, t = tk ts kk := ⟨_, rfl⟩
        rw [← hTT] at KT HE1 hlt0 htok
        have hop9 := hop T9.text
        have HL9 := Lib.hid (fun (w' : World) (hh : w'.heap[bm]? = some (.map es 2)) => HLK.out w' T9.text hh)
        obtain ⟨op, hopp⟩ : ∃ z, z = opk T9.text := ⟨_, rfl⟩
        rw [← hopp] at HL9 HE1 hop9
        have HOP := Lib.hid (hd_op hop9)
        obtain ⟨b, hb⟩ : ∃ b, (op != 0) = b := ⟨_, rfl⟩
        have HRB := Lib.hid (show (op ≠ 0) ↔ b = true by rw [← hb, bne_iff_ne])
        rw [hb] at HL9
        obtain ⟨c, hc⟩ : ∃ b, ((T9.kind : Int) != 3) = b := ⟨_, rfl⟩
        have HRC := Lib.hid (show (T9.kind ≠ 3) ↔ c = true by rw [← hc, bne_iff_ne]; omega)
        clear hTT hopp hb
        have hF0 := tokF0 T9
        have hF1 := tokF1 T9
        go_wp2_with fail
        refine (KT.out wr (Below.refl _ _)).mono ?_
        rintro e w4 ⟨rfl, HB4⟩
        have M4 := Lib.hid (map_below HM1.out HB4.out)
        have hl4 := HL9.out w4 M4.out
        have HV4 := Lib.hid (show Env w0 g A len cap ts kk m w4 from HV1.out.belowW HB4.out)
        have E4 := Lib.hid (E1.out.belowW HB4.out)
        have F4 := Lib.hid (F1.out.belowW HB4.out)
        have HX4 := Lib.hid (HX1.out.belowW HB4.out)
        have HG4 := Lib.hid (grown_tr HG1.out (grown_of (some g) HB4.out))
        cases b with
        | false =>
          have HE := Lib.hid (show RR = .ok T0 kk by rw [HE1.out, if_neg (fun e => by have := HRB.out.1 e.2; cases this)])
          clear HE1
          obtain ⟨a0, b0, a1, b1, a2, b2, a3, b3, a4, b4, a5, b5⟩ := E4.out.all6
          obtain ⟨r0, h0, r1, h1, r2, h2, r3, h3, r4, h4, r5, h5⟩ := F4.out.all6
          go_wp2_with fail
          rw [pst6 F4.out]
          have FZ := Lib.hid (F4.out.put #[.int .i64 v.h.kind, .int .i64 v.h.n, .int .i64 v.h.d, .string v.h.name, .int .i64 v.h.k, .slice v.A v.len v.cap])
          obtain ⟨z0, _, z1, _, z2, _, z3, _, z4, _, z5, _⟩ := FZ.out.all6
          refine bodyPost_ret (v := .agg #[.int .i64 v.h.kind, .int .i64 v.h.n, .int .i64 v.h.d, .string v.h.name, .int .i64 v.h.k, .slice v.A v.len v.cap]) (by simp [results, Tryz.results92, go_sem, z0, z1, z2, z3, z4, z5]) rfl ?_
          rw [HE.out]
          exact ⟨v, rfl, Lib.hid (InA.weaken (InA.far HX4.out (fun e => absurd e.1 (Nat.not_le_of_lt hr1)) _ _) (fun b hb => Nat.le_trans (Nat.le_of_lt hr1) hb.1)), Lib.hid (grown_new HG4.out (Nat.le_refl _) _ _), Lib.hid (HV4.out.far hwr hlr _ _)⟩
        | true =>
          cases c with
          | true =>
            have HE := Lib.hid (show RR = .ok T0 kk by rw [HE1.out, if_neg (fun e => HRC.out.2 (by first | rfl | trivial) e.1)])
            clear HE1
            go_wp2_with fail
            refine (KT.out w4 HB4.out).mono ?_
            rintro e w5 ⟨rfl, HB5⟩
            have HV4 := Lib.hid (HV4.out.belowW HB5.out)
            have E4 := Lib.hid (E4.out.belowW HB5.out)
            have F4 := Lib.hid (F4.out.belowW HB5.out)
            have HX4 := Lib.hid (HX4.out.belowW HB5.out)
            have HG4 := Lib.hid (grown_tr HG4.out (grown_of (some g) HB5.out))
            obtain ⟨a0, b0, a1, b1, a2, b2, a3, b3, a4, b4, a5, b5⟩ := E4.out.all6
            obtain ⟨r0, h0, r1, h1, r2, h2, r3, h3, r4, h4, r5, h5⟩ := F4.out.all6
            go_wp2_with fail
            rw [pst6 F4.out]
            have FZ := Lib.hid (F4.out.put #[.int .i64 v.h.kind, .int .i64 v.h.n, .int .i64 v.h.d, .string v.h.name, .int .i64 v.h.k, .slice v.A v.len v.cap])
            obtain ⟨z0, _, z1, _, z2, _, z3, _, z4, _, z5, _⟩ := FZ.out.all6
            refine bodyPost_ret (v := .agg #[.int .i64 v.h.kind, .int .i64 v.h.n, .int .i64 v.h.d, .string v.h.name, .int .i64 v.h.k, .slice v.A v.len v.cap]) (by simp [results, Tryz.results92, go_sem, z0, z1, z2, z3, z4, z5]) rfl ?_
            rw [HE.out]
            exact ⟨v, rfl, Lib.hid (InA.weaken (InA.far HX4.out (fun e => absurd e.1 (Nat.not_le_of_lt hr1)) _ _) (fun b hb => Nat.le_trans (Nat.le_of_lt hr1) hb.1)), Lib.hid (grown_new HG4.out (Nat.le_refl _) _ _), Lib.hid (HV4.out.far hwr hlr _ _)⟩
          | false =>
            have hk3 : T9.kind = 3 := by
              apply Decidable.byContradiction
              intro h
              have := HRC.out.1 h
              cases this
            have hkl := hlt0 (by omega)
            have HE1 := Lib.hid (HE1.out.trans (if_pos ⟨hk3, HRB.out.2 (by first | rfl | trivial)⟩))
            have KN := Lib.hid (HK2.out f (kk + 1) (by omega) (by omega) (by omega))
            have hrn := HNO.out f (kk + 1) (by omega)
            have HNk := Lib.hid (HNK.out f (kk + 1))
            obtain ⟨r2, hr2⟩ : ∃ z, z = nx f (kk + 1) := ⟨_, rfl⟩
            rw [← hr2] at HE1 KN hrn HNk
            clear hr2 hk3 hlt0
            go_wp2_with fail
            refine (KT.out w4 HB4.out).mono ?_
            rintro e w5 ⟨rfl, HB5⟩
            have HV5 := Lib.hid (HV4.out.belowW HB5.out)
            have E5 := Lib.hid (E4.out.belowW HB5.out)
            have F5 := Lib.hid (F4.out.belowW HB5.out)
            have HX5 := Lib.hid (HX4.out.belowW HB5.out)
            have HM5 := Lib.hid (map_below M4.out HB5.out)
            have HG5 := Lib.hid (grown_tr HG4.out (grown_of (some g) HB5.out))
            have HP := Lib.hid (show Blk w5 g 140 #[.slice A len cap, .int .i64 (kk : Nat), .int .i64 (m : Nat)] from HV5.out.p)
            have e1 : IntKind.i64.wrap ((kk : Int) + 1) = (kk : Int) + 1 := by rw [IntKind.wrap_i64]; omega
            obtain ⟨p0, f0', p1, f1, p2, f2⟩ := HP.out.all3
            go_upto_region 6 with (fail)
            rw [HP.out.setCell_eq]
            have HM6 := Lib.hid (putB_grown w5 g 140 #[.slice A len cap, .int .i64 ((kk + 1 : Nat) : Int), .int .i64 (m : Nat)])
            have HV6 := Lib.hid (HV5.out.put (kk + 1) m (by omega))
            have E6 := Lib.hid (E5.out.far (t' := 140) hbeg #[.slice A len cap, .int .i64 ((kk + 1 : Nat) : Int), .int .i64 (m : Nat)])
            have F6 := Lib.hid (F5.out.far (t' := 140) hwr #[.slice A len cap, .int .i64 ((kk + 1 : Nat) : Int), .int .i64 (m : Nat)])
            have HX6 := Lib.hid (HX5.out.mv (fun e => absurd e.1 (Nat.not_le_of_lt hgw1)) HM6.out)
            have HG6 := Lib.hid (grown_tr HG5.out HM6.out)
            have M6 := Lib.hid (map_kept HM5.out HM6.out hbg)
            obtain ⟨w6, hw6⟩ : ∃ z9 : World, z9 = putB w5 g 140 #[.slice A len cap, .int .i64 ((kk + 1 : Nat) : Int), .int .i64 (m : Nat)] := ⟨_, rfl⟩
            have hw6' : putB w5 g 140 ((#[.slice A len cap, .int .i64 (kk : Nat), .int .i64 (m : Nat)] : Array Value).setIfInBounds 1 (.int .i64 ((kk : Int) + 1))) = w6 := by rw [hw6]; rfl
            rw [← hw6] at HV6 E6 F6 HX6 HG6 M6
            rw [hw6']
            clear hw6 hw6' p0 f0' p1 f1 p2 f2 HP HM6 hl4
            cases r2 with
            | out => exact (hrn rfl).elim
            | bad ln co er =>
              have HE := Lib.hid (show RR = .bad ln co er from HE1.out)
              clear HE1
              have HR31 := Lib.hid (below_dr w6)
              have R31r := Lib.hid (F6.out.belowW HR31.out)
              have R31e := Lib.hid (E6.out.belowW HR31.out)
              have R31v := Lib.hid (HV6.out.belowW HR31.out)
              have R31g := Lib.hid (grown_tr HG6.out (grown_of (some g) HR31.out))
              have R31x := Lib.hid (HX6.out.belowW HR31.out)
              have R31b := Lib.hid (map_below M6.out HR31.out)
              refine wp_region_held_drew (S := fun w' => w'.cell? ⟨g, 0, none⟩ = some (.slice A len cap)) (by kernel_rfl) ?_ (fun hHeld => ?_)
              case refine_1 => exact Blk.cell R31v.out.p 0
              obtain ⟨wd31, hwd⟩ : ∃ z9 : World, z9 = w6.drew := ⟨_, rfl⟩
              rw [← hwd] at HR31 R31r R31e R31v R31g R31x R31b hHeld ⊢
              clear hwd
              refine tkY 0 rfl (v := ?_) (.inl ⟨by rfl, ?_⟩) ?_
              case refine_2 => intro w9 hSw; (try dsimp only at hSw); go_simp; (try with_reducible rfl)
              try simp only [Act.put, setIfInBounds_toArray, set_cons_zero, set_cons_succ, getElem_toArray, getElem_cons_zero]
              refine tkY 2 rfl (v := ?_) (.inl ⟨by rfl, ?_⟩) ?_
              case refine_2 => intro w9 hSw; (try dsimp only at hSw); go_simp; (try with_reducible rfl)
              try simp only [Act.put, setIfInBounds_toArray, set_cons_zero, set_cons_succ, getElem_toArray, getElem_cons_zero, getElem_cons_succ]
              refine wpAnyH_ready (rs := [1, 3]) (by kernel_rfl) (by simp) ?_
              refine (AllReadyH.cons rfl (fun K hK => ?_) (AllReadyH.cons rfl (fun K hK => ?_) AllReadyH.nil))
              · obtain ⟨la0, lb0, la1, lb1, la2, lb2, la3, lb3, la4, lb4, la5, lb5⟩ := R31e.out.all6
                go_simp
                clear la0 lb0 la1 lb1 la2 lb2 la3 lb3 la4 lb4 la5 lb5
                clear hHeld
                refine hK.out _ _ ?_ (fun hHeld => ?_)
                case refine_1 => exact Blk.cell R31v.out.p 0
                clear hK K
                try simp only [setIfInBounds_toArray, set_cons_zero, set_cons_succ]
                refine wpAnyH_ready (rs := [3]) (by kernel_rfl) (by simp) ?_
                refine (AllReadyH.cons rfl (fun K hK => ?_) AllReadyH.nil)
                go_simp
                (with_reducible refine (KN.out wd31 R31v.out).mono ?_)
                rintro e w33 ⟨rfl, HGr⟩
                clear hHeld
                go_wp2_with fail
                rw [HE.out]
                exact ⟨rfl, exr_bad (Lib.hid (grown_tr R31g.out HGr.out))⟩
              · go_simp
                (with_reducible refine (KN.out wd31 R31v.out).mono ?_)
                rintro e w32 ⟨rfl, HGr⟩
                clear hHeld
                go_wp2_with fail
                rw [HE.out]
                exact ⟨rfl, exr_bad (Lib.hid (grown_tr R31g.out HGr.out))⟩
            | ok T1 k2 =>
              have hk2 := (HNk.out T1 k2 rfl)
              have HEr := Lib.hid (show ch f (.mk ⟨op, 0, 0, ⟨#[]⟩, 0⟩ [T0, T1]) k2 = RR from HE1.out.symm)
              have HFr := Lib.hid (show k2 ≤ ts.length ∧ 8 * (ts.length - k2) + 2 ≤ f ∧ f ≤ f0 from ⟨hk2.2, by omega, by omega⟩)
              clear HE1
              have HR31 := Lib.hid (below_dr w6)
              have R31r := Lib.hid (F6.out.belowW HR31.out)
              have R31e := Lib.hid (E6.out.belowW HR31.out)
              have R31v := Lib.hid (HV6.out.belowW HR31.out)
              have R31g := Lib.hid (grown_tr HG6.out (grown_of (some g) HR31.out))
              have R31x := Lib.hid (HX6.out.belowW HR31.out)
              have R31b := Lib.hid (map_below M6.out HR31.out)
              refine wp_region_held_drew (S := fun w' => w'.cell? ⟨g, 0, none⟩ = some (.slice A len cap)) (by kernel_rfl) ?_ (fun hHeld => ?_)
              case refine_1 => exact Blk.cell R31v.out.p 0
              obtain ⟨wd31, hwd⟩ : ∃ z9 : World, z9 = w6.drew := ⟨_, rfl⟩
              rw [← hwd] at HR31 R31r R31e R31v R31g R31x R31b hHeld ⊢
              clear hwd
              refine tkY 0 rfl (v := ?_) (.inl ⟨by rfl, ?_⟩) ?_
              case refine_2 => intro w9 hSw; (try dsimp only at hSw); go_simp; (try with_reducible rfl)
              try simp only [Act.put, setIfInBounds_toArray, set_cons_zero, set_cons_succ, getElem_toArray, getElem_cons_zero]
              refine tkY 2 rfl (v := ?_) (.inl ⟨by rfl, ?_⟩) ?_
              case refine_2 => intro w9 hSw; (try dsimp only at hSw); go_simp; (try with_reducible rfl)
              try simp only [Act.put, setIfInBounds_toArray, set_cons_zero, set_cons_succ, getElem_toArray, getElem_cons_zero, getElem_cons_succ]
              refine wpAnyH_ready (rs := [1, 3]) (by kernel_rfl) (by simp) ?_
              refine (AllReadyH.cons rfl (fun K hK => ?_) (AllReadyH.cons rfl (fun K hK => ?_) AllReadyH.nil))
              · obtain ⟨la0, lb0, la1, lb1, la2, lb2, la3, lb3, la4, lb4, la5, lb5⟩ := R31e.out.all6
                go_simp
                clear la0 lb0 la1 lb1 la2 lb2 la3 lb3 la4 lb4 la5 lb5
                clear hHeld
                refine hK.out _ _ ?_ (fun hHeld => ?_)
                case refine_1 => exact Blk.cell R31v.out.p 0
                clear hK K
                try simp only [setIfInBounds_toArray, set_cons_zero, set_cons_succ]
                refine wpAnyH_ready (rs := [3]) (by kernel_rfl) (by simp) ?_
                refine (AllReadyH.cons rfl (fun K hK => ?_) AllReadyH.nil)
                go_simp
                (with_reducible refine (KN.out wd31 R31v.out).mono ?_)
                rintro e w33 ⟨y, rfl, HXr, HGr, HVr⟩
                have R33r := Lib.hid (R31r.out.grown HGr.out HNE.out)
                have R33e := Lib.hid (R31e.out.grown HGr.out HNEE.out)
                have R33v := Lib.hid (HVr.out)
                have R33g := Lib.hid (grown_tr R31g.out HGr.out)
                have R33x := Lib.hid (R31x.out.mv (fun e => absurd e.1 (Nat.not_le_of_lt hgw1)) HGr.out)
                have R33b := Lib.hid (map_kept R31b.out HGr.out hbg)
                go_wp2_with fail
                clear hHeld
                refine hK.out _ _ ?_ (fun hHeld => ?_)
                case refine_1 => exact Blk.cell R33v.out.p 0
                clear hK K
                try simp only [setIfInBounds_toArray, set_cons_zero, set_cons_succ]
                refine wpAnyH_ready (rs := [4]) (by kernel_rfl) (by simp) ?_
                refine (AllReadyH.cons rfl (fun K hK => ?_) AllReadyH.nil)
                go_simp
                obtain ⟨w34, hw⟩ : ∃ z9 : World, z9 = w33.alloc (Obj.cells #[.int .i64 v.h.kind, .int .i64 v.h.n, .int .i64 v.h.d, .string v.h.name, .int .i64 v.h.k, .slice v.A v.len v.cap, .int .i64 y.h.kind, .int .i64 y.h.n, .int .i64 y.h.d, .string y.h.name, .int .i64 y.h.k, .slice y.A y.len y.cap] 29) := ⟨_, rfl⟩
                have HC34 := Lib.hid (show Below w33.heap.size w33 w34 by rw [hw]; exact below_box _ _)
                have R34r := Lib.hid (R33r.out.belowW HC34.out)
                have R34e := Lib.hid (R33e.out.belowW HC34.out)
                have R34v := Lib.hid (R33v.out.belowW HC34.out)
                have R34g := Lib.hid (grown_tr R33g.out (grown_of (some g) HC34.out))
                have R34x := Lib.hid (R33x.out.belowW HC34.out)
                have R34b := Lib.hid (map_below R33b.out HC34.out)
                have R34n := Lib.hid (show InA (fun b => w1.heap.size ≤ b ∧ b ≠ be) w34 (.mk ⟨op, 0, 0, ⟨#[]⟩, 0⟩ [T0, T1]) ⟨⟨op, 0, 0, ⟨#[]⟩, 0⟩, some ⟨w33.heap.size, 0, none⟩, 2, 2⟩ by rw [hw]; exact ina_new2 w33 ⟨op, 0, 0, ⟨#[]⟩, 0⟩ HOP.out T0 T1 v y _ ⟨Nat.le_trans hw1e (Nat.le_of_lt R33e.out.lt), Nat.ne_of_gt R33e.out.lt⟩ R33x.out (InA.weaken HXr.out (fun b hb => ⟨Nat.le_trans hw1e (Nat.le_trans (Nat.le_of_lt R31e.out.lt) hb), Nat.ne_of_gt (Nat.lt_of_lt_of_le R31e.out.lt hb)⟩)))
                rw [← hw]
                clear hw
                clear hHeld
                refine hK.out _ _ ?_ (fun hHeld => ?_)
                case refine_1 => exact Blk.cell R34v.out.p 0
                clear hK K
                try simp only [setIfInBounds_toArray, set_cons_zero, set_cons_succ]
                refine tkY 5 rfl (v := ?_) (.inl ⟨by rfl, ?_⟩) ?_
                case refine_2 => intro w9 hSw; (try dsimp only at hSw); go_simp; (try with_reducible rfl)
                try simp only [Act.put, setIfInBounds_toArray, set_cons_zero, set_cons_succ, getElem_toArray, getElem_cons_zero, getElem_cons_succ]
                refine wpAnyH_ready (rs := [6]) (by kernel_rfl) (by simp) ?_
                refine (AllReadyH.cons rfl (fun K hK => ?_) AllReadyH.nil)
                obtain ⟨ps0, fs0, ps1, fs1, ps2, fs2, ps3, fs3, ps4, fs4, ps5, fs5⟩ := R34e.out.all6
                go_simp
                rw [pst6 R34e.out]
                clear ps0 fs0 ps1 fs1 ps2 fs2 ps3 fs3 ps4 fs4 ps5 fs5
                have R35r := Lib.hid (R34r.out.far (t' := 29) hrbe #[.int .i64 op, .int .i64 0, .int .i64 0, .string ⟨#[]⟩, .int .i64 0, .slice (some ⟨w33.heap.size, 0, none⟩) 2 2])
                have R35v := Lib.hid (R34v.out.far hbeg hbel 29 #[.int .i64 op, .int .i64 0, .int .i64 0, .string ⟨#[]⟩, .int .i64 0, .slice (some ⟨w33.heap.size, 0, none⟩) 2 2])
                have R35g := Lib.hid (grown_new R34g.out hbew 29 #[.int .i64 op, .int .i64 0, .int .i64 0, .string ⟨#[]⟩, .int .i64 0, .slice (some ⟨w33.heap.size, 0, none⟩) 2 2])
                have R35b := Lib.hid (map_put R34b.out hbmbe 29 #[.int .i64 op, .int .i64 0, .int .i64 0, .string ⟨#[]⟩, .int .i64 0, .slice (some ⟨w33.heap.size, 0, none⟩) 2 2])
                have R35n := Lib.hid (R34n.out.far (fun e => e.2 rfl) 29 #[.int .i64 op, .int .i64 0, .int .i64 0, .string ⟨#[]⟩, .int .i64 0, .slice (some ⟨w33.heap.size, 0, none⟩) 2 2])
                have R35zz := Lib.hid (R34e.out.put #[.int .i64 op, .int .i64 0, .int .i64 0, .string ⟨#[]⟩, .int .i64 0, .slice (some ⟨w33.heap.size, 0, none⟩) 2 2])
                obtain ⟨w35, hw9⟩ : ∃ z9 : World, z9 = putB w34 (be) 29 #[.int .i64 op, .int .i64 0, .int .i64 0, .string ⟨#[]⟩, .int .i64 0, .slice (some ⟨w33.heap.size, 0, none⟩) 2 2] := ⟨_, rfl⟩
                rw [← hw9] at R35r R35v R35g R35b R35n R35zz ⊢
                clear hw9 hHeld
                refine hK.out _ _ ?_ (fun hHeld => ?_)
                case refine_1 => exact Blk.cell R35v.out.p 0
                clear hK K
                try simp only [setIfInBounds_toArray, set_cons_zero, set_cons_succ]
                refine wpAnyH_done (by kernel_rfl) ?_ _
                go_wp2_with fail
                go_roundg f
                case measure => exact Nat.lt_succ_self f
                case rel => exact ⟨_, ⟨⟨op, 0, 0, ⟨#[]⟩, 0⟩, some ⟨w33.heap.size, 0, none⟩, 2, 2⟩, k2, HEr, HFr, R35n, R35zz, R35r, R35v, R35g, R35b⟩
              · go_simp
                (with_reducible refine (KN.out wd31 R31v.out).mono ?_)
                rintro e w32 ⟨y, rfl, HXr, HGr, HVr⟩
                have R32r := Lib.hid (R31r.out.grown HGr.out HNE.out)
                have R32e := Lib.hid (R31e.out.grown HGr.out HNEE.out)
                have R32v := Lib.hid (HVr.out)
                have R32g := Lib.hid (grown_tr R31g.out HGr.out)
                have R32x := Lib.hid (R31x.out.mv (fun e => absurd e.1 (Nat.not_le_of_lt hgw1)) HGr.out)
                have R32b := Lib.hid (map_kept R31b.out HGr.out hbg)
                go_wp2_with fail
                clear hHeld
                refine hK.out _ _ ?_ (fun hHeld => ?_)
                case refine_1 => exact Blk.cell R32v.out.p 0
                clear hK K
                try simp only [setIfInBounds_toArray, set_cons_zero, set_cons_succ]
                refine wpAnyH_ready (rs := [1]) (by kernel_rfl) (by simp) ?_
                refine (AllReadyH.cons rfl (fun K hK => ?_) AllReadyH.nil)
                obtain ⟨la0, lb0, la1, lb1, la2, lb2, la3, lb3, la4, lb4, la5, lb5⟩ := R32e.out.all6
                go_simp
                clear la0 lb0 la1 lb1 la2 lb2 la3 lb3 la4 lb4 la5 lb5
                clear hHeld
                refine hK.out _ _ ?_ (fun hHeld => ?_)
                case refine_1 => exact Blk.cell R32v.out.p 0
                clear hK K
                try simp only [setIfInBounds_toArray, set_cons_zero, set_cons_succ]
                refine wpAnyH_ready (rs := [4]) (by kernel_rfl) (by simp) ?_
                refine (AllReadyH.cons rfl (fun K hK => ?_) AllReadyH.nil)
                go_simp
                obtain ⟨w34, hw⟩ : ∃ z9 : World, z9 = w32.alloc (Obj.cells #[.int .i64 v.h.kind, .int .i64 v.h.n, .int .i64 v.h.d, .string v.h.name, .int .i64 v.h.k, .slice v.A v.len v.cap, .int .i64 y.h.kind, .int .i64 y.h.n, .int .i64 y.h.d, .string y.h.name, .int .i64 y.h.k, .slice y.A y.len y.cap] 29) := ⟨_, rfl⟩
                have HC34 := Lib.hid (show Below w32.heap.size w32 w34 by rw [hw]; exact below_box _ _)
                have R34r := Lib.hid (R32r.out.belowW HC34.out)
                have R34e := Lib.hid (R32e.out.belowW HC34.out)
                have R34v := Lib.hid (R32v.out.belowW HC34.out)
                have R34g := Lib.hid (grown_tr R32g.out (grown_of (some g) HC34.out))
                have R34x := Lib.hid (R32x.out.belowW HC34.out)
                have R34b := Lib.hid (map_below R32b.out HC34.out)
                have R34n := Lib.hid (show InA (fun b => w1.heap.size ≤ b ∧ b ≠ be) w34 (.mk ⟨op, 0, 0, ⟨#[]⟩, 0⟩ [T0, T1]) ⟨⟨op, 0, 0, ⟨#[]⟩, 0⟩, some ⟨w32.heap.size, 0, none⟩, 2, 2⟩ by rw [hw]; exact ina_new2 w32 ⟨op, 0, 0, ⟨#[]⟩, 0⟩ HOP.out T0 T1 v y _ ⟨Nat.le_trans hw1e (Nat.le_of_lt R32e.out.lt), Nat.ne_of_gt R32e.out.lt⟩ R32x.out (InA.weaken HXr.out (fun b hb => ⟨Nat.le_trans hw1e (Nat.le_trans (Nat.le_of_lt R31e.out.lt) hb), Nat.ne_of_gt (Nat.lt_of_lt_of_le R31e.out.lt hb)⟩)))
                rw [← hw]
                clear hw
                clear hHeld
                refine hK.out _ _ ?_ (fun hHeld => ?_)
                case refine_1 => exact Blk.cell R34v.out.p 0
                clear hK K
                try simp only [setIfInBounds_toArray, set_cons_zero, set_cons_succ]
                refine tkY 5 rfl (v := ?_) (.inl ⟨by rfl, ?_⟩) ?_
                case refine_2 => intro w9 hSw; (try dsimp only at hSw); go_simp; (try with_reducible rfl)
                try simp only [Act.put, setIfInBounds_toArray, set_cons_zero, set_cons_succ, getElem_toArray, getElem_cons_zero, getElem_cons_succ]
                refine wpAnyH_ready (rs := [6]) (by kernel_rfl) (by simp) ?_
                refine (AllReadyH.cons rfl (fun K hK => ?_) AllReadyH.nil)
                obtain ⟨ps0, fs0, ps1, fs1, ps2, fs2, ps3, fs3, ps4, fs4, ps5, fs5⟩ := R34e.out.all6
                go_simp
                rw [pst6 R34e.out]
                clear ps0 fs0 ps1 fs1 ps2 fs2 ps3 fs3 ps4 fs4 ps5 fs5
                have R35r := Lib.hid (R34r.out.far (t' := 29) hrbe #[.int .i64 op, .int .i64 0, .int .i64 0, .string ⟨#[]⟩, .int .i64 0, .slice (some ⟨w32.heap.size, 0, none⟩) 2 2])
                have R35v := Lib.hid (R34v.out.far hbeg hbel 29 #[.int .i64 op, .int .i64 0, .int .i64 0, .string ⟨#[]⟩, .int .i64 0, .slice (some ⟨w32.heap.size, 0, none⟩) 2 2])
                have R35g := Lib.hid (grown_new R34g.out hbew 29 #[.int .i64 op, .int .i64 0, .int .i64 0, .string ⟨#[]⟩, .int .i64 0, .slice (some ⟨w32.heap.size, 0, none⟩) 2 2])
                have R35b := Lib.hid (map_put R34b.out hbmbe 29 #[.int .i64 op, .int .i64 0, .int .i64 0, .string ⟨#[]⟩, .int .i64 0, .slice (some ⟨w32.heap.size, 0, none⟩) 2 2])
                have R35n := Lib.hid (R34n.out.far (fun e => e.2 rfl) 29 #[.int .i64 op, .int .i64 0, .int .i64 0, .string ⟨#[]⟩, .int .i64 0, .slice (some ⟨w32.heap.size, 0, none⟩) 2 2])
                have R35zz := Lib.hid (R34e.out.put #[.int .i64 op, .int .i64 0, .int .i64 0, .string ⟨#[]⟩, .int .i64 0, .slice (some ⟨w32.heap.size, 0, none⟩) 2 2])
                obtain ⟨w35, hw9⟩ : ∃ z9 : World, z9 = putB w34 (be) 29 #[.int .i64 op, .int .i64 0, .int .i64 0, .string ⟨#[]⟩, .int .i64 0, .slice (some ⟨w32.heap.size, 0, none⟩) 2 2] := ⟨_, rfl⟩
                rw [← hw9] at R35r R35v R35g R35b R35n R35zz ⊢
                clear hw9 hHeld
                refine hK.out _ _ ?_ (fun hHeld => ?_)
                case refine_1 => exact Blk.cell R35v.out.p 0
                clear hK K
                try simp only [setIfInBounds_toArray, set_cons_zero, set_cons_succ]
                refine wpAnyH_done (by kernel_rfl) ?_ _
                go_wp2_with fail
                go_roundg f
                case measure => exact Nat.lt_succ_self f
                case rel => exact ⟨_, ⟨⟨op, 0, 0, ⟨#[]⟩, 0⟩, some ⟨w32.heap.size, 0, none⟩, 2, 2⟩, k2, HEr, HFr, R35n, R35zz, R35r, R35v, R35g, R35b⟩

set_option maxHeartbeats 4000000 in
set_option maxRecDepth 100000 in
theorem pChainT {w0 w : World} {g : Nat} {A : Option Addr} {len cap : Nat} {ts : List Tok} {k m : Nat} (h : Env w0 g A len cap ts k m w) (hk : k ≤ 100001) (bm : Nat) (es : Array MapEntry) (opk : List UInt8 → Int) (hop : ∀ l, 0 ≤ opk l ∧ opk l ≤ 13)
    (LK : ∀ (w' : World) (l : List UInt8), w'.heap[bm]? = some (.map es 2) → (Instr.lookup 142 (.map (some bm)) (.string ⟨l.toArray⟩) true).run Tryz.prog w' = .ok (.tuple #[.int .i64 (opk l), .bool (opk l != 0)]) w')
    (hbm : w.heap[bm]? = some (.map es 2)) (hbg : bm ≠ g)
    (ch : Nat → TE → Nat → PR TE) (nx : Nat → Nat → PR TE) (hch : ∀ f e k, ch (f + 1) e k = stepR ts opk (ch f) e k (nx f (k + 1)))
    (hnk : ∀ f k b k2, nx f k = .ok b k2 → k < k2 ∧ k2 ≤ ts.length) (hno : ∀ f k, 8 * (ts.length - k) + 7 ≤ f → nx f k ≠ .out)
    (f0 : Nat) (r : PR TE) (hr : r ≠ .out) (hrk : ∀ T k1, r = .ok T k1 → k1 ≤ ts.length ∧ 8 * (ts.length - k1) + 2 ≤ f0)
    (K1 : ∀ w', Env w0 g A len cap ts k m w' → Calls Tryz.prog 125 #[.pointer (some ⟨g, 0, none⟩)] w' (ExR w0 g A len cap ts m r w'))
    (K2 : ∀ f k', f < f0 → 8 * (ts.length - k') + 7 ≤ f → k' ≤ 100001 → ∀ w', Env w0 g A len cap ts k' m w' → Calls Tryz.prog 126 #[.pointer (some ⟨g, 0, none⟩)] w' (ExR w0 g A len cap ts m (nx f k') w')) :
    Calls Tryz.prog 92 #[.pointer (some ⟨g, 0, none⟩), .func (.func 125) #[.pointer (some ⟨g, 0, none⟩)] #[], .func (.func 126) #[.pointer (some ⟨g, 0, none⟩)] #[], .map (some bm)] w (ExR w0 g A len cap ts m (chainR (ch f0) r) w) := by
  have HK2 := Lib.hid K2
  have HLK := Lib.hid LK
  have HCH := Lib.hid hch
  have HNK := Lib.hid hnk
  have HNO := Lib.hid hno
  have HTL := Lib.hid (show ts.length ≤ 100000 by rw [h.t.hl]; exact h.t.hs)
  obtain ⟨RR, hRR⟩ : ∃ RR, RR = chainR (ch f0) r := ⟨_, rfl⟩
  have HRR := Lib.hid hRR
  rw [← hRR]
  have HK1 := Lib.hid K1
  clear K1 K2 LK hch hnk hno hRR
  have hbmw : bm < w.heap.size := (Array.getElem?_eq_some_iff.1 hbm).1
  go_enter Tryz.func92, Tryz.ntmps92
  go_upto_region 1 with (fail)
  obtain ⟨w1, hw1⟩ : ∃ z9 : World, z9 = w.alloc (Obj.cells #[.int .i64 0, .int .i64 0, .int .i64 0, .string ⟨#[]⟩, .int .i64 0, .slice none 0 0] 29) := ⟨_, rfl⟩
  have O1 := Lib.hid (show Below w.heap.size w w1 by rw [hw1]; exact below_box _ _)
  have F1 := Lib.hid (show Blk w1 w.heap.size 29 #[.int .i64 0, .int .i64 0, .int .i64 0, .string ⟨#[]⟩, .int .i64 0, .slice none 0 0] by rw [hw1]; exact Blk.new _ _ _)
  rw [← hw1]
  clear hw1
  have HNE := Lib.hid (show some w.heap.size ≠ some g from fun e => by have := h.gl; injection e with e; omega)
  have hwr : w.heap.size ≠ g := fun e => HNE.out (by rw [e])
  have hlr : w0.heap.size ≤ w.heap.size := h.b.size
  have hgl : g < w.heap.size := h.gl
  have HV1 := Lib.hid (h.belowW O1.out)
  have HG1 := Lib.hid (grown_of (some g) O1.out)
  have hr1 : w.heap.size < w1.heap.size := F1.out.lt
  clear h
  have HGL := Lib.hid hgl
  have hgw1 : g < w1.heap.size := HV1.out.gl
  have M1 := Lib.hid (map_below hbm O1.out)
  clear hbm
  have KC := Lib.hid (HK1.out w1 HV1.out)
  cases r with
  | out => exact (hr rfl).elim
  | bad ln co er =>
    have HE := Lib.hid (show RR = .bad ln co er from HRR.out)
    clear HRR
    go_wp2_with fail
    refine KC.out.mono ?_
    rintro e w2 ⟨rfl, HG2⟩
    go_wp2_with fail
    rw [HE.out]
    exact ⟨rfl, exr_bad (Lib.hid (grown_tr HG1.out HG2.out))⟩
  | ok T k1 =>
    have HE := Lib.hid (show ch f0 T k1 = RR from HRR.out.symm)
    have HFU := Lib.hid (show k1 ≤ ts.length ∧ 8 * (ts.length - k1) + 2 ≤ f0 ∧ f0 ≤ f0 from ⟨(hrk T k1 rfl).1, (hrk T k1 rfl).2, Nat.le_refl _⟩)
    clear HRR hrk
    go_wp2_with fail
    refine KC.out.mono ?_
    rintro e w2 ⟨v, rfl, HX2, HG2, HV2⟩
    have F2r := Lib.hid (F1.out.grown HG2.out HNE.out)
    have M2 := Lib.hid (map_kept M1.out HG2.out hbg)
    have HGR := HG2
    have HG2 := Lib.hid (grown_tr HG1.out HG2.out)
    go_upto_region 2 with (fail)
    obtain ⟨w3, hw3⟩ : ∃ z9 : World, z9 = w2.alloc (Obj.cells #[.int .i64 v.h.kind, .int .i64 v.h.n, .int .i64 v.h.d, .string v.h.name, .int .i64 v.h.k, .slice v.A v.len v.cap] 29) := ⟨_, rfl⟩
    have HB3 := Lib.hid (show Below w2.heap.size w2 w3 by rw [hw3]; exact below_box _ _)
    have E3 := Lib.hid (show Blk w3 w2.heap.size 29 #[.int .i64 v.h.kind, .int .i64 v.h.n, .int .i64 v.h.d, .string v.h.name, .int .i64 v.h.k, .slice v.A v.len v.cap] by rw [hw3]; exact Blk.new _ _ _)
    rw [← hw3]
    clear hw3
    have HV3 := Lib.hid (HV2.out.belowW HB3.out)
    have F3 := Lib.hid (F2r.out.belowW HB3.out)
    have HX3 := Lib.hid (InA.belowW (InA.weaken (InA.lt HX2.out) (Q := fun b => w1.heap.size ≤ b ∧ b ≠ w2.heap.size) (fun b hb => ⟨hb.1, Nat.ne_of_lt hb.2⟩)) HB3.out)
    have HG3 := Lib.hid (grown_tr HG2.out (grown_of (some g) HB3.out))
    have M3 := Lib.hid (map_below M2.out HB3.out)
    have hbeW : w.heap.size < w2.heap.size := F2r.out.lt
    have hw1e : w1.heap.size ≤ w2.heap.size := HGR.out.size
    have hgbe2 : g < w2.heap.size := HV2.out.gl
    obtain ⟨be, hbe⟩ : ∃ z, z = w2.heap.size := ⟨_, rfl⟩
    rw [← hbe] at hw1e E3 hbeW hgbe2 HX3 ⊢
    clear hbe
    have hbeg : be ≠ g := by omega
    have hbel : w0.heap.size ≤ be := by omega
    have hbew : w.heap.size ≤ be := by omega
    have hrbe : w.heap.size ≠ be := by omega
    have hbmbe : bm ≠ be := by omega
    have HNEE := Lib.hid (show some be ≠ some g from fun e => hbeg (Option.some.inj e))
    have hr1' := hr1
    clear hr1
    have hr1 := hr1'
    clear hr1'
    go_loopg [10, 11] f0 (fun f d1 d2 wr => ChRel w0 w g A len cap ts m ch RR w1.heap.size be bm es f0 f wr)
    case atStart => exact ⟨T, v, k1, HE, HFU, HX3, E3, F3, HV3, HG3, M3⟩
    case round =>
      clear HE HFU HX3 E3 F3 HV3 HG3 M3 HB3 HX2 HG2 HV2 F2r M2 KC HK1 HG1 HV1 F1 O1 M1 HGR
      obtain ⟨T0, v, kk, HE0, HFU, HX1, E1, F1, HV1, HG1, HM1⟩ := hrel
      obtain ⟨hkl, hfu, hfu0⟩ := HFU.out
      have hkl0 := HTL.out
      cases gk with
      | zero => omega
      | succ f =>
        have HE1 := Lib.hid (show RR = stepR ts opk (ch f) T0 kk (nx f (kk + 1)) from HE0.out.symm.trans (HCH.out f T0 kk))
        have KT := Lib.hid (fun (w' : World) (hb : Below wr.heap.size wr w') => Env.tok (show Env w0 g A len cap ts kk m w' from HV1.out.belowW hb) 0 (by omega))
        simp only [Nat.add_zero] at KT
        have hlt0 := @tk_lt ts kk
        have htok := HV1.out.t.tk kk
        unfold stepR at HE1
        obtain ⟨T9, hTT⟩ : ∃ t, t = tk ts kk := ⟨_, rfl⟩
        rw [← hTT] at KT HE1 hlt0 htok
        have hop9 := hop T9.text
        have HL9 := Lib.hid (fun (w' : World) (hh : w'.heap[bm]? = some (.map es 2)) => HLK.out w' T9.text hh)
        obtain ⟨op, hopp⟩ : ∃ z, z = opk T9.text := ⟨_, rfl⟩
        rw [← hopp] at HL9 HE1 hop9
        have HOP := Lib.hid (hd_op hop9)
        obtain ⟨b, hb⟩ : ∃ b, (op != 0) = b := ⟨_, rfl⟩
        have HRB := Lib.hid (show (op ≠ 0) ↔ b = true by rw [← hb, bne_iff_ne])
        rw [hb] at HL9
        obtain ⟨c, hc⟩ : ∃ b, ((T9.kind : Int) != 3) = b := ⟨_, rfl⟩
        have HRC := Lib.hid (show (T9.kind ≠ 3) ↔ c = true by rw [← hc, bne_iff_ne]; omega)
        clear hTT hopp hb
        have hF0 := tokF0 T9
        have hF1 := tokF1 T9
        go_wp2_with fail
        refine (KT.out wr (Below.refl _ _)).mono ?_
        rintro e w4 ⟨rfl, HB4⟩
        have M4 := Lib.hid (map_below HM1.out HB4.out)
        have hl4 := HL9.out w4 M4.out
        have HV4 := Lib.hid (show Env w0 g A len cap ts kk m w4 from HV1.out.belowW HB4.out)
        have E4 := Lib.hid (E1.out.belowW HB4.out)
        have F4 := Lib.hid (F1.out.belowW HB4.out)
        have HX4 := Lib.hid (HX1.out.belowW HB4.out)
        have HG4 := Lib.hid (grown_tr HG1.out (grown_of (some g) HB4.out))
        cases b with
        | false =>
          have HE := Lib.hid (show RR = .ok T0 kk by rw [HE1.out, if_neg (fun e => by have := HRB.out.1 e.2; cases this)])
          clear HE1
          obtain ⟨a0, b0, a1, b1, a2, b2, a3, b3, a4, b4, a5, b5⟩ := E4.out.all6
          obtain ⟨r0, h0, r1, h1, r2, h2, r3, h3, r4, h4, r5, h5⟩ := F4.out.all6
          go_wp2_with fail
          rw [pst6 F4.out]
          have FZ := Lib.hid (F4.out.put #[.int .i64 v.h.kind, .int .i64 v.h.n, .int .i64 v.h.d, .string v.h.name, .int .i64 v.h.k, .slice v.A v.len v.cap])
          obtain ⟨z0, _, z1, _, z2, _, z3, _, z4, _, z5, _⟩ := FZ.out.all6
          refine bodyPost_ret (v := .agg #[.int .i64 v.h.kind, .int .i64 v.h.n, .int .i64 v.h.d, .string v.h.name, .int .i64 v.h.k, .slice v.A v.len v.cap]) (by simp [results, Tryz.results92, go_sem, z0, z1, z2, z3, z4, z5]) rfl ?_
          rw [HE.out]
          exact ⟨v, rfl, Lib.hid (InA.weaken (InA.far HX4.out (fun e => absurd e.1 (Nat.not_le_of_lt hr1)) _ _) (fun b hb => Nat.le_trans (Nat.le_of_lt hr1) hb.1)), Lib.hid (grown_new HG4.out (Nat.le_refl _) _ _), Lib.hid (HV4.out.far hwr hlr _ _)⟩
        | true =>
          cases c with
          | true =>
            have HE := Lib.hid (show RR = .ok T0 kk by rw [HE1.out, if_neg (fun e => HRC.out.2 (by first | rfl | trivial) e.1)])
            clear HE1
            go_wp2_with fail
            refine (KT.out w4 HB4.out).mono ?_
            rintro e w5 ⟨rfl, HB5⟩
            have HV4 := Lib.hid (HV4.out.belowW HB5.out)
            have E4 := Lib.hid (E4.out.belowW HB5.out)
            have F4 := Lib.hid (F4.out.belowW HB5.out)
            have HX4 := Lib.hid (HX4.out.belowW HB5.out)
            have HG4 := Lib.hid (grown_tr HG4.out (grown_of (some g) HB5.out))
            obtain ⟨a0, b0, a1, b1, a2, b2, a3, b3, a4, b4, a5, b5⟩ := E4.out.all6
            obtain ⟨r0, h0, r1, h1, r2, h2, r3, h3, r4, h4, r5, h5⟩ := F4.out.all6
            go_wp2_with fail
            rw [pst6 F4.out]
            have FZ := Lib.hid (F4.out.put #[.int .i64 v.h.kind, .int .i64 v.h.n, .int .i64 v.h.d, .string v.h.name, .int .i64 v.h.k, .slice v.A v.len v.cap])
            obtain ⟨z0, _, z1, _, z2, _, z3, _, z4, _, z5, _⟩ := FZ.out.all6
            refine bodyPost_ret (v := .agg #[.int .i64 v.h.kind, .int .i64 v.h.n, .int .i64 v.h.d, .string v.h.name, .int .i64 v.h.k, .slice v.A v.len v.cap]) (by simp [results, Tryz.results92, go_sem, z0, z1, z2, z3, z4, z5]) rfl ?_
            rw [HE.out]
            exact ⟨v, rfl, Lib.hid (InA.weaken (InA.far HX4.out (fun e => absurd e.1 (Nat.not_le_of_lt hr1)) _ _) (fun b hb => Nat.le_trans (Nat.le_of_lt hr1) hb.1)), Lib.hid (grown_new HG4.out (Nat.le_refl _) _ _), Lib.hid (HV4.out.far hwr hlr _ _)⟩
          | false =>
            have hk3 : T9.kind = 3 := by
              apply Decidable.byContradiction
              intro h
              have := HRC.out.1 h
              cases this
            have hkl := hlt0 (by omega)
            have HE1 := Lib.hid (HE1.out.trans (if_pos ⟨hk3, HRB.out.2 (by first | rfl | trivial)⟩))
            have KN := Lib.hid (HK2.out f (kk + 1) (by omega) (by omega) (by omega))
            have hrn := HNO.out f (kk + 1) (by omega)
            have HNk := Lib.hid (HNK.out f (kk + 1))
            obtain ⟨r2, hr2⟩ : ∃ z, z = nx f (kk + 1) := ⟨_, rfl⟩
            rw [← hr2] at HE1 KN hrn HNk
            clear hr2 hk3 hlt0
            go_wp2_with fail
            refine (KT.out w4 HB4.out).mono ?_
            rintro e w5 ⟨rfl, HB5⟩
            have HV5 := Lib.hid (HV4.out.belowW HB5.out)
            have E5 := Lib.hid (E4.out.belowW HB5.out)
            have F5 := Lib.hid (F4.out.belowW HB5.out)
            have HX5 := Lib.hid (HX4.out.belowW HB5.out)
            have HM5 := Lib.hid (map_below M4.out HB5.out)
            have HG5 := Lib.hid (grown_tr HG4.out (grown_of (some g) HB5.out))
            have HP := Lib.hid (show Blk w5 g 140 #[.slice A len cap, .int .i64 (kk : Nat), .int .i64 (m : Nat)] from HV5.out.p)
            have e1 : IntKind.i64.wrap ((kk : Int) + 1) = (kk : Int) + 1 := by rw [IntKind.wrap_i64]; omega
            obtain ⟨p0, f0', p1, f1, p2, f2⟩ := HP.out.all3
            go_upto_region 6 with (fail)
            rw [HP.out.setCell_eq]
            have HM6 := Lib.hid (putB_grown w5 g 140 #[.slice A len cap, .int .i64 ((kk + 1 : Nat) : Int), .int .i64 (m : Nat)])
            have HV6 := Lib.hid (HV5.out.put (kk + 1) m (by omega))
            have E6 := Lib.hid (E5.out.far (t' := 140) hbeg #[.slice A len cap, .int .i64 ((kk + 1 : Nat) : Int), .int .i64 (m : Nat)])
            have F6 := Lib.hid (F5.out.far (t' := 140) hwr #[.slice A len cap, .int .i64 ((kk + 1 : Nat) : Int), .int .i64 (m : Nat)])
            have HX6 := Lib.hid (HX5.out.mv (fun e => absurd e.1 (Nat.not_le_of_lt hgw1)) HM6.out)
            have HG6 := Lib.hid (grown_tr HG5.out HM6.out)
            have M6 := Lib.hid (map_kept HM5.out HM6.out hbg)
            obtain ⟨w6, hw6⟩ : ∃ z9 : World, z9 = putB w5 g 140 #[.slice A len cap, .int .i64 ((kk + 1 : Nat) : Int), .int .i64 (m : Nat)] := ⟨_, rfl⟩
            have hw6' : putB w5 g 140 ((#[.slice A len cap, .int .i64 (kk : Nat), .int .i64 (m : Nat)] : Array Value).setIfInBounds 1 (.int .i64 ((kk : Int) + 1))) = w6 := by rw [hw6]; rfl
            rw [← hw6] at HV6 E6 F6 HX6 HG6 M6
            rw [hw6']
            clear hw6 hw6' p0 f0' p1 f1 p2 f2 HP HM6 hl4
            cases r2 with
            | out => exact (hrn rfl).elim
            | bad ln co er =>
              have HE := Lib.hid (show RR = .bad ln co er from HE1.out)
              clear HE1
              have HR31 := Lib.hid (below_dr w6)
              have R31r := Lib.hid (F6.out.belowW HR31.out)
              have R31e := Lib.hid (E6.out.belowW HR31.out)
              have R31v := Lib.hid (HV6.out.belowW HR31.out)
              have R31g := Lib.hid (grown_tr HG6.out (grown_of (some g) HR31.out))
              have R31x := Lib.hid (HX6.out.belowW HR31.out)
              have R31b := Lib.hid (map_below M6.out HR31.out)
              refine wp_region_held_drew (S := fun w' => w'.cell? ⟨g, 0, none⟩ = some (.slice A len cap)) (by kernel_rfl) ?_ (fun hHeld => ?_)
              case refine_1 => exact Blk.cell R31v.out.p 0
              obtain ⟨wd31, hwd⟩ : ∃ z9 : World, z9 = w6.drew := ⟨_, rfl⟩
              rw [← hwd] at HR31 R31r R31e R31v R31g R31x R31b hHeld ⊢
              clear hwd
              refine tkY 0 rfl (v := ?_) (.inl ⟨by rfl, ?_⟩) ?_
              case refine_2 => intro w9 hSw; (try dsimp only at hSw); go_simp; (try with_reducible rfl)
              try simp only [Act.put, setIfInBounds_toArray, set_cons_zero, set_cons_succ, getElem_toArray, getElem_cons_zero]
              refine tkY 2 rfl (v := ?_) (.inl ⟨by rfl, ?_⟩) ?_
              case refine_2 => intro w9 hSw; (try dsimp only at hSw); go_simp; (try with_reducible rfl)
              try simp only [Act.put, setIfInBounds_toArray, set_cons_zero, set_cons_succ, getElem_toArray, getElem_cons_zero, getElem_cons_succ]
              refine wpAnyH_ready (rs := [1, 3]) (by kernel_rfl) (by simp) ?_
              refine (AllReadyH.cons rfl (fun K hK => ?_) (AllReadyH.cons rfl (fun K hK => ?_) AllReadyH.nil))
              · obtain ⟨la0, lb0, la1, lb1, la2, lb2, la3, lb3, la4, lb4, la5, lb5⟩ := R31e.out.all6
                go_simp
                clear la0 lb0 la1 lb1 la2 lb2 la3 lb3 la4 lb4 la5 lb5
                clear hHeld
                refine hK.out _ _ ?_ (fun hHeld => ?_)
                case refine_1 => exact Blk.cell R31v.out.p 0
                clear hK K
                try simp only [setIfInBounds_toArray, set_cons_zero, set_cons_succ]
                refine wpAnyH_ready (rs := [3]) (by kernel_rfl) (by simp) ?_
                refine (AllReadyH.cons rfl (fun K hK => ?_) AllReadyH.nil)
                go_simp
                (with_reducible refine (KN.out wd31 R31v.out).mono ?_)
                rintro e w33 ⟨rfl, HGr⟩
                clear hHeld
                go_wp2_with fail
                rw [HE.out]
                exact ⟨rfl, exr_bad (Lib.hid (grown_tr R31g.out HGr.out))⟩
              · go_simp
                (with_reducible refine (KN.out wd31 R31v.out).mono ?_)
                rintro e w32 ⟨rfl, HGr⟩
                clear hHeld
                go_wp2_with fail
                rw [HE.out]
                exact ⟨rfl, exr_bad (Lib.hid (grown_tr R31g.out HGr.out))⟩
            | ok T1 k2 =>
              have hk2 := (HNk.out T1 k2 rfl)
              have HEr := Lib.hid (show ch f (.mk ⟨op, 0, 0, ⟨#[]⟩, 0⟩ [T0, T1]) k2 = RR from HE1.out.symm)
              have HFr := Lib.hid (show k2 ≤ ts.length ∧ 8 * (ts.length - k2) + 2 ≤ f ∧ f ≤ f0 from ⟨hk2.2, by omega, by omega⟩)
              clear HE1
              have HR31 := Lib.hid (below_dr w6)
              have R31r := Lib.hid (F6.out.belowW HR31.out)
              have R31e := Lib.hid (E6.out.belowW HR31.out)
              have R31v := Lib.hid (HV6.out.belowW HR31.out)
              have R31g := Lib.hid (grown_tr HG6.out (grown_of (some g) HR31.out))
              have R31x := Lib.hid (HX6.out.belowW HR31.out)
              have R31b := Lib.hid (map_below M6.out HR31.out)
              refine wp_region_held_drew (S := fun w' => w'.cell? ⟨g, 0, none⟩ = some (.slice A len cap)) (by kernel_rfl) ?_ (fun hHeld => ?_)
              case refine_1 => exact Blk.cell R31v.out.p 0
              obtain ⟨wd31, hwd⟩ : ∃ z9 : World, z9 = w6.drew := ⟨_, rfl⟩
              rw [← hwd] at HR31 R31r R31e R31v R31g R31x R31b hHeld ⊢
              clear hwd
              refine tkY 0 rfl (v := ?_) (.inl ⟨by rfl, ?_⟩) ?_
              case refine_2 => intro w9 hSw; (try dsimp only at hSw); go_simp; (try with_reducible rfl)
              try simp only [Act.put, setIfInBounds_toArray, set_cons_zero, set_cons_succ, getElem_toArray, getElem_cons_zero]
              refine tkY 2 rfl (v := ?_) (.inl ⟨by rfl, ?_⟩) ?_
              case refine_2 => intro w9 hSw; (try dsimp only at hSw); go_simp; (try with_reducible rfl)
              try simp only [Act.put, setIfInBounds_toArray, set_cons_zero, set_cons_succ, getElem_toArray, getElem_cons_zero, getElem_cons_succ]
              refine wpAnyH_ready (rs := [1, 3]) (by kernel_rfl) (by simp) ?_
              refine (AllReadyH.cons rfl (fun K hK => ?_) (AllReadyH.cons rfl (fun K hK => ?_) AllReadyH.nil))
              · obtain ⟨la0, lb0, la1, lb1, la2, lb2, la3, lb3, la4, lb4, la5, lb5⟩ := R31e.out.all6
                go_simp
                clear la0 lb0 la1 lb1 la2 lb2 la3 lb3 la4 lb4 la5 lb5
                clear hHeld
                refine hK.out _ _ ?_ (fun hHeld => ?_)
                case refine_1 => exact Blk.cell R31v.out.p 0
                clear hK K
                try simp only [setIfInBounds_toArray, set_cons_zero, set_cons_succ]
                refine wpAnyH_ready (rs := [3]) (by kernel_rfl) (by simp) ?_
                refine (AllReadyH.cons rfl (fun K hK => ?_) AllReadyH.nil)
                go_simp
                (with_reducible refine (KN.out wd31 R31v.out).mono ?_)
                rintro e w33 ⟨y, rfl, HXr, HGr, HVr⟩
                have R33r := Lib.hid (R31r.out.grown HGr.out HNE.out)
                have R33e := Lib.hid (R31e.out.grown HGr.out HNEE.out)
                have R33v := Lib.hid (HVr.out)
                have R33g := Lib.hid (grown_tr R31g.out HGr.out)
                have R33x := Lib.hid (R31x.out.mv (fun e => absurd e.1 (Nat.not_le_of_lt hgw1)) HGr.out)
                have R33b := Lib.hid (map_kept R31b.out HGr.out hbg)
                go_wp2_with fail
                clear hHeld
                refine hK.out _ _ ?_ (fun hHeld => ?_)
                case refine_1 => exact Blk.cell R33v.out.p 0
                clear hK K
                try simp only [setIfInBounds_toArray, set_cons_zero, set_cons_succ]
                refine wpAnyH_ready (rs := [4]) (by kernel_rfl) (by simp) ?_
                refine (AllReadyH.cons rfl (fun K hK => ?_) AllReadyH.nil)
                go_simp
                obtain ⟨w34, hw⟩ : ∃ z9 : World, z9 = w33.alloc (Obj.cells #[.int .i64 v.h.kind, .int .i64 v.h.n, .int .i64 v.h.d, .string v.h.name, .int .i64 v.h.k, .slice v.A v.len v.cap, .int .i64 y.h.kind, .int .i64 y.h.n, .int .i64 y.h.d, .string y.h.name, .int .i64 y.h.k, .slice y.A y.len y.cap] 29) := ⟨_, rfl⟩
                have HC34 := Lib.hid (show Below w33.heap.size w33 w34 by rw [hw]; exact below_box _ _)
                have R34r := Lib.hid (R33r.out.belowW HC34.out)
                have R34e := Lib.hid (R33e.out.belowW HC34.out)
                have R34v := Lib.hid (R33v.out.belowW HC34.out)
                have R34g := Lib.hid (grown_tr R33g.out (grown_of (some g) HC34.out))
                have R34x := Lib.hid (R33x.out.belowW HC34.out)
                have R34b := Lib.hid (map_below R33b.out HC34.out)
                have R34n := Lib.hid (show InA (fun b => w1.heap.size ≤ b ∧ b ≠ be) w34 (.mk ⟨op, 0, 0, ⟨#[]⟩, 0⟩ [T0, T1]) ⟨⟨op, 0, 0, ⟨#[]⟩, 0⟩, some ⟨w33.heap.size, 0, none⟩, 2, 2⟩ by rw [hw]; exact ina_new2 w33 ⟨op, 0, 0, ⟨#[]⟩, 0⟩ HOP.out T0 T1 v y _ ⟨Nat.le_trans hw1e (Nat.le_of_lt R33e.out.lt), Nat.ne_of_gt R33e.out.lt⟩ R33x.out (InA.weaken HXr.out (fun b hb => ⟨Nat.le_trans hw1e (Nat.le_trans (Nat.le_of_lt R31e.out.lt) hb), Nat.ne_of_gt (Nat.lt_of_lt_of_le R31e.out.lt hb)⟩)))
                rw [← hw]
                clear hw
                clear hHeld
                refine hK.out _ _ ?_ (fun hHeld => ?_)
                case refine_1 => exact Blk.cell R34v.out.p 0
                clear hK K
                try simp only [setIfInBounds_toArray, set_cons_zero, set_cons_succ]
                refine tkY 5 rfl (v := ?_) (.inl ⟨by rfl, ?_⟩) ?_
                case refine_2 => intro w9 hSw; (try dsimp only at hSw); go_simp; (try with_reducible rfl)
                try simp only [Act.put, setIfInBounds_toArray, set_cons_zero, set_cons_succ, getElem_toArray, getElem_cons_zero, getElem_cons_succ]
                refine wpAnyH_ready (rs := [6]) (by kernel_rfl) (by simp) ?_
                refine (AllReadyH.cons rfl (fun K hK => ?_) AllReadyH.nil)
                obtain ⟨ps0, fs0, ps1, fs1, ps2, fs2, ps3, fs3, ps4, fs4, ps5, fs5⟩ := R34e.out.all6
                go_simp
                rw [pst6 R34e.out]
                clear ps0 fs0 ps1 fs1 ps2 fs2 ps3 fs3 ps4 fs4 ps5 fs5
                have R35r := Lib.hid (R34r.out.far (t' := 29) hrbe #[.int .i64 op, .int .i64 0, .int .i64 0, .string ⟨#[]⟩, .int .i64 0, .slice (some ⟨w33.heap.size, 0, none⟩) 2 2])
                have R35v := Lib.hid (R34v.out.far hbeg hbel 29 #[.int .i64 op, .int .i64 0, .int .i64 0, .string ⟨#[]⟩, .int .i64 0, .slice (some ⟨w33.heap.size, 0, none⟩) 2 2])
                have R35g := Lib.hid (grown_new R34g.out hbew 29 #[.int .i64 op, .int .i64 0, .int .i64 0, .string ⟨#[]⟩, .int .i64 0, .slice (some ⟨w33.heap.size, 0, none⟩) 2 2])
                have R35b := Lib.hid (map_put R34b.out hbmbe 29 #[.int .i64 op, .int .i64 0, .int .i64 0, .string ⟨#[]⟩, .int .i64 0, .slice (some ⟨w33.heap.size, 0, none⟩) 2 2])
                have R35n := Lib.hid (R34n.out.far (fun e => e.2 rfl) 29 #[.int .i64 op, .int .i64 0, .int .i64 0, .string ⟨#[]⟩, .int .i64 0, .slice (some ⟨w33.heap.size, 0, none⟩) 2 2])
                have R35zz := Lib.hid (R34e.out.put #[.int .i64 op, .int .i64 0, .int .i64 0, .string ⟨#[]⟩, .int .i64 0, .slice (some ⟨w33.heap.size, 0, none⟩) 2 2])
                obtain ⟨w35, hw9⟩ : ∃ z9 : World, z9 = putB w34 (be) 29 #[.int .i64 op, .int .i64 0, .int .i64 0, .string ⟨#[]⟩, .int .i64 0, .slice (some ⟨w33.heap.size, 0, none⟩) 2 2] := ⟨_, rfl⟩
                rw [← hw9] at R35r R35v R35g R35b R35n R35zz ⊢
                clear hw9 hHeld
                refine hK.out _ _ ?_ (fun hHeld => ?_)
                case refine_1 => exact Blk.cell R35v.out.p 0
                clear hK K
                try simp only [setIfInBounds_toArray, set_cons_zero, set_cons_succ]
                refine wpAnyH_done (by kernel_rfl) ?_ _
                go_wp2_with fail
                go_roundg f
                case measure => exact Nat.lt_succ_self f
                case rel => exact ⟨_, ⟨⟨op, 0, 0, ⟨#[]⟩, 0⟩, some ⟨w33.heap.size, 0, none⟩, 2, 2⟩, k2, HEr, HFr, R35n, R35zz, R35r, R35v, R35g, R35b⟩
              · go_simp
                (with_reducible refine (KN.out wd31 R31v.out).mono ?_)
                rintro e w32 ⟨y, rfl, HXr, HGr, HVr⟩
                have R32r := Lib.hid (R31r.out.grown HGr.out HNE.out)
                have R32e := Lib.hid (R31e.out.grown HGr.out HNEE.out)
                have R32v := Lib.hid (HVr.out)
                have R32g := Lib.hid (grown_tr R31g.out HGr.out)
                have R32x := Lib.hid (R31x.out.mv (fun e => absurd e.1 (Nat.not_le_of_lt hgw1)) HGr.out)
                have R32b := Lib.hid (map_kept R31b.out HGr.out hbg)
                go_wp2_with fail
                clear hHeld
                refine hK.out _ _ ?_ (fun hHeld => ?_)
                case refine_1 => exact Blk.cell R32v.out.p 0
                clear hK K
                try simp only [setIfInBounds_toArray, set_cons_zero, set_cons_succ]
                refine wpAnyH_ready (rs := [1]) (by kernel_rfl) (by simp) ?_
                refine (AllReadyH.cons rfl (fun K hK => ?_) AllReadyH.nil)
                obtain ⟨la0, lb0, la1, lb1, la2, lb2, la3, lb3, la4, lb4, la5, lb5⟩ := R32e.out.all6
                go_simp
                clear la0 lb0 la1 lb1 la2 lb2 la3 lb3 la4 lb4 la5 lb5
                clear hHeld
                refine hK.out _ _ ?_ (fun hHeld => ?_)
                case refine_1 => exact Blk.cell R32v.out.p 0
                clear hK K
                try simp only [setIfInBounds_toArray, set_cons_zero, set_cons_succ]
                refine wpAnyH_ready (rs := [4]) (by kernel_rfl) (by simp) ?_
                refine (AllReadyH.cons rfl (fun K hK => ?_) AllReadyH.nil)
                go_simp
                obtain ⟨w34, hw⟩ : ∃ z9 : World, z9 = w32.alloc (Obj.cells #[.int .i64 v.h.kind, .int .i64 v.h.n, .int .i64 v.h.d, .string v.h.name, .int .i64 v.h.k, .slice v.A v.len v.cap, .int .i64 y.h.kind, .int .i64 y.h.n, .int .i64 y.h.d, .string y.h.name, .int .i64 y.h.k, .slice y.A y.len y.cap] 29) := ⟨_, rfl⟩
                have HC34 := Lib.hid (show Below w32.heap.size w32 w34 by rw [hw]; exact below_box _ _)
                have R34r := Lib.hid (R32r.out.belowW HC34.out)
                have R34e := Lib.hid (R32e.out.belowW HC34.out)
                have R34v := Lib.hid (R32v.out.belowW HC34.out)
                have R34g := Lib.hid (grown_tr R32g.out (grown_of (some g) HC34.out))
                have R34x := Lib.hid (R32x.out.belowW HC34.out)
                have R34b := Lib.hid (map_below R32b.out HC34.out)
                have R34n := Lib.hid (show InA (fun b => w1.heap.size ≤ b ∧ b ≠ be) w34 (.mk ⟨op, 0, 0, ⟨#[]⟩, 0⟩ [T0, T1]) ⟨⟨op, 0, 0, ⟨#[]⟩, 0⟩, some ⟨w32.heap.size, 0, none⟩, 2, 2⟩ by rw [hw]; exact ina_new2 w32 ⟨op, 0, 0, ⟨#[]⟩, 0⟩ HOP.out T0 T1 v y _ ⟨Nat.le_trans hw1e (Nat.le_of_lt R32e.out.lt), Nat.ne_of_gt R32e.out.lt⟩ R32x.out (InA.weaken HXr.out (fun b hb => ⟨Nat.le_trans hw1e (Nat.le_trans (Nat.le_of_lt R31e.out.lt) hb), Nat.ne_of_gt (Nat.lt_of_lt_of_le R31e.out.lt hb)⟩)))
                rw [← hw]
                clear hw
                clear hHeld
                refine hK.out _ _ ?_ (fun hHeld => ?_)
                case refine_1 => exact Blk.cell R34v.out.p 0
                clear hK K
                try simp only [setIfInBounds_toArray, set_cons_zero, set_cons_succ]
                refine tkY 5 rfl (v := ?_) (.inl ⟨by rfl, ?_⟩) ?_
                case refine_2 => intro w9 hSw; (try dsimp only at hSw); go_simp; (try with_reducible rfl)
                try simp only [Act.put, setIfInBounds_toArray, set_cons_zero, set_cons_succ, getElem_toArray, getElem_cons_zero, getElem_cons_succ]
                refine wpAnyH_ready (rs := [6]) (by kernel_rfl) (by simp) ?_
                refine (AllReadyH.cons rfl (fun K hK => ?_) AllReadyH.nil)
                obtain ⟨ps0, fs0, ps1, fs1, ps2, fs2, ps3, fs3, ps4, fs4, ps5, fs5⟩ := R34e.out.all6
                go_simp
                rw [pst6 R34e.out]
                clear ps0 fs0 ps1 fs1 ps2 fs2 ps3 fs3 ps4 fs4 ps5 fs5
                have R35r := Lib.hid (R34r.out.far (t' := 29) hrbe #[.int .i64 op, .int .i64 0, .int .i64 0, .string ⟨#[]⟩, .int .i64 0, .slice (some ⟨w32.heap.size, 0, none⟩) 2 2])
                have R35v := Lib.hid (R34v.out.far hbeg hbel 29 #[.int .i64 op, .int .i64 0, .int .i64 0, .string ⟨#[]⟩, .int .i64 0, .slice (some ⟨w32.heap.size, 0, none⟩) 2 2])
                have R35g := Lib.hid (grown_new R34g.out hbew 29 #[.int .i64 op, .int .i64 0, .int .i64 0, .string ⟨#[]⟩, .int .i64 0, .slice (some ⟨w32.heap.size, 0, none⟩) 2 2])
                have R35b := Lib.hid (map_put R34b.out hbmbe 29 #[.int .i64 op, .int .i64 0, .int .i64 0, .string ⟨#[]⟩, .int .i64 0, .slice (some ⟨w32.heap.size, 0, none⟩) 2 2])
                have R35n := Lib.hid (R34n.out.far (fun e => e.2 rfl) 29 #[.int .i64 op, .int .i64 0, .int .i64 0, .string ⟨#[]⟩, .int .i64 0, .slice (some ⟨w32.heap.size, 0, none⟩) 2 2])
                have R35zz := Lib.hid (R34e.out.put #[.int .i64 op, .int .i64 0, .int .i64 0, .string ⟨#[]⟩, .int .i64 0, .slice (some ⟨w32.heap.size, 0, none⟩) 2 2])
                obtain ⟨w35, hw9⟩ : ∃ z9 : World, z9 = putB w34 (be) 29 #[.int .i64 op, .int .i64 0, .int .i64 0, .string ⟨#[]⟩, .int .i64 0, .slice (some ⟨w32.heap.size, 0, none⟩) 2 2] := ⟨_, rfl⟩
                rw [← hw9] at R35r R35v R35g R35b R35n R35zz ⊢
                clear hw9 hHeld
                refine hK.out _ _ ?_ (fun hHeld => ?_)
                case refine_1 => exact Blk.cell R35v.out.p 0
                clear hK K
                try simp only [setIfInBounds_toArray, set_cons_zero, set_cons_succ]
                refine wpAnyH_done (by kernel_rfl) ?_ _
                go_wp2_with fail
                go_roundg f
                case measure => exact Nat.lt_succ_self f
                case rel => exact ⟨_, ⟨⟨op, 0, 0, ⟨#[]⟩, 0⟩, some ⟨w32.heap.size, 0, none⟩, 2, 2⟩, k2, HEr, HFr, R35n, R35zz, R35r, R35v, R35g, R35b⟩
end Go.Proofs.YtkjoohnndobjeaaGreatDoor
