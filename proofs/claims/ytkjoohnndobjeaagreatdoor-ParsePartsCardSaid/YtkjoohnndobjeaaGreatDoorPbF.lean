/-
 The walk of the parser's problems.
-/
import Derived.Test.YtkjoohnndobjeaaGreatDoorPbE
set_option linter.unusedVariables false
set_option maxHeartbeats 4000000
set_option maxRecDepth 100000
namespace Go.Proofs.YtkjoohnndobjeaaGreatDoor
open Go.RowKit Go.Fl Go.Fl.Lx Go.Fl.Nm Go.Fl.Fm Go.Fl.Rt Go.Fl.Pa
open List (setIfInBounds_toArray set_cons_zero set_cons_succ getElem_toArray getElem_cons_zero getElem_cons_succ)
def AllR {α : Type} (P : α → Prop) (r : PR α) : Prop := ∀ a k, r = .ok a k → P a
theorem allR_bind {α β : Type} {Q : α → Prop} {P : β → Prop} {r : PR α} {f : α → Nat → PR β} (h1 : AllR Q r) (h2 : ∀ a k, Q a → AllR P (f a k)) : AllR P (r.bind f) := fun b k h => by
 cases r with
 | ok a k1 => exact h2 a k1 (h1 a k1 rfl) b k h
 | bad l c e => cases h
 | out => cases h
theorem allR_ok {α : Type} {P : α → Prop} {a : α} {k : Nat} (h : P a) : AllR P (.ok a k) := fun b k1 e => by
 injection e with e _
 rw [← e]
 exact h
theorem allR_any {α : Type} (r : PR α) : AllR (fun _ => True) r := fun _ _ _ => trivial
def Sm (a : Int × Int) : Prop := -4611686018427387904 ≤ a.1 ∧ a.1 ≤ 4611686018427387904 ∧ -4611686018427387904 ≤ a.2 ∧ a.2 ≤ 4611686018427387904
theorem val_sm (ts : List Tok) (k : Nat) : AllR Sm (valP ts k) := fun a k1 h => by
 unfold valP at h
 split at h
 ·
  exact quotP_small h
 ·
  exact numP_small2 h
theorem span_sm (ts : List Tok) (k : Nat) : AllR (fun r => Sm r.lo ∧ Sm r.hi) (spanP ts k) := by
 unfold spanP
 split
 ·
  exact allR_bind (val_sm _ _) (fun lo k1 h1 => allR_bind (allR_any _) (fun _ k2 _ => allR_bind (val_sm _ _) (fun hi k3 h3 => allR_bind (allR_any _) (fun _ k4 _ => allR_ok ⟨h1, h3⟩))))
 ·
  exact allR_bind (val_sm _ _) (fun v k1 h1 => allR_ok ⟨h1, h1⟩)
theorem decl_sm (ts : List Tok) (k : Nat) : AllR (fun d => d.s.length ≤ 20 ∧ Sm d.r.lo ∧ Sm d.r.hi) (declP nameP ts k) := by
 unfold declP
 exact allR_bind (Q := fun n => n.length ≤ 20) (fun n k1 h => nmR_len h) (fun n k1 h1 => allR_bind (allR_any _) (fun _ k2 _ => allR_bind (span_sm _ _) (fun r k3 h3 => allR_bind (allR_any _) (fun _ k4 _ => allR_ok ⟨h1, h3⟩))))
def dcN (d : DcP) : DcN := ⟨⟨d.s.toArray⟩, d.r.lo.1, d.r.lo.2, d.r.hi.1, d.r.hi.2⟩
theorem decl_in {ts : List Tok} {k k1 : Nat} {d : DcP} (h : declP nameP ts k = .ok d k1) (w : World) : InD w (dcN d) := by
 obtain ⟨h1, ⟨a1, a2, a3, a4⟩, b1, b2, b3, b4⟩ := decl_sm ts k d k1 h
 refine ⟨?_, ?_⟩
 ·
  show R4 d.r.lo.1 d.r.lo.2 d.r.hi.1 d.r.hi.2
  constructor <;> omega
 ·
  show d.s.toArray.size ≤ maxLen
  rw [List.size_toArray]
  unfold maxLen
  omega
theorem pst34 {w : World} {g : Nat} {t : TypeId} {a b c d e : Value} (hB : Blk w g t #[a, b, c, d, e]) (d' e' : Value) :
  (w.setCell ⟨g, 3, none⟩ d').setCell ⟨g, 4, none⟩ e' = putB w g t #[a, b, c, d', e'] := by
 rw [show w.setCell ⟨g, 3, none⟩ d' = putB w g t #[a, b, c, d', e] from hB.setCell_eq 3 d']
 have h4 := hB.put #[a, b, c, d', e]
 rw [show (putB w g t #[a, b, c, d', e]).setCell ⟨g, 4, none⟩ e' = putB (putB w g t #[a, b, c, d', e]) g t #[a, b, c, d', e'] from h4.setCell_eq 4 e', putB_putB]
theorem pst_5_0 {w : World} {g : Nat} {t : TypeId} {a b c d e : Value} (hB : Blk w g t #[a, b, c, d, e]) (x : Value) : w.setCell ⟨g, 0, none⟩ x = putB w g t #[x, b, c, d, e] := hB.setCell_eq 0 x
theorem pst_5_1 {w : World} {g : Nat} {t : TypeId} {a b c d e : Value} (hB : Blk w g t #[a, b, c, d, e]) (x : Value) : w.setCell ⟨g, 1, none⟩ x = putB w g t #[a, x, c, d, e] := hB.setCell_eq 1 x
theorem pst_5_2 {w : World} {g : Nat} {t : TypeId} {a b c d e : Value} (hB : Blk w g t #[a, b, c, d, e]) (x : Value) : w.setCell ⟨g, 2, none⟩ x = putB w g t #[a, b, x, d, e] := hB.setCell_eq 2 x
theorem Tryz.infoDecl : (Tryz.prog.info? 76).map (fun i => (i.zero, i.size, i.bytes)) = some (some (.agg #[.string ⟨#[]⟩, .int .i64 0, .int .i64 0, .int .i64 0, .int .i64 0]), 5, 48) := by kernel_rfl
theorem Tryz.infoMode : (Tryz.prog.info? 74).map (fun i => (i.zero, i.size, i.bytes)) = some (some (.agg #[.string ⟨#[]⟩, .slice none 0 0, .slice none 0 0]), 3, 64) := by kernel_rfl
def PbN.pl (x : PbN) : PbP := ⟨x.st.map DcN.pl, x.pa.map DcN.pl, x.ms.map MdN.pl, (x.t, x.u)⟩
structure PzP (P : Nat → Prop) (w : World) (x : PbN) : Prop where
 hs : LiL 5 DcN.cells PzD P w x.A x.n x.c x.st
 hp : LiL 5 DcN.cells PzD P w x.B x.m x.d x.pa
 hm : LiL 3 MdN.cells PzM P w x.C x.k x.e x.ms
 t1 : -9223372036854775808 ≤ x.t
 t2 : x.t ≤ 9223372036854775807
 u1 : -9223372036854775808 ≤ x.u
 u2 : x.u ≤ 9223372036854775807
theorem pzP : PzOk PzP := ⟨fun h hr hg => ⟨h.hs.mv pzD hr hg, h.hp.mv pzD hr hg, h.hm.mv pzM hr hg, h.t1, h.t2, h.u1, h.u2⟩, fun h hC => ⟨h.hs.weaken pzD hC, h.hp.weaken pzD hC, h.hm.weaken pzM hC, h.t1, h.t2, h.u1, h.u2⟩, fun h => ⟨h.hs.lt pzD, h.hp.lt pzD, h.hm.lt pzM, h.t1, h.t2, h.u1, h.u2⟩⟩
theorem PzP.toP {P : Nat → Prop} {w : World} {x : PbN} (h : PzP P w x) : InP w x := ⟨inl_mono h.hs.il (fun z _ hz => hz), inl_mono h.hp.il (fun z _ hz => hz), inl_mono h.hm.il (fun z _ hz => PzM.toM hz), h.t1, h.t2, h.u1, h.u2⟩
def PbV (d : PbP) (w : World) (e : Ending) (w' : World) : Prop := ∃ x : PbN, e = .returned x.val ∧ x.pl = d ∧ Hid (PzP (fun b => w.heap.size ≤ b) w' x)

theorem pProblem {w0 w : World} {g : Nat} {A : Option Addr} {len cap : Nat} {ts : List Tok} {k : Nat} (h : Env w0 g A len cap ts k 0 w) (hkl : k ≤ ts.length) (hR : RX w0) (hX : FX w0) (hD : DigTs ts) : Calls Tryz.prog 69 #[.pointer (some ⟨g, 0, none⟩)] w (PRP PbV w0 g A len cap ts 0 (probP nameP ts k) w) := by
  have j8 := hI h
  obtain ⟨Z, ez⟩ := eX (probP nameP ts k)
  have iw := hI ez
  rw [← ez]
  clear ez
  have j9 : ts.length ≤ 100000 := by have := h.t.hl; have := h.t.hs; omega
  go_enter Tryz.func69, Tryz.ntmps69
  go_upto_region 1 with (fail)
  obtain ⟨w1, d6⟩ := eX (w.alloc (Obj.cells #[.slice none 0 0, .slice none 0 0, .slice none 0 0, .int .i64 0, .int .i64 0] 68))
  have O1 := hI (show Below w.heap.size w w1 by rw [d6]; exact below_box _ _)
  have F1 := hI (show Blk w1 w.heap.size 68 #[.slice none 0 0, .slice none 0 0, .slice none 0 0, .int .i64 0, .int .i64 0] by rw [d6]; exact Blk.new _ _ _)
  rw [← d6]
  clear d6
  have a3 := hI (show some w.heap.size ≠ some g from fun e => by have := h.gl; injection e with e; omega)
  have ix : w.heap.size ≠ g := fun e => a3.out (by rw [e])
  have be : w0.heap.size ≤ w.heap.size := h.b.size
  have e0 := hI (h.belowW O1.out)
  have iy := hI (grown_of (some g) O1.out)
  clear h
  have iz := hI (show Z = (declsP nameP ts (ts.length + 1) k [] []).bind fun d k11 => (modesP nameP ts (ts.length + 1) k11 []).bind fun ms k12 => (wantP ts true kTime k12).bind fun _ k13 => (valP ts k13).bind fun tm k14 => (wantP ts false [59] k14).bind fun _ k15 => .ok ⟨d.1, d.2, ms, tm⟩ k15 from iw.out)
  go_upto_block 0 with (fail)
  obtain ⟨gu, j⟩ := eX (w1.alloc (Obj.cells #[.slice none 0 0, .slice none 0 0, .slice none 0 0, .int .i64 0, .int .i64 0] 68))
  have e1 := hI (show Below w1.heap.size w1 gu by rw [j]; exact below_box _ _)
  have gv := hI (show Blk gu w1.heap.size 68 #[.slice none 0 0, .slice none 0 0, .slice none 0 0, .int .i64 0, .int .i64 0] by rw [j]; exact Blk.new _ _ _)
  rw [← j]
  clear j
  obtain ⟨i, d7⟩ := eX (w1.heap.size)
  have W := hI (show some i ≠ some g from fun e => by have := e0.out.gl; injection e with e; omega)
  have aa : w.heap.size < i := by rw [d7]; exact F1.out.lt
  rw [← d7] at gv ⊢
  have ka : g < i := by rw [d7]; exact e0.out.gl
  clear d7
  have i1 := hI (e0.out.belowW e1.out)
  have i2 := hI (grown_tr iy.out (grown_of (some g) e1.out))
  have i3 := hI (F1.out.belowW e1.out)
  go_wp2_with fail
  go_loopg [] (ts.length + 1) (fun fu wr => ∃ (Y : Nat) (q y : List DcN) (I J : Value), Hid (Z = (declsP nameP ts fu Y (q.map DcN.pl) (y.map DcN.pl)).bind fun d k11 => (modesP nameP ts (ts.length + 1) k11 []).bind fun ms k12 => (wantP ts true kTime k12).bind fun _ k13 => (valP ts k13).bind fun tm k14 => (wantP ts false [59] k14).bind fun _ k15 => .ok ⟨d.1, d.2, ms, tm⟩ k15) ∧ Y ≤ ts.length ∧ ts.length < fu + Y ∧ q.length ≤ Y ∧ y.length ≤ Y ∧ Hid (Env w0 g A len cap ts Y 0 wr) ∧ Hid (w.grownBy wr (some g)) ∧ Hid (Blk wr w.heap.size 68 #[.slice none 0 0, .slice none 0 0, .slice none 0 0, .int .i64 0, .int .i64 0]) ∧ Hid (Blk wr i 68 #[I, J, .slice none 0 0, .int .i64 0, .int .i64 0]) ∧ Hid (Mk2 76 5 DcN.cells PzD 76 5 DcN.cells PzD (i + 1) wr I q J y))
  case atStart => exact ⟨k, [], [], .slice none 0 0, .slice none 0 0, iz, hkl, by omega, by simp, by simp, i1, i2, i3, gv, hI (Mk2.nil _ _ _ _ _ _ _ _ _ _)⟩
  case round =>
    obtain ⟨Y, q, y, I, J, HQ, kc, kd, ke, kf, i4, gw, gy, e3, cm⟩ := hrel
    cases gk with
    | zero => exfalso; omega
    | succ fu =>
      have gz := hI (World.grownBy.refl wr (some g))
      have cn : i < wr.heap.size := e3.out.lt
      have bv : ∀ kb, I.ownBlock = some kb → i + 1 ≤ kb ∧ kb < wr.heap.size := fun kb h => cm.out.a.own.lt kb h
      have bw : ∀ kb, J.ownBlock = some kb → i + 1 ≤ kb ∧ kb < wr.heap.size := fun kb h => cm.out.b.own.lt kb h
      have cy := hI (pAccept i4.out (by omega) ⟨#[115, 116, 97, 116, 101]⟩)
      rw [show kwP (⟨#[115, 116, 97, 116, 101]⟩ : ByteArray).data.toList = true by decide, show (⟨#[115, 116, 97, 116, 101]⟩ : ByteArray).data.toList = kState from rfl] at cy
      cases hb61 : isS true ts Y kState with
      | true =>
        have kg := isS_lt hb61
        rw [hb61] at cy
        have bx := hI (show Z = (declP nameP ts (Y + 1)).bind fun d9 k9 => (declsP nameP ts fu k9 (q.map DcN.pl ++ [d9]) (y.map DcN.pl)).bind fun d k11 => (modesP nameP ts (ts.length + 1) k11 []).bind fun ms k12 => (wantP ts true kTime k12).bind fun _ k13 => (valP ts k13).bind fun tm k14 => (wantP ts false [59] k14).bind fun _ k15 => .ok ⟨d.1, d.2, ms, tm⟩ k15 by rw [HQ.out, declsP, hb61, if_pos rfl]; exact bind_assoc' _ _ _)
        clear hb61
        go_wp2_with fail
        refine cy.out.mono ?_
        rintro e wa61 ⟨rfl, HGa61, HVa61⟩
        simp only [if_true] at HVa61
        have cz := hI (grown_tr gw.out HGa61.out)
        have d8 := hI (gy.out.grown HGa61.out a3.out)
        have c0 := hI (e3.out.grown HGa61.out W.out)
        have c1 := hI (grown_tr gz.out HGa61.out)
        have c2 := hI (cm.out.moved pzD pzD (.inr ⟨g, rfl, by omega⟩) c1.out)
        have c3 := hI (show wr.heap.size ≤ wa61.heap.size from c1.out.size)
        have z : ∀ b, I.ownBlock = some b → i + 1 ≤ b := fun b h => (bv b h).1
        go_upto_region 3 with (fail)
        obtain ⟨ln, co, er, L⟩ | ⟨d9, k9, L⟩ := pr_cases (decl_no (nm := nameP) (ts := ts) (Y + 1))
        · have HE := hI (show Z = .bad ln co er by rw [bx.out, L] <;> rfl)
          have H := hI (fun (w' : World) (h' : Env w0 g A len cap ts (Y + 1) 0 w') => by have h9 := pDecl h' (by omega) hR; rw [L] at h9; exact h9)
          clear L
          have ea := hI (below_dr wa61)
          have g0 := hI (HVa61.out.belowW ea.out)
          have g1 := hI (grown_tr cz.out (grown_of (some g) ea.out))
          have cp := hI (c0.out.belowW ea.out)
          refine wp_region_held_drew (S := fun w' => w'.cell? ⟨i, 0, none⟩ = some (I) ∧ w'.cell? ⟨i, 1, none⟩ = some (J) ∧ w'.cell? ⟨i, 2, none⟩ = some (.slice none 0 0) ∧ w'.cell? ⟨i, 3, none⟩ = some (.int .i64 0) ∧ w'.cell? ⟨i, 4, none⟩ = some (.int .i64 0)) (by kernel_rfl) ?_ (fun hHeld => ?_)
          case refine_1 => exact ⟨cp.out.cell 0, cp.out.cell 1, cp.out.cell 2, cp.out.cell 3, cp.out.cell 4⟩
          obtain ⟨i5, af⟩ := eX (wa61.drew)
          rw [← af] at ea g0 g1 cp hHeld ⊢
          clear af
          refine tkY 0 rfl (v := ?_) (.inl ⟨by rfl, ?_⟩) ?_
          case refine_2 => intro w9 hSw; (try dsimp only at hSw); go_simp; (try with_reducible rfl)
          try simp only [Act.put, setIfInBounds_toArray, set_cons_zero, set_cons_succ, getElem_toArray, getElem_cons_zero]
          refine tkY 1 rfl (v := ?_) (.inl ⟨by rfl, ?_⟩) ?_
          case refine_2 => intro w9 hSw; (try dsimp only at hSw); go_simp; (try with_reducible rfl)
          try simp only [Act.put, setIfInBounds_toArray, set_cons_zero, set_cons_succ, getElem_toArray, getElem_cons_zero, getElem_cons_succ]
          refine tkY 2 rfl (v := ?_) (.inl ⟨by rfl, ?_⟩) ?_
          case refine_2 => intro w9 hSw; (try dsimp only at hSw); go_simp; (try with_reducible rfl)
          try simp only [Act.put, setIfInBounds_toArray, set_cons_zero, set_cons_succ, getElem_toArray, getElem_cons_zero, getElem_cons_succ]
          refine wpAnyH_ready (rs := [3]) (by kernel_rfl) (by simp) ?_
          refine (AllReadyH.cons rfl (fun K hK => ?_) AllReadyH.nil)
          go_simp
          (with_reducible refine (H.out i5 g0.out).mono ?_)
          rintro e w1462 ⟨rfl, HG9⟩
          clear hHeld
          go_wp2_with fail
          rw [HE.out]
          exact ⟨rfl, prp_bad (hI (grown_tr g1.out HG9.out))⟩
        · have kh := (decl_fw (nm := nameP) (ts := ts) (Y + 1)) _ _ L
          have e4 := hI (show Z = (declsP nameP ts fu k9 (q.map DcN.pl ++ [d9]) (y.map DcN.pl)).bind fun d k11 => (modesP nameP ts (ts.length + 1) k11 []).bind fun ms k12 => (wantP ts true kTime k12).bind fun _ k13 => (valP ts k13).bind fun tm k14 => (wantP ts false [59] k14).bind fun _ k15 => .ok ⟨d.1, d.2, ms, tm⟩ k15 by rw [bx.out, L] <;> rfl)
          have a8 := hI (decl_in L w)
          have H := hI (fun (w' : World) (h' : Env w0 g A len cap ts (Y + 1) 0 w') => by have h9 := pDecl h' (by omega) hR; rw [L] at h9; exact h9)
          clear L
          have cj := hI (below_dr wa61)
          have e6 := hI (HVa61.out.belowW cj.out)
          have e7 := hI (grown_tr cz.out (grown_of (some g) cj.out))
          have c4 := hI (d8.out.belowW cj.out)
          have eb := hI (c0.out.belowW cj.out)
          have e8 := hI (c2.out.belowW pzD pzD cj.out)
          have e9 := hI (Nat.le_trans c3.out cj.out.size)
          refine wp_region_held_drew (S := fun w' => w'.cell? ⟨w.heap.size, 0, none⟩ = some (.slice none 0 0)) (by kernel_rfl) ?_ (fun hHeld => ?_)
          case refine_1 => exact c4.out.cell 0
          obtain ⟨g2, af⟩ := eX (wa61.drew)
          rw [← af] at cj e6 e7 c4 eb e8 e9 hHeld ⊢
          clear af
          refine tkY 0 rfl (v := ?_) (.inl ⟨by rfl, ?_⟩) ?_
          case refine_2 => intro w9 hSw; (try dsimp only at hSw); go_simp; (try with_reducible rfl)
          try simp only [Act.put, setIfInBounds_toArray, set_cons_zero, set_cons_succ, getElem_toArray, getElem_cons_zero]
          refine tkY 2 rfl (v := ?_) (.inl ⟨by rfl, ?_⟩) ?_
          case refine_2 => intro w9 hSw; (try dsimp only at hSw); go_simp; (try with_reducible rfl)
          try simp only [Act.put, setIfInBounds_toArray, set_cons_zero, set_cons_succ, getElem_toArray, getElem_cons_zero, getElem_cons_succ]
          refine wpAnyH_ready (rs := [1, 3]) (by kernel_rfl) (by simp) ?_
          refine (AllReadyH.cons rfl (fun K hK => ?_) (AllReadyH.cons rfl (fun K hK => ?_) AllReadyH.nil))
          · obtain ⟨ag, ah, ai, aj, ak, al, am, an, ao, ap⟩ := eb.out.all5
            go_simp
            clear ag ah ai aj ak al am an ao ap
            clear hHeld
            refine hK.out _ _ ?_ (fun hHeld => ?_)
            case refine_1 => exact c4.out.cell 0
            clear hK K
            try simp only [setIfInBounds_toArray, set_cons_zero, set_cons_succ]
            refine wpAnyH_ready (rs := [3]) (by kernel_rfl) (by simp) ?_
            refine (AllReadyH.cons rfl (fun K hK => ?_) AllReadyH.nil)
            go_simp
            (with_reducible refine (H.out g2 e6.out).mono ?_)
            rintro e bb ⟨rfl, a9, HV9⟩
            have fa := hI (HV9.out)
            have fb := hI (grown_tr e7.out a9.out)
            have cq := hI (c4.out.grown a9.out a3.out)
            have ec := hI (eb.out.grown a9.out W.out)
            have ed := hI (e8.out.moved pzD pzD (.inr ⟨g, rfl, by omega⟩) a9.out)
            have ee := hI (Nat.le_trans e9.out a9.out.size)
            have fc := hI (show PzD (fun b => wr.heap.size ≤ b ∧ b < bb.heap.size) bb (dcN d9) from ⟨a8.out.r, a8.out.hs⟩)
            go_wp2_with fail
            clear hHeld
            refine hK.out _ _ ?_ (fun hHeld => ?_)
            case refine_1 => exact cq.out.cell 0
            clear hK K
            try simp only [setIfInBounds_toArray, set_cons_zero, set_cons_succ]
            refine wpAnyH_ready (rs := [4]) (by kernel_rfl) (by simp) ?_
            refine (AllReadyH.cons rfl (fun K hK => ?_) AllReadyH.nil)
            go_simp
            obtain ⟨br, C⟩ := eX (bb.alloc (Obj.cells #[.string ⟨d9.s.toArray⟩, .int .i64 d9.r.lo.1, .int .i64 d9.r.lo.2, .int .i64 d9.r.hi.1, .int .i64 d9.r.hi.2] 76))
            have a4 := hI (show Below bb.heap.size bb br by rw [C]; exact below_box _ _)
            have fd := hI (fa.out.belowW a4.out)
            have fe := hI (grown_tr fb.out (grown_of (some g) a4.out))
            have c6 := hI (cq.out.belowW a4.out)
            have ff := hI (ec.out.belowW a4.out)
            have c7 := hI (ed.out.belowW pzD pzD a4.out)
            have c8 := hI (Nat.le_trans ee.out a4.out.size)
            have fg := hI (show PzD (fun b => wr.heap.size ≤ b ∧ b < br.heap.size) br (dcN d9) from pzD.weaken (pzD.lt (pzD.mv fc.out (fun b hb e => by cases e) (grown_none (Nat.le_refl _) a4.out))) (fun b hb => ⟨hb.1.1, hb.2⟩))
            have fh := hI (show Blk br bb.heap.size 76 (DcN.cells (dcN d9)).toArray by rw [C]; exact Blk.new _ _ _)
            rw [← C]
            clear C
            clear hHeld
            refine hK.out _ _ ?_ (fun hHeld => ?_)
            case refine_1 => exact c6.out.cell 0
            clear hK K
            try simp only [setIfInBounds_toArray, set_cons_zero, set_cons_succ]
            refine wpAnyH_ready (rs := [5]) (by kernel_rfl) (by simp) ?_
            refine (AllReadyH.cons rfl (fun K hK => ?_) AllReadyH.nil)
            obtain ⟨M, N, O, P, Q⟩ := info_parts Tryz.infoDecl
            have R : ∀ u ∈ DcN.cells (dcN d9), u.oneCell' = true := by simp [DcN.cells, Value.oneCell']
            refine if_wanted (by rfl) ?_
            refine oper_append_mk _ _ _ rfl (avd_ok pzD) DcN.len5 rfl c7.out.a (show Avd (Own J) PzD _ _ _ from pzD.weaken fg.out (fun b hb => ⟨⟨by omega, hb.2, fun e => by have := bv b e.symm; omega⟩, fun e => by have := bw b e; omega⟩)) M _ 48 Tryz.underlying65 N O P Q rfl (by omega) (by omega) (by omega) bb.heap.size _ rfl fh.out R (Nat.le_trans cn c8.out) ?_
            intro v9 w1475 hmk hgr hob
            have T := hI hmk
            have ab := hI hgr
            have a7 := hI hob
            clear hmk hgr hob N O P Q M R
            obtain ⟨l, o, U, _⟩ := T.out.lies (avd_ok pzD)
            obtain ⟨p, V⟩ := eX ((q ++ [dcN d9]).length)
            rw [← V] at U
            clear V
            subst U
            try simp only [Act.put, setIfInBounds_toArray]
            have da := hI (env_row fd.out ab.out (fun b h => by have := z b h; omega))
            have db := hI (grown_row fe.out ab.out (fun b h => by have := z b h; omega))
            have bz := hI (c6.out.grown ab.out (fun e => by have := z _ e.symm; omega))
            have bj := hI (ff.out.grown ab.out (fun e => by have := z _ e.symm; omega))
            have dc := hI (Mk2.pushed pzD c7.out T.out ab.out a7.out)
            have dd := hI (Nat.le_trans c8.out ab.out.size)
            clear hHeld
            refine hK.out _ _ ?_ (fun hHeld => ?_)
            case refine_1 => exact bz.out.cell 0
            clear hK K
            try simp only [setIfInBounds_toArray, set_cons_zero, set_cons_succ]
            refine tkY 6 rfl (v := ?_) (.inl ⟨by rfl, ?_⟩) ?_
            case refine_2 => intro w9 hSw; (try dsimp only at hSw); go_simp; (try with_reducible rfl)
            try simp only [Act.put, setIfInBounds_toArray, set_cons_zero, set_cons_succ, getElem_toArray, getElem_cons_zero, getElem_cons_succ]
            refine wpAnyH_ready (rs := [7]) (by kernel_rfl) (by simp) ?_
            refine (AllReadyH.cons rfl (fun K hK => ?_) AllReadyH.nil)
            obtain ⟨aq, ar, au, av, aw, ax, ay, az, a0, a1⟩ := bj.out.all5
            go_simp
            rw [pst_5_0 bj.out]
            clear aq ar au av aw ax ay az a0 a1
            have b0 := hI (da.out.far (r := i) (fun e => W.out (by rw [e])) (Nat.le_trans be (Nat.le_of_lt aa)) 68 #[.slice l p o, J, .slice none 0 0, .int .i64 0, .int .i64 0])
            have b1 := hI (grown_new db.out (Nat.le_of_lt aa) 68 #[.slice l p o, J, .slice none 0 0, .int .i64 0, .int .i64 0])
            have bk := hI (bz.out.far (g' := i) (t' := 68) (by omega) #[.slice l p o, J, .slice none 0 0, .int .i64 0, .int .i64 0])
            have b2 := hI (dc.out.moved pzD pzD (.inr ⟨i, rfl, by omega⟩) (putB_grown w1475 i 68 #[.slice l p o, J, .slice none 0 0, .int .i64 0, .int .i64 0]))
            have de := hI (show wr.heap.size ≤ (putB w1475 i 68 #[.slice l p o, J, .slice none 0 0, .int .i64 0, .int .i64 0]).heap.size by rw [putB_size]; exact dd.out)
            have b3 := hI (bj.out.put #[.slice l p o, J, .slice none 0 0, .int .i64 0, .int .i64 0])
            obtain ⟨g3, j⟩ := eX (putB w1475 (i) 68 #[.slice l p o, J, .slice none 0 0, .int .i64 0, .int .i64 0])
            try rw [← j] at b0
            try rw [← j] at b1
            try rw [← j] at bk
            try rw [← j] at b2
            try rw [← j] at de
            try rw [← j] at b3
            rw [← j]
            clear j hHeld
            refine hK.out _ _ ?_ (fun hHeld => ?_)
            case refine_1 => exact bk.out.cell 0
            clear hK K
            try simp only [setIfInBounds_toArray, set_cons_zero, set_cons_succ]
            refine wpAnyH_done (by kernel_rfl) ?_ _
            go_wp2_with fail
            go_roundg fu
            case measure => omega
            case rel => exact ⟨k9, q ++ [dcN d9], y, .slice l p o, J, hI (by rw [e4.out, List.map_append]; rfl), by omega, by omega, by rw [List.length_append]; show q.length + 1 ≤ _; omega, by omega, b0, b1, bk, b3, b2⟩
          · go_simp
            (with_reducible refine (H.out g2 e6.out).mono ?_)
            rintro e w1472 ⟨rfl, HC1472, HV9⟩
            have g4 := hI (HV9.out)
            have g5 := hI (grown_tr e7.out HC1472.out)
            have ef := hI (c4.out.grown HC1472.out a3.out)
            have fi := hI (eb.out.grown HC1472.out W.out)
            have g6 := hI (e8.out.moved pzD pzD (.inr ⟨g, rfl, by omega⟩) HC1472.out)
            have g7 := hI (Nat.le_trans e9.out HC1472.out.size)
            have g8 := hI (show PzD (fun b => wr.heap.size ≤ b ∧ b < w1472.heap.size) w1472 (dcN d9) from ⟨a8.out.r, a8.out.hs⟩)
            go_wp2_with fail
            clear hHeld
            refine hK.out _ _ ?_ (fun hHeld => ?_)
            case refine_1 => exact ef.out.cell 0
            clear hK K
            try simp only [setIfInBounds_toArray, set_cons_zero, set_cons_succ]
            refine wpAnyH_ready (rs := [1, 4]) (by kernel_rfl) (by simp) ?_
            refine (AllReadyH.cons rfl (fun K hK => ?_) (AllReadyH.cons rfl (fun K hK => ?_) AllReadyH.nil))
            · obtain ⟨ag, ah, ai, aj, ak, al, am, an, ao, ap⟩ := fi.out.all5
              go_simp
              clear ag ah ai aj ak al am an ao ap
              clear hHeld
              refine hK.out _ _ ?_ (fun hHeld => ?_)
              case refine_1 => exact ef.out.cell 0
              clear hK K
              try simp only [setIfInBounds_toArray, set_cons_zero, set_cons_succ]
              refine wpAnyH_ready (rs := [4]) (by kernel_rfl) (by simp) ?_
              refine (AllReadyH.cons rfl (fun K hK => ?_) AllReadyH.nil)
              go_simp
              obtain ⟨br, C⟩ := eX (w1472.alloc (Obj.cells #[.string ⟨d9.s.toArray⟩, .int .i64 d9.r.lo.1, .int .i64 d9.r.lo.2, .int .i64 d9.r.hi.1, .int .i64 d9.r.hi.2] 76))
              have a4 := hI (show Below w1472.heap.size w1472 br by rw [C]; exact below_box _ _)
              have fd := hI (g4.out.belowW a4.out)
              have fe := hI (grown_tr g5.out (grown_of (some g) a4.out))
              have c6 := hI (ef.out.belowW a4.out)
              have ff := hI (fi.out.belowW a4.out)
              have c7 := hI (g6.out.belowW pzD pzD a4.out)
              have c8 := hI (Nat.le_trans g7.out a4.out.size)
              have fg := hI (show PzD (fun b => wr.heap.size ≤ b ∧ b < br.heap.size) br (dcN d9) from pzD.weaken (pzD.lt (pzD.mv g8.out (fun b hb e => by cases e) (grown_none (Nat.le_refl _) a4.out))) (fun b hb => ⟨hb.1.1, hb.2⟩))
              have fh := hI (show Blk br w1472.heap.size 76 (DcN.cells (dcN d9)).toArray by rw [C]; exact Blk.new _ _ _)
              rw [← C]
              clear C
              clear hHeld
              refine hK.out _ _ ?_ (fun hHeld => ?_)
              case refine_1 => exact c6.out.cell 0
              clear hK K
              try simp only [setIfInBounds_toArray, set_cons_zero, set_cons_succ]
              refine wpAnyH_ready (rs := [5]) (by kernel_rfl) (by simp) ?_
              refine (AllReadyH.cons rfl (fun K hK => ?_) AllReadyH.nil)
              obtain ⟨M, N, O, P, Q⟩ := info_parts Tryz.infoDecl
              have R : ∀ u ∈ DcN.cells (dcN d9), u.oneCell' = true := by simp [DcN.cells, Value.oneCell']
              refine if_wanted (by rfl) ?_
              refine oper_append_mk _ _ _ rfl (avd_ok pzD) DcN.len5 rfl c7.out.a (show Avd (Own J) PzD _ _ _ from pzD.weaken fg.out (fun b hb => ⟨⟨by omega, hb.2, fun e => by have := bv b e.symm; omega⟩, fun e => by have := bw b e; omega⟩)) M _ 48 Tryz.underlying65 N O P Q rfl (by omega) (by omega) (by omega) w1472.heap.size _ rfl fh.out R (Nat.le_trans cn c8.out) ?_
              intro v9 w1475 hmk hgr hob
              have T := hI hmk
              have ab := hI hgr
              have a7 := hI hob
              clear hmk hgr hob N O P Q M R
              obtain ⟨l, o, U, _⟩ := T.out.lies (avd_ok pzD)
              obtain ⟨p, V⟩ := eX ((q ++ [dcN d9]).length)
              rw [← V] at U
              clear V
              subst U
              try simp only [Act.put, setIfInBounds_toArray]
              have da := hI (env_row fd.out ab.out (fun b h => by have := z b h; omega))
              have db := hI (grown_row fe.out ab.out (fun b h => by have := z b h; omega))
              have bz := hI (c6.out.grown ab.out (fun e => by have := z _ e.symm; omega))
              have bj := hI (ff.out.grown ab.out (fun e => by have := z _ e.symm; omega))
              have dc := hI (Mk2.pushed pzD c7.out T.out ab.out a7.out)
              have dd := hI (Nat.le_trans c8.out ab.out.size)
              clear hHeld
              refine hK.out _ _ ?_ (fun hHeld => ?_)
              case refine_1 => exact bz.out.cell 0
              clear hK K
              try simp only [setIfInBounds_toArray, set_cons_zero, set_cons_succ]
              refine tkY 6 rfl (v := ?_) (.inl ⟨by rfl, ?_⟩) ?_
              case refine_2 => intro w9 hSw; (try dsimp only at hSw); go_simp; (try with_reducible rfl)
              try simp only [Act.put, setIfInBounds_toArray, set_cons_zero, set_cons_succ, getElem_toArray, getElem_cons_zero, getElem_cons_succ]
              refine wpAnyH_ready (rs := [7]) (by kernel_rfl) (by simp) ?_
              refine (AllReadyH.cons rfl (fun K hK => ?_) AllReadyH.nil)
              obtain ⟨aq, ar, au, av, aw, ax, ay, az, a0, a1⟩ := bj.out.all5
              go_simp
              rw [pst_5_0 bj.out]
              clear aq ar au av aw ax ay az a0 a1
              have b0 := hI (da.out.far (r := i) (fun e => W.out (by rw [e])) (Nat.le_trans be (Nat.le_of_lt aa)) 68 #[.slice l p o, J, .slice none 0 0, .int .i64 0, .int .i64 0])
              have b1 := hI (grown_new db.out (Nat.le_of_lt aa) 68 #[.slice l p o, J, .slice none 0 0, .int .i64 0, .int .i64 0])
              have bk := hI (bz.out.far (g' := i) (t' := 68) (by omega) #[.slice l p o, J, .slice none 0 0, .int .i64 0, .int .i64 0])
              have b2 := hI (dc.out.moved pzD pzD (.inr ⟨i, rfl, by omega⟩) (putB_grown w1475 i 68 #[.slice l p o, J, .slice none 0 0, .int .i64 0, .int .i64 0]))
              have de := hI (show wr.heap.size ≤ (putB w1475 i 68 #[.slice l p o, J, .slice none 0 0, .int .i64 0, .int .i64 0]).heap.size by rw [putB_size]; exact dd.out)
              have b3 := hI (bj.out.put #[.slice l p o, J, .slice none 0 0, .int .i64 0, .int .i64 0])
              obtain ⟨g3, j⟩ := eX (putB w1475 (i) 68 #[.slice l p o, J, .slice none 0 0, .int .i64 0, .int .i64 0])
              try rw [← j] at b0
              try rw [← j] at b1
              try rw [← j] at bk
              try rw [← j] at b2
              try rw [← j] at de
              try rw [← j] at b3
              rw [← j]
              clear j hHeld
              refine hK.out _ _ ?_ (fun hHeld => ?_)
              case refine_1 => exact bk.out.cell 0
              clear hK K
              try simp only [setIfInBounds_toArray, set_cons_zero, set_cons_succ]
              refine wpAnyH_done (by kernel_rfl) ?_ _
              go_wp2_with fail
              go_roundg fu
              case measure => omega
              case rel => exact ⟨k9, q ++ [dcN d9], y, .slice l p o, J, hI (by rw [e4.out, List.map_append]; rfl), by omega, by omega, by rw [List.length_append]; show q.length + 1 ≤ _; omega, by omega, b0, b1, bk, b3, b2⟩
            · go_simp
              obtain ⟨bb, C⟩ := eX (w1472.alloc (Obj.cells #[.string ⟨d9.s.toArray⟩, .int .i64 d9.r.lo.1, .int .i64 d9.r.lo.2, .int .i64 d9.r.hi.1, .int .i64 d9.r.hi.2] 76))
              have a9 := hI (show Below w1472.heap.size w1472 bb by rw [C]; exact below_box _ _)
              have fa := hI (g4.out.belowW a9.out)
              have fb := hI (grown_tr g5.out (grown_of (some g) a9.out))
              have cq := hI (ef.out.belowW a9.out)
              have ec := hI (fi.out.belowW a9.out)
              have ed := hI (g6.out.belowW pzD pzD a9.out)
              have ee := hI (Nat.le_trans g7.out a9.out.size)
              have fc := hI (show PzD (fun b => wr.heap.size ≤ b ∧ b < bb.heap.size) bb (dcN d9) from pzD.weaken (pzD.lt (pzD.mv g8.out (fun b hb e => by cases e) (grown_none (Nat.le_refl _) a9.out))) (fun b hb => ⟨hb.1.1, hb.2⟩))
              have i6 := hI (show Blk bb w1472.heap.size 76 (DcN.cells (dcN d9)).toArray by rw [C]; exact Blk.new _ _ _)
              rw [← C]
              clear C
              clear hHeld
              refine hK.out _ _ ?_ (fun hHeld => ?_)
              case refine_1 => exact cq.out.cell 0
              clear hK K
              try simp only [setIfInBounds_toArray, set_cons_zero, set_cons_succ]
              refine wpAnyH_ready (rs := [1]) (by kernel_rfl) (by simp) ?_
              refine (AllReadyH.cons rfl (fun K hK => ?_) AllReadyH.nil)
              obtain ⟨ag, ah, ai, aj, ak, al, am, an, ao, ap⟩ := ec.out.all5
              go_simp
              clear ag ah ai aj ak al am an ao ap
              clear hHeld
              refine hK.out _ _ ?_ (fun hHeld => ?_)
              case refine_1 => exact cq.out.cell 0
              clear hK K
              try simp only [setIfInBounds_toArray, set_cons_zero, set_cons_succ]
              refine wpAnyH_ready (rs := [5]) (by kernel_rfl) (by simp) ?_
              refine (AllReadyH.cons rfl (fun K hK => ?_) AllReadyH.nil)
              obtain ⟨M, N, O, P, Q⟩ := info_parts Tryz.infoDecl
              have R : ∀ u ∈ DcN.cells (dcN d9), u.oneCell' = true := by simp [DcN.cells, Value.oneCell']
              refine if_wanted (by rfl) ?_
              refine oper_append_mk _ _ _ rfl (avd_ok pzD) DcN.len5 rfl ed.out.a (show Avd (Own J) PzD _ _ _ from pzD.weaken fc.out (fun b hb => ⟨⟨by omega, hb.2, fun e => by have := bv b e.symm; omega⟩, fun e => by have := bw b e; omega⟩)) M _ 48 Tryz.underlying65 N O P Q rfl (by omega) (by omega) (by omega) w1472.heap.size _ rfl i6.out R (Nat.le_trans cn ee.out) ?_
              intro v9 w1475 hmk hgr hob
              have T := hI hmk
              have ab := hI hgr
              have a7 := hI hob
              clear hmk hgr hob N O P Q M R
              obtain ⟨l, o, U, _⟩ := T.out.lies (avd_ok pzD)
              obtain ⟨p, V⟩ := eX ((q ++ [dcN d9]).length)
              rw [← V] at U
              clear V
              subst U
              try simp only [Act.put, setIfInBounds_toArray]
              have da := hI (env_row fa.out ab.out (fun b h => by have := z b h; omega))
              have db := hI (grown_row fb.out ab.out (fun b h => by have := z b h; omega))
              have bz := hI (cq.out.grown ab.out (fun e => by have := z _ e.symm; omega))
              have bj := hI (ec.out.grown ab.out (fun e => by have := z _ e.symm; omega))
              have dc := hI (Mk2.pushed pzD ed.out T.out ab.out a7.out)
              have dd := hI (Nat.le_trans ee.out ab.out.size)
              clear hHeld
              refine hK.out _ _ ?_ (fun hHeld => ?_)
              case refine_1 => exact bz.out.cell 0
              clear hK K
              try simp only [setIfInBounds_toArray, set_cons_zero, set_cons_succ]
              refine tkY 6 rfl (v := ?_) (.inl ⟨by rfl, ?_⟩) ?_
              case refine_2 => intro w9 hSw; (try dsimp only at hSw); go_simp; (try with_reducible rfl)
              try simp only [Act.put, setIfInBounds_toArray, set_cons_zero, set_cons_succ, getElem_toArray, getElem_cons_zero, getElem_cons_succ]
              refine wpAnyH_ready (rs := [7]) (by kernel_rfl) (by simp) ?_
              refine (AllReadyH.cons rfl (fun K hK => ?_) AllReadyH.nil)
              obtain ⟨aq, ar, au, av, aw, ax, ay, az, a0, a1⟩ := bj.out.all5
              go_simp
              rw [pst_5_0 bj.out]
              clear aq ar au av aw ax ay az a0 a1
              have b0 := hI (da.out.far (r := i) (fun e => W.out (by rw [e])) (Nat.le_trans be (Nat.le_of_lt aa)) 68 #[.slice l p o, J, .slice none 0 0, .int .i64 0, .int .i64 0])
              have b1 := hI (grown_new db.out (Nat.le_of_lt aa) 68 #[.slice l p o, J, .slice none 0 0, .int .i64 0, .int .i64 0])
              have bk := hI (bz.out.far (g' := i) (t' := 68) (by omega) #[.slice l p o, J, .slice none 0 0, .int .i64 0, .int .i64 0])
              have b2 := hI (dc.out.moved pzD pzD (.inr ⟨i, rfl, by omega⟩) (putB_grown w1475 i 68 #[.slice l p o, J, .slice none 0 0, .int .i64 0, .int .i64 0]))
              have de := hI (show wr.heap.size ≤ (putB w1475 i 68 #[.slice l p o, J, .slice none 0 0, .int .i64 0, .int .i64 0]).heap.size by rw [putB_size]; exact dd.out)
              have b3 := hI (bj.out.put #[.slice l p o, J, .slice none 0 0, .int .i64 0, .int .i64 0])
              obtain ⟨g3, j⟩ := eX (putB w1475 (i) 68 #[.slice l p o, J, .slice none 0 0, .int .i64 0, .int .i64 0])
              try rw [← j] at b0
              try rw [← j] at b1
              try rw [← j] at bk
              try rw [← j] at b2
              try rw [← j] at de
              try rw [← j] at b3
              rw [← j]
              clear j hHeld
              refine hK.out _ _ ?_ (fun hHeld => ?_)
              case refine_1 => exact bk.out.cell 0
              clear hK K
              try simp only [setIfInBounds_toArray, set_cons_zero, set_cons_succ]
              refine wpAnyH_done (by kernel_rfl) ?_ _
              go_wp2_with fail
              go_roundg fu
              case measure => omega
              case rel => exact ⟨k9, q ++ [dcN d9], y, .slice l p o, J, hI (by rw [e4.out, List.map_append]; rfl), by omega, by omega, by rw [List.length_append]; show q.length + 1 ≤ _; omega, by omega, b0, b1, bk, b3, b2⟩
      | false =>
        rw [hb61] at cy
        have eg := hb61
        clear hb61
        go_wp2_with fail
        refine cy.out.mono ?_
        rintro e wa61 ⟨rfl, HGa61, HVa61⟩
        simp only [Bool.false_eq_true, if_false] at HVa61
        have cz := hI (grown_tr gw.out HGa61.out)
        have d8 := hI (gy.out.grown HGa61.out a3.out)
        have c0 := hI (e3.out.grown HGa61.out W.out)
        have c1 := hI (grown_tr gz.out HGa61.out)
        have df := hI (pAccept HVa61.out (by omega) ⟨#[112, 97, 114, 97, 109]⟩)
        rw [show kwP (⟨#[112, 97, 114, 97, 109]⟩ : ByteArray).data.toList = true by decide, show (⟨#[112, 97, 114, 97, 109]⟩ : ByteArray).data.toList = kParam from rfl] at df
        cases hb63 : isS true ts Y kParam with
        | true =>
          have ki := isS_lt hb63
          rw [hb63] at df
          have bx := hI (show Z = (declP nameP ts (Y + 1)).bind fun d9 k9 => (declsP nameP ts fu k9 (q.map DcN.pl) (y.map DcN.pl ++ [d9])).bind fun d k11 => (modesP nameP ts (ts.length + 1) k11 []).bind fun ms k12 => (wantP ts true kTime k12).bind fun _ k13 => (valP ts k13).bind fun tm k14 => (wantP ts false [59] k14).bind fun _ k15 => .ok ⟨d.1, d.2, ms, tm⟩ k15 by rw [HQ.out, declsP, eg, if_neg (by decide), hb63, if_pos rfl]; exact bind_assoc' _ _ _)
          clear hb63
          go_wp2_with fail
          refine df.out.mono ?_
          rintro e wa63 ⟨rfl, HGa63, HVa63⟩
          simp only [if_true] at HVa63
          have eh := hI (grown_tr cz.out HGa63.out)
          have fj := hI (d8.out.grown HGa63.out a3.out)
          have dg := hI (c0.out.grown HGa63.out W.out)
          have ei := hI (grown_tr c1.out HGa63.out)
          clear eg
          have c2 := hI (cm.out.moved pzD pzD (.inr ⟨g, rfl, by omega⟩) ei.out)
          have c3 := hI (show wr.heap.size ≤ wa63.heap.size from ei.out.size)
          have z : ∀ b, J.ownBlock = some b → i + 1 ≤ b := fun b h => (bw b h).1
          go_upto_region 5 with (fail)
          obtain ⟨ln, co, er, L⟩ | ⟨d9, k9, L⟩ := pr_cases (decl_no (nm := nameP) (ts := ts) (Y + 1))
          · have HE := hI (show Z = .bad ln co er by rw [bx.out, L] <;> rfl)
            have H := hI (fun (w' : World) (h' : Env w0 g A len cap ts (Y + 1) 0 w') => by have h9 := pDecl h' (by omega) hR; rw [L] at h9; exact h9)
            clear L
            have ej := hI (below_dr wa63)
            have g9 := hI (HVa63.out.belowW ej.out)
            have ha := hI (grown_tr eh.out (grown_of (some g) ej.out))
            have cr := hI (dg.out.belowW ej.out)
            refine wp_region_held_drew (S := fun w' => w'.cell? ⟨i, 0, none⟩ = some (I) ∧ w'.cell? ⟨i, 1, none⟩ = some (J) ∧ w'.cell? ⟨i, 2, none⟩ = some (.slice none 0 0) ∧ w'.cell? ⟨i, 3, none⟩ = some (.int .i64 0) ∧ w'.cell? ⟨i, 4, none⟩ = some (.int .i64 0)) (by kernel_rfl) ?_ (fun hHeld => ?_)
            case refine_1 => exact ⟨cr.out.cell 0, cr.out.cell 1, cr.out.cell 2, cr.out.cell 3, cr.out.cell 4⟩
            obtain ⟨i7, af⟩ := eX (wa63.drew)
            rw [← af] at ej g9 ha cr hHeld ⊢
            clear af
            refine tkY 0 rfl (v := ?_) (.inl ⟨by rfl, ?_⟩) ?_
            case refine_2 => intro w9 hSw; (try dsimp only at hSw); go_simp; (try with_reducible rfl)
            try simp only [Act.put, setIfInBounds_toArray, set_cons_zero, set_cons_succ, getElem_toArray, getElem_cons_zero]
            refine tkY 1 rfl (v := ?_) (.inl ⟨by rfl, ?_⟩) ?_
            case refine_2 => intro w9 hSw; (try dsimp only at hSw); go_simp; (try with_reducible rfl)
            try simp only [Act.put, setIfInBounds_toArray, set_cons_zero, set_cons_succ, getElem_toArray, getElem_cons_zero, getElem_cons_succ]
            refine tkY 2 rfl (v := ?_) (.inl ⟨by rfl, ?_⟩) ?_
            case refine_2 => intro w9 hSw; (try dsimp only at hSw); go_simp; (try with_reducible rfl)
            try simp only [Act.put, setIfInBounds_toArray, set_cons_zero, set_cons_succ, getElem_toArray, getElem_cons_zero, getElem_cons_succ]
            refine wpAnyH_ready (rs := [3]) (by kernel_rfl) (by simp) ?_
            refine (AllReadyH.cons rfl (fun K hK => ?_) AllReadyH.nil)
            go_simp
            (with_reducible refine (H.out i7 g9.out).mono ?_)
            rintro e w1502 ⟨rfl, HG9⟩
            clear hHeld
            go_wp2_with fail
            rw [HE.out]
            exact ⟨rfl, prp_bad (hI (grown_tr ha.out HG9.out))⟩
          · have kj := (decl_fw (nm := nameP) (ts := ts) (Y + 1)) _ _ L
            have fk := hI (show Z = (declsP nameP ts fu k9 (q.map DcN.pl) (y.map DcN.pl ++ [d9])).bind fun d k11 => (modesP nameP ts (ts.length + 1) k11 []).bind fun ms k12 => (wantP ts true kTime k12).bind fun _ k13 => (valP ts k13).bind fun tm k14 => (wantP ts false [59] k14).bind fun _ k15 => .ok ⟨d.1, d.2, ms, tm⟩ k15 by rw [bx.out, L] <;> rfl)
            have a8 := hI (decl_in L w)
            have H := hI (fun (w' : World) (h' : Env w0 g A len cap ts (Y + 1) 0 w') => by have h9 := pDecl h' (by omega) hR; rw [L] at h9; exact h9)
            clear L
            have ck := hI (below_dr wa63)
            have fl := hI (HVa63.out.belowW ck.out)
            have fm := hI (grown_tr eh.out (grown_of (some g) ck.out))
            have dh := hI (fj.out.belowW ck.out)
            have ek := hI (dg.out.belowW ck.out)
            have fn := hI (c2.out.belowW pzD pzD ck.out)
            have fo := hI (Nat.le_trans c3.out ck.out.size)
            refine wp_region_held_drew (S := fun w' => w'.cell? ⟨w.heap.size, 0, none⟩ = some (.slice none 0 0)) (by kernel_rfl) ?_ (fun hHeld => ?_)
            case refine_1 => exact dh.out.cell 0
            obtain ⟨hc, af⟩ := eX (wa63.drew)
            rw [← af] at ck fl fm dh ek fn fo hHeld ⊢
            clear af
            refine tkY 0 rfl (v := ?_) (.inl ⟨by rfl, ?_⟩) ?_
            case refine_2 => intro w9 hSw; (try dsimp only at hSw); go_simp; (try with_reducible rfl)
            try simp only [Act.put, setIfInBounds_toArray, set_cons_zero, set_cons_succ, getElem_toArray, getElem_cons_zero]
            refine tkY 2 rfl (v := ?_) (.inl ⟨by rfl, ?_⟩) ?_
            case refine_2 => intro w9 hSw; (try dsimp only at hSw); go_simp; (try with_reducible rfl)
            try simp only [Act.put, setIfInBounds_toArray, set_cons_zero, set_cons_succ, getElem_toArray, getElem_cons_zero, getElem_cons_succ]
            refine wpAnyH_ready (rs := [1, 3]) (by kernel_rfl) (by simp) ?_
            refine (AllReadyH.cons rfl (fun K hK => ?_) (AllReadyH.cons rfl (fun K hK => ?_) AllReadyH.nil))
            · obtain ⟨ag, ah, ai, aj, ak, al, am, an, ao, ap⟩ := ek.out.all5
              go_simp
              clear ag ah ai aj ak al am an ao ap
              clear hHeld
              refine hK.out _ _ ?_ (fun hHeld => ?_)
              case refine_1 => exact dh.out.cell 0
              clear hK K
              try simp only [setIfInBounds_toArray, set_cons_zero, set_cons_succ]
              refine wpAnyH_ready (rs := [3]) (by kernel_rfl) (by simp) ?_
              refine (AllReadyH.cons rfl (fun K hK => ?_) AllReadyH.nil)
              go_simp
              (with_reducible refine (H.out hc fl.out).mono ?_)
              rintro e bc ⟨rfl, ba, HV9⟩
              have fp := hI (HV9.out)
              have fq := hI (grown_tr fm.out ba.out)
              have cs := hI (dh.out.grown ba.out a3.out)
              have el := hI (ek.out.grown ba.out W.out)
              have em := hI (fn.out.moved pzD pzD (.inr ⟨g, rfl, by omega⟩) ba.out)
              have en := hI (Nat.le_trans fo.out ba.out.size)
              have fr := hI (show PzD (fun b => wr.heap.size ≤ b ∧ b < bc.heap.size) bc (dcN d9) from ⟨a8.out.r, a8.out.hs⟩)
              go_wp2_with fail
              clear hHeld
              refine hK.out _ _ ?_ (fun hHeld => ?_)
              case refine_1 => exact cs.out.cell 0
              clear hK K
              try simp only [setIfInBounds_toArray, set_cons_zero, set_cons_succ]
              refine wpAnyH_ready (rs := [4]) (by kernel_rfl) (by simp) ?_
              refine (AllReadyH.cons rfl (fun K hK => ?_) AllReadyH.nil)
              go_simp
              obtain ⟨bs, C⟩ := eX (bc.alloc (Obj.cells #[.string ⟨d9.s.toArray⟩, .int .i64 d9.r.lo.1, .int .i64 d9.r.lo.2, .int .i64 d9.r.hi.1, .int .i64 d9.r.hi.2] 76))
              have a5 := hI (show Below bc.heap.size bc bs by rw [C]; exact below_box _ _)
              have fs := hI (fp.out.belowW a5.out)
              have ft := hI (grown_tr fq.out (grown_of (some g) a5.out))
              have di := hI (cs.out.belowW a5.out)
              have fv := hI (el.out.belowW a5.out)
              have dj := hI (em.out.belowW pzD pzD a5.out)
              have dk := hI (Nat.le_trans en.out a5.out.size)
              have fw := hI (show PzD (fun b => wr.heap.size ≤ b ∧ b < bs.heap.size) bs (dcN d9) from pzD.weaken (pzD.lt (pzD.mv fr.out (fun b hb e => by cases e) (grown_none (Nat.le_refl _) a5.out))) (fun b hb => ⟨hb.1.1, hb.2⟩))
              have fx := hI (show Blk bs bc.heap.size 76 (DcN.cells (dcN d9)).toArray by rw [C]; exact Blk.new _ _ _)
              rw [← C]
              clear C
              clear hHeld
              refine hK.out _ _ ?_ (fun hHeld => ?_)
              case refine_1 => exact di.out.cell 0
              clear hK K
              try simp only [setIfInBounds_toArray, set_cons_zero, set_cons_succ]
              refine wpAnyH_ready (rs := [5]) (by kernel_rfl) (by simp) ?_
              refine (AllReadyH.cons rfl (fun K hK => ?_) AllReadyH.nil)
              obtain ⟨M, N, O, P, Q⟩ := info_parts Tryz.infoDecl
              have R : ∀ u ∈ DcN.cells (dcN d9), u.oneCell' = true := by simp [DcN.cells, Value.oneCell']
              refine if_wanted (by rfl) ?_
              refine oper_append_mk _ _ _ rfl (avd_ok pzD) DcN.len5 rfl dj.out.b (show Avd (Own I) PzD _ _ _ from pzD.weaken fw.out (fun b hb => ⟨⟨by omega, hb.2, fun e => by have := bw b e.symm; omega⟩, fun e => by have := bv b e; omega⟩)) M _ 48 Tryz.underlying65 N O P Q rfl (by omega) (by omega) (by omega) bc.heap.size _ rfl fx.out R (Nat.le_trans cn dk.out) ?_
              intro v9 w1515 hmk hgr hob
              have T := hI hmk
              have ac := hI hgr
              have a7 := hI hob
              clear hmk hgr hob N O P Q M R
              obtain ⟨l, o, U, _⟩ := T.out.lies (avd_ok pzD)
              obtain ⟨p, V⟩ := eX ((y ++ [dcN d9]).length)
              rw [← V] at U
              clear V
              subst U
              try simp only [Act.put, setIfInBounds_toArray]
              have dl := hI (env_row fs.out ac.out (fun b h => by have := z b h; omega))
              have dm := hI (grown_row ft.out ac.out (fun b h => by have := z b h; omega))
              have b4 := hI (di.out.grown ac.out (fun e => by have := z _ e.symm; omega))
              have bl := hI (fv.out.grown ac.out (fun e => by have := z _ e.symm; omega))
              have dn := hI ((Mk2.pushed pzD dj.out.swap T.out ac.out a7.out).swap)
              have dp := hI (Nat.le_trans dk.out ac.out.size)
              clear hHeld
              refine hK.out _ _ ?_ (fun hHeld => ?_)
              case refine_1 => exact b4.out.cell 0
              clear hK K
              try simp only [setIfInBounds_toArray, set_cons_zero, set_cons_succ]
              refine tkY 6 rfl (v := ?_) (.inl ⟨by rfl, ?_⟩) ?_
              case refine_2 => intro w9 hSw; (try dsimp only at hSw); go_simp; (try with_reducible rfl)
              try simp only [Act.put, setIfInBounds_toArray, set_cons_zero, set_cons_succ, getElem_toArray, getElem_cons_zero, getElem_cons_succ]
              refine wpAnyH_ready (rs := [7]) (by kernel_rfl) (by simp) ?_
              refine (AllReadyH.cons rfl (fun K hK => ?_) AllReadyH.nil)
              obtain ⟨aq, ar, au, av, aw, ax, ay, az, a0, a1⟩ := bl.out.all5
              go_simp
              rw [pst_5_1 bl.out]
              clear aq ar au av aw ax ay az a0 a1
              have b5 := hI (dl.out.far (r := i) (fun e => W.out (by rw [e])) (Nat.le_trans be (Nat.le_of_lt aa)) 68 #[I, .slice l p o, .slice none 0 0, .int .i64 0, .int .i64 0])
              have b6 := hI (grown_new dm.out (Nat.le_of_lt aa) 68 #[I, .slice l p o, .slice none 0 0, .int .i64 0, .int .i64 0])
              have bm := hI (b4.out.far (g' := i) (t' := 68) (by omega) #[I, .slice l p o, .slice none 0 0, .int .i64 0, .int .i64 0])
              have b7 := hI (dn.out.moved pzD pzD (.inr ⟨i, rfl, by omega⟩) (putB_grown w1515 i 68 #[I, .slice l p o, .slice none 0 0, .int .i64 0, .int .i64 0]))
              have dq := hI (show wr.heap.size ≤ (putB w1515 i 68 #[I, .slice l p o, .slice none 0 0, .int .i64 0, .int .i64 0]).heap.size by rw [putB_size]; exact dp.out)
              have b8 := hI (bl.out.put #[I, .slice l p o, .slice none 0 0, .int .i64 0, .int .i64 0])
              obtain ⟨hd, j⟩ := eX (putB w1515 (i) 68 #[I, .slice l p o, .slice none 0 0, .int .i64 0, .int .i64 0])
              try rw [← j] at b5
              try rw [← j] at b6
              try rw [← j] at bm
              try rw [← j] at b7
              try rw [← j] at dq
              try rw [← j] at b8
              rw [← j]
              clear j hHeld
              refine hK.out _ _ ?_ (fun hHeld => ?_)
              case refine_1 => exact bm.out.cell 0
              clear hK K
              try simp only [setIfInBounds_toArray, set_cons_zero, set_cons_succ]
              refine wpAnyH_done (by kernel_rfl) ?_ _
              go_wp2_with fail
              go_roundg fu
              case measure => omega
              case rel => exact ⟨k9, q, y ++ [dcN d9], I, .slice l p o, hI (by rw [fk.out, List.map_append]; rfl), by omega, by omega, by omega, by rw [List.length_append]; show y.length + 1 ≤ _; omega, b5, b6, bm, b8, b7⟩
            · go_simp
              (with_reducible refine (H.out hc fl.out).mono ?_)
              rintro e w1512 ⟨rfl, HC1512, HV9⟩
              have he := hI (HV9.out)
              have hf := hI (grown_tr fm.out HC1512.out)
              have eo := hI (dh.out.grown HC1512.out a3.out)
              have fy := hI (ek.out.grown HC1512.out W.out)
              have hg := hI (fn.out.moved pzD pzD (.inr ⟨g, rfl, by omega⟩) HC1512.out)
              have hh := hI (Nat.le_trans fo.out HC1512.out.size)
              have hj := hI (show PzD (fun b => wr.heap.size ≤ b ∧ b < w1512.heap.size) w1512 (dcN d9) from ⟨a8.out.r, a8.out.hs⟩)
              go_wp2_with fail
              clear hHeld
              refine hK.out _ _ ?_ (fun hHeld => ?_)
              case refine_1 => exact eo.out.cell 0
              clear hK K
              try simp only [setIfInBounds_toArray, set_cons_zero, set_cons_succ]
              refine wpAnyH_ready (rs := [1, 4]) (by kernel_rfl) (by simp) ?_
              refine (AllReadyH.cons rfl (fun K hK => ?_) (AllReadyH.cons rfl (fun K hK => ?_) AllReadyH.nil))
              · obtain ⟨ag, ah, ai, aj, ak, al, am, an, ao, ap⟩ := fy.out.all5
                go_simp
                clear ag ah ai aj ak al am an ao ap
                clear hHeld
                refine hK.out _ _ ?_ (fun hHeld => ?_)
                case refine_1 => exact eo.out.cell 0
                clear hK K
                try simp only [setIfInBounds_toArray, set_cons_zero, set_cons_succ]
                refine wpAnyH_ready (rs := [4]) (by kernel_rfl) (by simp) ?_
                refine (AllReadyH.cons rfl (fun K hK => ?_) AllReadyH.nil)
                go_simp
                obtain ⟨bs, C⟩ := eX (w1512.alloc (Obj.cells #[.string ⟨d9.s.toArray⟩, .int .i64 d9.r.lo.1, .int .i64 d9.r.lo.2, .int .i64 d9.r.hi.1, .int .i64 d9.r.hi.2] 76))
                have a5 := hI (show Below w1512.heap.size w1512 bs by rw [C]; exact below_box _ _)
                have fs := hI (he.out.belowW a5.out)
                have ft := hI (grown_tr hf.out (grown_of (some g) a5.out))
                have di := hI (eo.out.belowW a5.out)
                have fv := hI (fy.out.belowW a5.out)
                have dj := hI (hg.out.belowW pzD pzD a5.out)
                have dk := hI (Nat.le_trans hh.out a5.out.size)
                have fw := hI (show PzD (fun b => wr.heap.size ≤ b ∧ b < bs.heap.size) bs (dcN d9) from pzD.weaken (pzD.lt (pzD.mv hj.out (fun b hb e => by cases e) (grown_none (Nat.le_refl _) a5.out))) (fun b hb => ⟨hb.1.1, hb.2⟩))
                have fx := hI (show Blk bs w1512.heap.size 76 (DcN.cells (dcN d9)).toArray by rw [C]; exact Blk.new _ _ _)
                rw [← C]
                clear C
                clear hHeld
                refine hK.out _ _ ?_ (fun hHeld => ?_)
                case refine_1 => exact di.out.cell 0
                clear hK K
                try simp only [setIfInBounds_toArray, set_cons_zero, set_cons_succ]
                refine wpAnyH_ready (rs := [5]) (by kernel_rfl) (by simp) ?_
                refine (AllReadyH.cons rfl (fun K hK => ?_) AllReadyH.nil)
                obtain ⟨M, N, O, P, Q⟩ := info_parts Tryz.infoDecl
                have R : ∀ u ∈ DcN.cells (dcN d9), u.oneCell' = true := by simp [DcN.cells, Value.oneCell']
                refine if_wanted (by rfl) ?_
                refine oper_append_mk _ _ _ rfl (avd_ok pzD) DcN.len5 rfl dj.out.b (show Avd (Own I) PzD _ _ _ from pzD.weaken fw.out (fun b hb => ⟨⟨by omega, hb.2, fun e => by have := bw b e.symm; omega⟩, fun e => by have := bv b e; omega⟩)) M _ 48 Tryz.underlying65 N O P Q rfl (by omega) (by omega) (by omega) w1512.heap.size _ rfl fx.out R (Nat.le_trans cn dk.out) ?_
                intro v9 w1515 hmk hgr hob
                have T := hI hmk
                have ac := hI hgr
                have a7 := hI hob
                clear hmk hgr hob N O P Q M R
                obtain ⟨l, o, U, _⟩ := T.out.lies (avd_ok pzD)
                obtain ⟨p, V⟩ := eX ((y ++ [dcN d9]).length)
                rw [← V] at U
                clear V
                subst U
                try simp only [Act.put, setIfInBounds_toArray]
                have dl := hI (env_row fs.out ac.out (fun b h => by have := z b h; omega))
                have dm := hI (grown_row ft.out ac.out (fun b h => by have := z b h; omega))
                have b4 := hI (di.out.grown ac.out (fun e => by have := z _ e.symm; omega))
                have bl := hI (fv.out.grown ac.out (fun e => by have := z _ e.symm; omega))
                have dn := hI ((Mk2.pushed pzD dj.out.swap T.out ac.out a7.out).swap)
                have dp := hI (Nat.le_trans dk.out ac.out.size)
                clear hHeld
                refine hK.out _ _ ?_ (fun hHeld => ?_)
                case refine_1 => exact b4.out.cell 0
                clear hK K
                try simp only [setIfInBounds_toArray, set_cons_zero, set_cons_succ]
                refine tkY 6 rfl (v := ?_) (.inl ⟨by rfl, ?_⟩) ?_
                case refine_2 => intro w9 hSw; (try dsimp only at hSw); go_simp; (try with_reducible rfl)
                try simp only [Act.put, setIfInBounds_toArray, set_cons_zero, set_cons_succ, getElem_toArray, getElem_cons_zero, getElem_cons_succ]
                refine wpAnyH_ready (rs := [7]) (by kernel_rfl) (by simp) ?_
                refine (AllReadyH.cons rfl (fun K hK => ?_) AllReadyH.nil)
                obtain ⟨aq, ar, au, av, aw, ax, ay, az, a0, a1⟩ := bl.out.all5
                go_simp
                rw [pst_5_1 bl.out]
                clear aq ar au av aw ax ay az a0 a1
                have b5 := hI (dl.out.far (r := i) (fun e => W.out (by rw [e])) (Nat.le_trans be (Nat.le_of_lt aa)) 68 #[I, .slice l p o, .slice none 0 0, .int .i64 0, .int .i64 0])
                have b6 := hI (grown_new dm.out (Nat.le_of_lt aa) 68 #[I, .slice l p o, .slice none 0 0, .int .i64 0, .int .i64 0])
                have bm := hI (b4.out.far (g' := i) (t' := 68) (by omega) #[I, .slice l p o, .slice none 0 0, .int .i64 0, .int .i64 0])
                have b7 := hI (dn.out.moved pzD pzD (.inr ⟨i, rfl, by omega⟩) (putB_grown w1515 i 68 #[I, .slice l p o, .slice none 0 0, .int .i64 0, .int .i64 0]))
                have dq := hI (show wr.heap.size ≤ (putB w1515 i 68 #[I, .slice l p o, .slice none 0 0, .int .i64 0, .int .i64 0]).heap.size by rw [putB_size]; exact dp.out)
                have b8 := hI (bl.out.put #[I, .slice l p o, .slice none 0 0, .int .i64 0, .int .i64 0])
                obtain ⟨hd, j⟩ := eX (putB w1515 (i) 68 #[I, .slice l p o, .slice none 0 0, .int .i64 0, .int .i64 0])
                try rw [← j] at b5
                try rw [← j] at b6
                try rw [← j] at bm
                try rw [← j] at b7
                try rw [← j] at dq
                try rw [← j] at b8
                rw [← j]
                clear j hHeld
                refine hK.out _ _ ?_ (fun hHeld => ?_)
                case refine_1 => exact bm.out.cell 0
                clear hK K
                try simp only [setIfInBounds_toArray, set_cons_zero, set_cons_succ]
                refine wpAnyH_done (by kernel_rfl) ?_ _
                go_wp2_with fail
                go_roundg fu
                case measure => omega
                case rel => exact ⟨k9, q, y ++ [dcN d9], I, .slice l p o, hI (by rw [fk.out, List.map_append]; rfl), by omega, by omega, by omega, by rw [List.length_append]; show y.length + 1 ≤ _; omega, b5, b6, bm, b8, b7⟩
              · go_simp
                obtain ⟨bc, C⟩ := eX (w1512.alloc (Obj.cells #[.string ⟨d9.s.toArray⟩, .int .i64 d9.r.lo.1, .int .i64 d9.r.lo.2, .int .i64 d9.r.hi.1, .int .i64 d9.r.hi.2] 76))
                have ba := hI (show Below w1512.heap.size w1512 bc by rw [C]; exact below_box _ _)
                have fp := hI (he.out.belowW ba.out)
                have fq := hI (grown_tr hf.out (grown_of (some g) ba.out))
                have cs := hI (eo.out.belowW ba.out)
                have el := hI (fy.out.belowW ba.out)
                have em := hI (hg.out.belowW pzD pzD ba.out)
                have en := hI (Nat.le_trans hh.out ba.out.size)
                have fr := hI (show PzD (fun b => wr.heap.size ≤ b ∧ b < bc.heap.size) bc (dcN d9) from pzD.weaken (pzD.lt (pzD.mv hj.out (fun b hb e => by cases e) (grown_none (Nat.le_refl _) ba.out))) (fun b hb => ⟨hb.1.1, hb.2⟩))
                have i8 := hI (show Blk bc w1512.heap.size 76 (DcN.cells (dcN d9)).toArray by rw [C]; exact Blk.new _ _ _)
                rw [← C]
                clear C
                clear hHeld
                refine hK.out _ _ ?_ (fun hHeld => ?_)
                case refine_1 => exact cs.out.cell 0
                clear hK K
                try simp only [setIfInBounds_toArray, set_cons_zero, set_cons_succ]
                refine wpAnyH_ready (rs := [1]) (by kernel_rfl) (by simp) ?_
                refine (AllReadyH.cons rfl (fun K hK => ?_) AllReadyH.nil)
                obtain ⟨ag, ah, ai, aj, ak, al, am, an, ao, ap⟩ := el.out.all5
                go_simp
                clear ag ah ai aj ak al am an ao ap
                clear hHeld
                refine hK.out _ _ ?_ (fun hHeld => ?_)
                case refine_1 => exact cs.out.cell 0
                clear hK K
                try simp only [setIfInBounds_toArray, set_cons_zero, set_cons_succ]
                refine wpAnyH_ready (rs := [5]) (by kernel_rfl) (by simp) ?_
                refine (AllReadyH.cons rfl (fun K hK => ?_) AllReadyH.nil)
                obtain ⟨M, N, O, P, Q⟩ := info_parts Tryz.infoDecl
                have R : ∀ u ∈ DcN.cells (dcN d9), u.oneCell' = true := by simp [DcN.cells, Value.oneCell']
                refine if_wanted (by rfl) ?_
                refine oper_append_mk _ _ _ rfl (avd_ok pzD) DcN.len5 rfl em.out.b (show Avd (Own I) PzD _ _ _ from pzD.weaken fr.out (fun b hb => ⟨⟨by omega, hb.2, fun e => by have := bw b e.symm; omega⟩, fun e => by have := bv b e; omega⟩)) M _ 48 Tryz.underlying65 N O P Q rfl (by omega) (by omega) (by omega) w1512.heap.size _ rfl i8.out R (Nat.le_trans cn en.out) ?_
                intro v9 w1515 hmk hgr hob
                have T := hI hmk
                have ac := hI hgr
                have a7 := hI hob
                clear hmk hgr hob N O P Q M R
                obtain ⟨l, o, U, _⟩ := T.out.lies (avd_ok pzD)
                obtain ⟨p, V⟩ := eX ((y ++ [dcN d9]).length)
                rw [← V] at U
                clear V
                subst U
                try simp only [Act.put, setIfInBounds_toArray]
                have dl := hI (env_row fp.out ac.out (fun b h => by have := z b h; omega))
                have dm := hI (grown_row fq.out ac.out (fun b h => by have := z b h; omega))
                have b4 := hI (cs.out.grown ac.out (fun e => by have := z _ e.symm; omega))
                have bl := hI (el.out.grown ac.out (fun e => by have := z _ e.symm; omega))
                have dn := hI ((Mk2.pushed pzD em.out.swap T.out ac.out a7.out).swap)
                have dp := hI (Nat.le_trans en.out ac.out.size)
                clear hHeld
                refine hK.out _ _ ?_ (fun hHeld => ?_)
                case refine_1 => exact b4.out.cell 0
                clear hK K
                try simp only [setIfInBounds_toArray, set_cons_zero, set_cons_succ]
                refine tkY 6 rfl (v := ?_) (.inl ⟨by rfl, ?_⟩) ?_
                case refine_2 => intro w9 hSw; (try dsimp only at hSw); go_simp; (try with_reducible rfl)
                try simp only [Act.put, setIfInBounds_toArray, set_cons_zero, set_cons_succ, getElem_toArray, getElem_cons_zero, getElem_cons_succ]
                refine wpAnyH_ready (rs := [7]) (by kernel_rfl) (by simp) ?_
                refine (AllReadyH.cons rfl (fun K hK => ?_) AllReadyH.nil)
                obtain ⟨aq, ar, au, av, aw, ax, ay, az, a0, a1⟩ := bl.out.all5
                go_simp
                rw [pst_5_1 bl.out]
                clear aq ar au av aw ax ay az a0 a1
                have b5 := hI (dl.out.far (r := i) (fun e => W.out (by rw [e])) (Nat.le_trans be (Nat.le_of_lt aa)) 68 #[I, .slice l p o, .slice none 0 0, .int .i64 0, .int .i64 0])
                have b6 := hI (grown_new dm.out (Nat.le_of_lt aa) 68 #[I, .slice l p o, .slice none 0 0, .int .i64 0, .int .i64 0])
                have bm := hI (b4.out.far (g' := i) (t' := 68) (by omega) #[I, .slice l p o, .slice none 0 0, .int .i64 0, .int .i64 0])
                have b7 := hI (dn.out.moved pzD pzD (.inr ⟨i, rfl, by omega⟩) (putB_grown w1515 i 68 #[I, .slice l p o, .slice none 0 0, .int .i64 0, .int .i64 0]))
                have dq := hI (show wr.heap.size ≤ (putB w1515 i 68 #[I, .slice l p o, .slice none 0 0, .int .i64 0, .int .i64 0]).heap.size by rw [putB_size]; exact dp.out)
                have b8 := hI (bl.out.put #[I, .slice l p o, .slice none 0 0, .int .i64 0, .int .i64 0])
                obtain ⟨hd, j⟩ := eX (putB w1515 (i) 68 #[I, .slice l p o, .slice none 0 0, .int .i64 0, .int .i64 0])
                try rw [← j] at b5
                try rw [← j] at b6
                try rw [← j] at bm
                try rw [← j] at b7
                try rw [← j] at dq
                try rw [← j] at b8
                rw [← j]
                clear j hHeld
                refine hK.out _ _ ?_ (fun hHeld => ?_)
                case refine_1 => exact bm.out.cell 0
                clear hK K
                try simp only [setIfInBounds_toArray, set_cons_zero, set_cons_succ]
                refine wpAnyH_done (by kernel_rfl) ?_ _
                go_wp2_with fail
                go_roundg fu
                case measure => omega
                case rel => exact ⟨k9, q, y ++ [dcN d9], I, .slice l p o, hI (by rw [fk.out, List.map_append]; rfl), by omega, by omega, by omega, by rw [List.length_append]; show y.length + 1 ≤ _; omega, b5, b6, bm, b8, b7⟩
        | false =>
          rw [hb63] at df
          have ep := hI (show Z = (modesP nameP ts (ts.length + 1) Y []).bind fun ms k12 => (wantP ts true kTime k12).bind fun _ k13 => (valP ts k13).bind fun tm k14 => (wantP ts false [59] k14).bind fun _ k15 => .ok ⟨q.map DcN.pl, y.map DcN.pl, ms, tm⟩ k15 by rw [HQ.out, declsP, eg, if_neg (by decide), hb63, if_neg (by decide)]; rfl)
          clear hb63
          go_wp2_with fail
          refine df.out.mono ?_
          rintro e wa63 ⟨rfl, HGa63, HVa63⟩
          simp only [Bool.false_eq_true, if_false] at HVa63
          have eh := hI (grown_tr cz.out HGa63.out)
          have fj := hI (d8.out.grown HGa63.out a3.out)
          have dg := hI (c0.out.grown HGa63.out W.out)
          have ei := hI (grown_tr c1.out HGa63.out)
          have dr := hI (cm.out.moved pzD pzD (.inr ⟨g, rfl, by omega⟩) ei.out)
          obtain ⟨D, E, F, G, i9, ja, hk, hm⟩ := dr.out.lies pzD pzD
          obtain ⟨lo, ho⟩ := eX (wa63.heap.size)
          have kk : i + 1 ≤ lo := by rw [ho]; exact dg.out.lt
          have fz := hI (hk.lt pzD)
          have f0 := hI (hm.lt pzD)
          rw [← ho] at fz f0
          clear hk hm dr cm bv bw eg
          subst i9 ja
          go_wp2_with fail
          go_loopg [] (ts.length + 1) (fun fu wr => ∃ (k6 : Nat) (ms : List MdN) (mv : Value), Hid (Z = (modesP nameP ts fu k6 (ms.map MdN.pl)).bind fun ms k12 => (wantP ts true kTime k12).bind fun _ k13 => (valP ts k13).bind fun tm k14 => (wantP ts false [59] k14).bind fun _ k15 => .ok ⟨q.map DcN.pl, y.map DcN.pl, ms, tm⟩ k15) ∧ k6 ≤ ts.length ∧ ts.length < fu + k6 ∧ ms.length ≤ k6 ∧ Hid (Env w0 g A len cap ts k6 0 wr) ∧ Hid (w.grownBy wr (some g)) ∧ Hid (Blk wr w.heap.size 68 #[.slice none 0 0, .slice none 0 0, .slice none 0 0, .int .i64 0, .int .i64 0]) ∧ Hid (Blk wr i 68 #[.slice D q.length E, .slice F y.length G, mv, .int .i64 0, .int .i64 0]) ∧ Hid (Mk 74 3 MdN.cells PzM lo wr mv ms) ∧ Hid (LiL 5 DcN.cells PzD (fun b => i + 1 ≤ b ∧ b < lo) wr D q.length E q) ∧ Hid (LiL 5 DcN.cells PzD (fun b => i + 1 ≤ b ∧ b < lo) wr F y.length G y) ∧ lo ≤ wr.heap.size)
          case atStart => exact ⟨Y, [], .slice none 0 0, ep, by omega, by omega, by simp, HVa63, eh, fj, dg, hI (Mk.nil _ _ _ _ _ _), fz, f0, by omega⟩
          case round =>
            clear fz f0
            obtain ⟨k6, ms, mv, hp, kl, km, kn, jb, hq, hr, f1, eq, ht, hu, cu⟩ := hrel
            cases gk with
            | zero => exfalso; omega
            | succ fu =>
              have hv := hI (World.grownBy.refl wr (some g))
              have ko : i < wr.heap.size := f1.out.lt
              have ds : ∀ kb, mv.ownBlock = some kb → lo ≤ kb ∧ kb < wr.heap.size := fun kb h => eq.out.own.lt kb h
              have dt := hI (pAccept jb.out (by omega) ⟨#[109, 111, 100, 101]⟩)
              rw [show kwP (⟨#[109, 111, 100, 101]⟩ : ByteArray).data.toList = true by decide, show (⟨#[109, 111, 100, 101]⟩ : ByteArray).data.toList = kMode from rfl] at dt
              cases hb81 : isS true ts k6 kMode with
              | true =>
                have kp := isS_lt hb81
                rw [hb81] at dt
                have bx := hI (show Z = (modeP nameP ts (k6 + 1)).bind fun x k9 => (modesP nameP ts fu k9 (ms.map MdN.pl ++ [x])).bind fun ms k12 => (wantP ts true kTime k12).bind fun _ k13 => (valP ts k13).bind fun tm k14 => (wantP ts false [59] k14).bind fun _ k15 => .ok ⟨q.map DcN.pl, y.map DcN.pl, ms, tm⟩ k15 by rw [hp.out, modesP, hb81, if_pos rfl]; exact bind_assoc' _ _ _)
                clear hb81
                go_wp2_with fail
                refine dt.out.mono ?_
                rintro e wa81 ⟨rfl, HGa81, HVa81⟩
                simp only [if_true] at HVa81
                have du := hI (grown_tr hq.out HGa81.out)
                have f2 := hI (hr.out.grown HGa81.out a3.out)
                have es := hI (f1.out.grown HGa81.out W.out)
                have b9 := hI (grown_tr hv.out HGa81.out)
                have c2 := hI (eq.out.moved pzM (.inr ⟨g, rfl, by omega⟩) b9.out)
                have c3 := hI (show wr.heap.size ≤ wa81.heap.size from b9.out.size)
                have z : ∀ b, mv.ownBlock = some b → lo ≤ b := fun b h => (ds b h).1
                have jc := hI (ht.out.mv pzD (fun b hb e => by injection e with e; omega) b9.out)
                have jd := hI (hu.out.mv pzD (fun b hb e => by injection e with e; omega) b9.out)
                go_upto_region 7 with (fail)
                obtain ⟨ln, co, er, L⟩ | ⟨x, k9, L⟩ := pr_cases (mode_no (nm := nameP) (ts := ts) (k6 + 1))
                · have HE := hI (show Z = .bad ln co er by rw [bx.out, L] <;> rfl)
                  have H := hI (fun (w' : World) (h' : Env w0 g A len cap ts (k6 + 1) 0 w') => by have h9 := pMode h' (by omega) hR hX hD; rw [L] at h9; exact h9)
                  clear L
                  have et := hI (below_dr wa81)
                  have hy := hI (HVa81.out.belowW et.out)
                  have hz := hI (grown_tr du.out (grown_of (some g) et.out))
                  have cv := hI (es.out.belowW et.out)
                  refine wp_region_held_drew (S := fun w' => w'.cell? ⟨i, 0, none⟩ = some (.slice D q.length E) ∧ w'.cell? ⟨i, 1, none⟩ = some (.slice F y.length G) ∧ w'.cell? ⟨i, 2, none⟩ = some (mv) ∧ w'.cell? ⟨i, 3, none⟩ = some (.int .i64 0) ∧ w'.cell? ⟨i, 4, none⟩ = some (.int .i64 0)) (by kernel_rfl) ?_ (fun hHeld => ?_)
                  case refine_1 => exact ⟨cv.out.cell 0, cv.out.cell 1, cv.out.cell 2, cv.out.cell 3, cv.out.cell 4⟩
                  obtain ⟨je, af⟩ := eX (wa81.drew)
                  rw [← af] at et hy hz cv hHeld ⊢
                  clear af
                  refine tkY 0 rfl (v := ?_) (.inl ⟨by rfl, ?_⟩) ?_
                  case refine_2 => intro w9 hSw; (try dsimp only at hSw); go_simp; (try with_reducible rfl)
                  try simp only [Act.put, setIfInBounds_toArray, set_cons_zero, set_cons_succ, getElem_toArray, getElem_cons_zero]
                  refine tkY 1 rfl (v := ?_) (.inl ⟨by rfl, ?_⟩) ?_
                  case refine_2 => intro w9 hSw; (try dsimp only at hSw); go_simp; (try with_reducible rfl)
                  try simp only [Act.put, setIfInBounds_toArray, set_cons_zero, set_cons_succ, getElem_toArray, getElem_cons_zero, getElem_cons_succ]
                  refine tkY 2 rfl (v := ?_) (.inl ⟨by rfl, ?_⟩) ?_
                  case refine_2 => intro w9 hSw; (try dsimp only at hSw); go_simp; (try with_reducible rfl)
                  try simp only [Act.put, setIfInBounds_toArray, set_cons_zero, set_cons_succ, getElem_toArray, getElem_cons_zero, getElem_cons_succ]
                  refine wpAnyH_ready (rs := [3]) (by kernel_rfl) (by simp) ?_
                  refine (AllReadyH.cons rfl (fun K hK => ?_) AllReadyH.nil)
                  go_simp
                  (with_reducible refine (H.out je hy.out).mono ?_)
                  rintro e w1862 ⟨rfl, HG9⟩
                  clear hHeld
                  go_wp2_with fail
                  rw [HE.out]
                  exact ⟨rfl, prp_bad (hI (grown_tr hz.out HG9.out))⟩
                · have jf := (mode_fw (nm := nameP) (ts := ts) (k6 + 1)) _ _ L
                  have cw := hI (show Z = (modesP nameP ts fu k9 (ms.map MdN.pl ++ [x])).bind fun ms k12 => (wantP ts true kTime k12).bind fun _ k13 => (valP ts k13).bind fun tm k14 => (wantP ts false [59] k14).bind fun _ k15 => .ok ⟨q.map DcN.pl, y.map DcN.pl, ms, tm⟩ k15 by rw [bx.out, L] <;> rfl)
                  have H := hI (fun (w' : World) (h' : Env w0 g A len cap ts (k6 + 1) 0 w') => by have h9 := pMode h' (by omega) hR hX hD; rw [L] at h9; exact h9)
                  clear L
                  have bt := hI (below_dr wa81)
                  have f3 := hI (HVa81.out.belowW bt.out)
                  have f4 := hI (grown_tr du.out (grown_of (some g) bt.out))
                  have dv := hI (f2.out.belowW bt.out)
                  have eu := hI (es.out.belowW bt.out)
                  have f5 := hI (c2.out.belowW pzM bt.out)
                  have dw := hI (Nat.le_trans c3.out bt.out.size)
                  have f6 := hI (jc.out.mv pzD (fun b hb e => by cases e) (grown_none (Nat.le_refl _) bt.out))
                  have f7 := hI (jd.out.mv pzD (fun b hb e => by cases e) (grown_none (Nat.le_refl _) bt.out))
                  refine wp_region_held_drew (S := fun w' => w'.cell? ⟨w.heap.size, 0, none⟩ = some (.slice none 0 0)) (by kernel_rfl) ?_ (fun hHeld => ?_)
                  case refine_1 => exact dv.out.cell 0
                  obtain ⟨h0, af⟩ := eX (wa81.drew)
                  rw [← af] at bt f3 f4 dv eu f5 dw f6 f7 hHeld ⊢
                  clear af
                  refine tkY 0 rfl (v := ?_) (.inl ⟨by rfl, ?_⟩) ?_
                  case refine_2 => intro w9 hSw; (try dsimp only at hSw); go_simp; (try with_reducible rfl)
                  try simp only [Act.put, setIfInBounds_toArray, set_cons_zero, set_cons_succ, getElem_toArray, getElem_cons_zero]
                  refine tkY 2 rfl (v := ?_) (.inl ⟨by rfl, ?_⟩) ?_
                  case refine_2 => intro w9 hSw; (try dsimp only at hSw); go_simp; (try with_reducible rfl)
                  try simp only [Act.put, setIfInBounds_toArray, set_cons_zero, set_cons_succ, getElem_toArray, getElem_cons_zero, getElem_cons_succ]
                  refine wpAnyH_ready (rs := [1, 3]) (by kernel_rfl) (by simp) ?_
                  refine (AllReadyH.cons rfl (fun K hK => ?_) (AllReadyH.cons rfl (fun K hK => ?_) AllReadyH.nil))
                  · obtain ⟨ag, ah, ai, aj, ak, al, am, an, ao, ap⟩ := eu.out.all5
                    go_simp
                    clear ag ah ai aj ak al am an ao ap
                    clear hHeld
                    refine hK.out _ _ ?_ (fun hHeld => ?_)
                    case refine_1 => exact dv.out.cell 0
                    clear hK K
                    try simp only [setIfInBounds_toArray, set_cons_zero, set_cons_succ]
                    refine wpAnyH_ready (rs := [3]) (by kernel_rfl) (by simp) ?_
                    refine (AllReadyH.cons rfl (fun K hK => ?_) AllReadyH.nil)
                    go_simp
                    (with_reducible refine (H.out h0 f3.out).mono ?_)
                    rintro e bd ⟨⟨x9, rfl, hpl9, a8⟩, a2, HV9⟩
                    have f8 := hI (HV9.out)
                    have f9 := hI (grown_tr f4.out a2.out)
                    have cx := hI (dv.out.grown a2.out a3.out)
                    have ev := hI (eu.out.grown a2.out W.out)
                    have ga := hI (f5.out.moved pzM (.inr ⟨g, rfl, by omega⟩) a2.out)
                    have ew := hI (Nat.le_trans dw.out a2.out.size)
                    have gb := hI (f6.out.mv pzD (fun b hb e => by injection e with e; omega) a2.out)
                    have gc := hI (f7.out.mv pzD (fun b hb e => by injection e with e; omega) a2.out)
                    have gd := hI (show PzM (fun b => wr.heap.size ≤ b ∧ b < bd.heap.size) bd (x9) from pzM.weaken (pzM.lt a8.out) (fun b hb => ⟨Nat.le_trans dw.out hb.1, hb.2⟩))
                    have ex := hI hpl9
                    clear hpl9
                    go_wp2_with fail
                    clear hHeld
                    refine hK.out _ _ ?_ (fun hHeld => ?_)
                    case refine_1 => exact cx.out.cell 0
                    clear hK K
                    try simp only [setIfInBounds_toArray, set_cons_zero, set_cons_succ]
                    refine wpAnyH_ready (rs := [4]) (by kernel_rfl) (by simp) ?_
                    refine (AllReadyH.cons rfl (fun K hK => ?_) AllReadyH.nil)
                    go_simp
                    obtain ⟨bu, C⟩ := eX (bd.alloc (Obj.cells #[.string x9.s, .slice x9.A x9.n x9.c, .slice x9.B x9.m x9.d] 74))
                    have ad := hI (show Below bd.heap.size bd bu by rw [C]; exact below_box _ _)
                    have ge := hI (f8.out.belowW ad.out)
                    have gf := hI (grown_tr f9.out (grown_of (some g) ad.out))
                    have dx := hI (cx.out.belowW ad.out)
                    have gg := hI (ev.out.belowW ad.out)
                    have gh := hI (ga.out.belowW pzM ad.out)
                    have dy := hI (Nat.le_trans ew.out ad.out.size)
                    have gi := hI (gb.out.mv pzD (fun b hb e => by cases e) (grown_none (Nat.le_refl _) ad.out))
                    have gj := hI (gc.out.mv pzD (fun b hb e => by cases e) (grown_none (Nat.le_refl _) ad.out))
                    have gm := hI (show PzM (fun b => wr.heap.size ≤ b ∧ b < bu.heap.size) bu (x9) from pzM.weaken (pzM.lt (pzM.mv gd.out (fun b hb e => by cases e) (grown_none (Nat.le_refl _) ad.out))) (fun b hb => ⟨hb.1.1, hb.2⟩))
                    have gn := hI (show Blk bu bd.heap.size 74 (MdN.cells (x9)).toArray by rw [C]; exact Blk.new _ _ _)
                    rw [← C]
                    clear C
                    clear hHeld
                    refine hK.out _ _ ?_ (fun hHeld => ?_)
                    case refine_1 => exact dx.out.cell 0
                    clear hK K
                    try simp only [setIfInBounds_toArray, set_cons_zero, set_cons_succ]
                    refine wpAnyH_ready (rs := [5]) (by kernel_rfl) (by simp) ?_
                    refine (AllReadyH.cons rfl (fun K hK => ?_) AllReadyH.nil)
                    obtain ⟨M, N, O, P, Q⟩ := info_parts Tryz.infoMode
                    have R : ∀ u ∈ MdN.cells (x9), u.oneCell' = true := by simp [MdN.cells, Value.oneCell']
                    refine if_wanted (by rfl) ?_
                    refine oper_append_mk _ _ _ rfl pzM MdN.len3 rfl gh.out (pzM.weaken gm.out (fun b hb => ⟨by omega, hb.2, fun e => by have := ds b e.symm; omega⟩)) M _ 64 Tryz.underlying66 N O P Q rfl (by omega) (by omega) (by omega) bd.heap.size _ rfl gn.out R (Nat.le_trans cu dy.out) ?_
                    intro v9 w1875 hmk hgr hob
                    have T := hI hmk
                    have X := hI hgr
                    have a7 := hI hob
                    clear hmk hgr hob N O P Q M R
                    obtain ⟨l, o, U, _⟩ := T.out.lies pzM
                    obtain ⟨p, V⟩ := eX ((ms ++ [x9]).length)
                    rw [← V] at U
                    clear V
                    subst U
                    try simp only [Act.put, setIfInBounds_toArray]
                    have dz := hI (env_row ge.out X.out (fun b h => by have := z b h; omega))
                    have d0 := hI (grown_row gf.out X.out (fun b h => by have := z b h; omega))
                    have ca := hI (dx.out.grown X.out (fun e => by have := z _ e.symm; omega))
                    have bn := hI (gg.out.grown X.out (fun e => by have := z _ e.symm; omega))
                    have d1 := hI (T.out)
                    have d2 := hI (Nat.le_trans dy.out X.out.size)
                    have d3 := hI (gi.out.mv pzD (fun b hb e => by have := z b e.symm; omega) X.out)
                    have d4 := hI (gj.out.mv pzD (fun b hb e => by have := z b e.symm; omega) X.out)
                    clear hHeld
                    refine hK.out _ _ ?_ (fun hHeld => ?_)
                    case refine_1 => exact ca.out.cell 0
                    clear hK K
                    try simp only [setIfInBounds_toArray, set_cons_zero, set_cons_succ]
                    refine tkY 6 rfl (v := ?_) (.inl ⟨by rfl, ?_⟩) ?_
                    case refine_2 => intro w9 hSw; (try dsimp only at hSw); go_simp; (try with_reducible rfl)
                    try simp only [Act.put, setIfInBounds_toArray, set_cons_zero, set_cons_succ, getElem_toArray, getElem_cons_zero, getElem_cons_succ]
                    refine wpAnyH_ready (rs := [7]) (by kernel_rfl) (by simp) ?_
                    refine (AllReadyH.cons rfl (fun K hK => ?_) AllReadyH.nil)
                    obtain ⟨aq, ar, au, av, aw, ax, ay, az, a0, a1⟩ := bn.out.all5
                    go_simp
                    rw [pst_5_2 bn.out]
                    clear aq ar au av aw ax ay az a0 a1
                    have cb := hI (dz.out.far (r := i) (fun e => W.out (by rw [e])) (Nat.le_trans be (Nat.le_of_lt aa)) 68 #[.slice D q.length E, .slice F y.length G, .slice l p o, .int .i64 0, .int .i64 0])
                    have cc := hI (grown_new d0.out (Nat.le_of_lt aa) 68 #[.slice D q.length E, .slice F y.length G, .slice l p o, .int .i64 0, .int .i64 0])
                    have bo := hI (ca.out.far (g' := i) (t' := 68) (by omega) #[.slice D q.length E, .slice F y.length G, .slice l p o, .int .i64 0, .int .i64 0])
                    have cd := hI (d1.out.moved pzM (.inr ⟨i, rfl, by omega⟩) (putB_grown w1875 i 68 #[.slice D q.length E, .slice F y.length G, .slice l p o, .int .i64 0, .int .i64 0]))
                    have ce := hI (show wr.heap.size ≤ (putB w1875 i 68 #[.slice D q.length E, .slice F y.length G, .slice l p o, .int .i64 0, .int .i64 0]).heap.size by rw [putB_size]; exact d2.out)
                    have cf := hI (d3.out.mv pzD (r := some i) (fun b hb e => by injection e with e; omega) (putB_grown w1875 i 68 #[.slice D q.length E, .slice F y.length G, .slice l p o, .int .i64 0, .int .i64 0]))
                    have cg := hI (d4.out.mv pzD (r := some i) (fun b hb e => by injection e with e; omega) (putB_grown w1875 i 68 #[.slice D q.length E, .slice F y.length G, .slice l p o, .int .i64 0, .int .i64 0]))
                    have ch := hI (bn.out.put #[.slice D q.length E, .slice F y.length G, .slice l p o, .int .i64 0, .int .i64 0])
                    obtain ⟨h1, j⟩ := eX (putB w1875 (i) 68 #[.slice D q.length E, .slice F y.length G, .slice l p o, .int .i64 0, .int .i64 0])
                    try rw [← j] at cb
                    try rw [← j] at cc
                    try rw [← j] at bo
                    try rw [← j] at cd
                    try rw [← j] at ce
                    try rw [← j] at cf
                    try rw [← j] at cg
                    try rw [← j] at ch
                    rw [← j]
                    clear j hHeld
                    refine hK.out _ _ ?_ (fun hHeld => ?_)
                    case refine_1 => exact bo.out.cell 0
                    clear hK K
                    try simp only [setIfInBounds_toArray, set_cons_zero, set_cons_succ]
                    refine wpAnyH_done (by kernel_rfl) ?_ _
                    go_wp2_with fail
                    go_roundg fu
                    case measure => omega
                    case rel => exact ⟨k9, ms ++ [x9], .slice l p o, hI (by rw [cw.out, List.map_append, ← ex.out]; rfl), by omega, by omega, by rw [List.length_append]; show ms.length + 1 ≤ _; omega, cb, cc, bo, ch, cd, cf, cg, Nat.le_trans cu ce.out⟩
                  · go_simp
                    (with_reducible refine (H.out h0 f3.out).mono ?_)
                    rintro e w1872 ⟨⟨x9, rfl, hpl9, a8⟩, HC1872, HV9⟩
                    have h2 := hI (HV9.out)
                    have h3 := hI (grown_tr f4.out HC1872.out)
                    have ey := hI (dv.out.grown HC1872.out a3.out)
                    have go := hI (eu.out.grown HC1872.out W.out)
                    have h4 := hI (f5.out.moved pzM (.inr ⟨g, rfl, by omega⟩) HC1872.out)
                    have h5 := hI (Nat.le_trans dw.out HC1872.out.size)
                    have h6 := hI (f6.out.mv pzD (fun b hb e => by injection e with e; omega) HC1872.out)
                    have h7 := hI (f7.out.mv pzD (fun b hb e => by injection e with e; omega) HC1872.out)
                    have h8 := hI (show PzM (fun b => wr.heap.size ≤ b ∧ b < w1872.heap.size) w1872 (x9) from pzM.weaken (pzM.lt a8.out) (fun b hb => ⟨Nat.le_trans dw.out hb.1, hb.2⟩))
                    have ex := hI hpl9
                    clear hpl9
                    go_wp2_with fail
                    clear hHeld
                    refine hK.out _ _ ?_ (fun hHeld => ?_)
                    case refine_1 => exact ey.out.cell 0
                    clear hK K
                    try simp only [setIfInBounds_toArray, set_cons_zero, set_cons_succ]
                    refine wpAnyH_ready (rs := [1, 4]) (by kernel_rfl) (by simp) ?_
                    refine (AllReadyH.cons rfl (fun K hK => ?_) (AllReadyH.cons rfl (fun K hK => ?_) AllReadyH.nil))
                    · obtain ⟨ag, ah, ai, aj, ak, al, am, an, ao, ap⟩ := go.out.all5
                      go_simp
                      clear ag ah ai aj ak al am an ao ap
                      clear hHeld
                      refine hK.out _ _ ?_ (fun hHeld => ?_)
                      case refine_1 => exact ey.out.cell 0
                      clear hK K
                      try simp only [setIfInBounds_toArray, set_cons_zero, set_cons_succ]
                      refine wpAnyH_ready (rs := [4]) (by kernel_rfl) (by simp) ?_
                      refine (AllReadyH.cons rfl (fun K hK => ?_) AllReadyH.nil)
                      go_simp
                      obtain ⟨bu, C⟩ := eX (w1872.alloc (Obj.cells #[.string x9.s, .slice x9.A x9.n x9.c, .slice x9.B x9.m x9.d] 74))
                      have ad := hI (show Below w1872.heap.size w1872 bu by rw [C]; exact below_box _ _)
                      have ge := hI (h2.out.belowW ad.out)
                      have gf := hI (grown_tr h3.out (grown_of (some g) ad.out))
                      have dx := hI (ey.out.belowW ad.out)
                      have gg := hI (go.out.belowW ad.out)
                      have gh := hI (h4.out.belowW pzM ad.out)
                      have dy := hI (Nat.le_trans h5.out ad.out.size)
                      have gi := hI (h6.out.mv pzD (fun b hb e => by cases e) (grown_none (Nat.le_refl _) ad.out))
                      have gj := hI (h7.out.mv pzD (fun b hb e => by cases e) (grown_none (Nat.le_refl _) ad.out))
                      have gm := hI (show PzM (fun b => wr.heap.size ≤ b ∧ b < bu.heap.size) bu (x9) from pzM.weaken (pzM.lt (pzM.mv h8.out (fun b hb e => by cases e) (grown_none (Nat.le_refl _) ad.out))) (fun b hb => ⟨hb.1.1, hb.2⟩))
                      have gn := hI (show Blk bu w1872.heap.size 74 (MdN.cells (x9)).toArray by rw [C]; exact Blk.new _ _ _)
                      rw [← C]
                      clear C
                      clear hHeld
                      refine hK.out _ _ ?_ (fun hHeld => ?_)
                      case refine_1 => exact dx.out.cell 0
                      clear hK K
                      try simp only [setIfInBounds_toArray, set_cons_zero, set_cons_succ]
                      refine wpAnyH_ready (rs := [5]) (by kernel_rfl) (by simp) ?_
                      refine (AllReadyH.cons rfl (fun K hK => ?_) AllReadyH.nil)
                      obtain ⟨M, N, O, P, Q⟩ := info_parts Tryz.infoMode
                      have R : ∀ u ∈ MdN.cells (x9), u.oneCell' = true := by simp [MdN.cells, Value.oneCell']
                      refine if_wanted (by rfl) ?_
                      refine oper_append_mk _ _ _ rfl pzM MdN.len3 rfl gh.out (pzM.weaken gm.out (fun b hb => ⟨by omega, hb.2, fun e => by have := ds b e.symm; omega⟩)) M _ 64 Tryz.underlying66 N O P Q rfl (by omega) (by omega) (by omega) w1872.heap.size _ rfl gn.out R (Nat.le_trans cu dy.out) ?_
                      intro v9 w1875 hmk hgr hob
                      have T := hI hmk
                      have X := hI hgr
                      have a7 := hI hob
                      clear hmk hgr hob N O P Q M R
                      obtain ⟨l, o, U, _⟩ := T.out.lies pzM
                      obtain ⟨p, V⟩ := eX ((ms ++ [x9]).length)
                      rw [← V] at U
                      clear V
                      subst U
                      try simp only [Act.put, setIfInBounds_toArray]
                      have dz := hI (env_row ge.out X.out (fun b h => by have := z b h; omega))
                      have d0 := hI (grown_row gf.out X.out (fun b h => by have := z b h; omega))
                      have ca := hI (dx.out.grown X.out (fun e => by have := z _ e.symm; omega))
                      have bn := hI (gg.out.grown X.out (fun e => by have := z _ e.symm; omega))
                      have d1 := hI (T.out)
                      have d2 := hI (Nat.le_trans dy.out X.out.size)
                      have d3 := hI (gi.out.mv pzD (fun b hb e => by have := z b e.symm; omega) X.out)
                      have d4 := hI (gj.out.mv pzD (fun b hb e => by have := z b e.symm; omega) X.out)
                      clear hHeld
                      refine hK.out _ _ ?_ (fun hHeld => ?_)
                      case refine_1 => exact ca.out.cell 0
                      clear hK K
                      try simp only [setIfInBounds_toArray, set_cons_zero, set_cons_succ]
                      refine tkY 6 rfl (v := ?_) (.inl ⟨by rfl, ?_⟩) ?_
                      case refine_2 => intro w9 hSw; (try dsimp only at hSw); go_simp; (try with_reducible rfl)
                      try simp only [Act.put, setIfInBounds_toArray, set_cons_zero, set_cons_succ, getElem_toArray, getElem_cons_zero, getElem_cons_succ]
                      refine wpAnyH_ready (rs := [7]) (by kernel_rfl) (by simp) ?_
                      refine (AllReadyH.cons rfl (fun K hK => ?_) AllReadyH.nil)
                      obtain ⟨aq, ar, au, av, aw, ax, ay, az, a0, a1⟩ := bn.out.all5
                      go_simp
                      rw [pst_5_2 bn.out]
                      clear aq ar au av aw ax ay az a0 a1
                      have cb := hI (dz.out.far (r := i) (fun e => W.out (by rw [e])) (Nat.le_trans be (Nat.le_of_lt aa)) 68 #[.slice D q.length E, .slice F y.length G, .slice l p o, .int .i64 0, .int .i64 0])
                      have cc := hI (grown_new d0.out (Nat.le_of_lt aa) 68 #[.slice D q.length E, .slice F y.length G, .slice l p o, .int .i64 0, .int .i64 0])
                      have bo := hI (ca.out.far (g' := i) (t' := 68) (by omega) #[.slice D q.length E, .slice F y.length G, .slice l p o, .int .i64 0, .int .i64 0])
                      have cd := hI (d1.out.moved pzM (.inr ⟨i, rfl, by omega⟩) (putB_grown w1875 i 68 #[.slice D q.length E, .slice F y.length G, .slice l p o, .int .i64 0, .int .i64 0]))
                      have ce := hI (show wr.heap.size ≤ (putB w1875 i 68 #[.slice D q.length E, .slice F y.length G, .slice l p o, .int .i64 0, .int .i64 0]).heap.size by rw [putB_size]; exact d2.out)
                      have cf := hI (d3.out.mv pzD (r := some i) (fun b hb e => by injection e with e; omega) (putB_grown w1875 i 68 #[.slice D q.length E, .slice F y.length G, .slice l p o, .int .i64 0, .int .i64 0]))
                      have cg := hI (d4.out.mv pzD (r := some i) (fun b hb e => by injection e with e; omega) (putB_grown w1875 i 68 #[.slice D q.length E, .slice F y.length G, .slice l p o, .int .i64 0, .int .i64 0]))
                      have ch := hI (bn.out.put #[.slice D q.length E, .slice F y.length G, .slice l p o, .int .i64 0, .int .i64 0])
                      obtain ⟨h1, j⟩ := eX (putB w1875 (i) 68 #[.slice D q.length E, .slice F y.length G, .slice l p o, .int .i64 0, .int .i64 0])
                      try rw [← j] at cb
                      try rw [← j] at cc
                      try rw [← j] at bo
                      try rw [← j] at cd
                      try rw [← j] at ce
                      try rw [← j] at cf
                      try rw [← j] at cg
                      try rw [← j] at ch
                      rw [← j]
                      clear j hHeld
                      refine hK.out _ _ ?_ (fun hHeld => ?_)
                      case refine_1 => exact bo.out.cell 0
                      clear hK K
                      try simp only [setIfInBounds_toArray, set_cons_zero, set_cons_succ]
                      refine wpAnyH_done (by kernel_rfl) ?_ _
                      go_wp2_with fail
                      go_roundg fu
                      case measure => omega
                      case rel => exact ⟨k9, ms ++ [x9], .slice l p o, hI (by rw [cw.out, List.map_append, ← ex.out]; rfl), by omega, by omega, by rw [List.length_append]; show ms.length + 1 ≤ _; omega, cb, cc, bo, ch, cd, cf, cg, Nat.le_trans cu ce.out⟩
                    · go_simp
                      obtain ⟨bd, C⟩ := eX (w1872.alloc (Obj.cells #[.string x9.s, .slice x9.A x9.n x9.c, .slice x9.B x9.m x9.d] 74))
                      have a2 := hI (show Below w1872.heap.size w1872 bd by rw [C]; exact below_box _ _)
                      have f8 := hI (h2.out.belowW a2.out)
                      have f9 := hI (grown_tr h3.out (grown_of (some g) a2.out))
                      have cx := hI (ey.out.belowW a2.out)
                      have ev := hI (go.out.belowW a2.out)
                      have ga := hI (h4.out.belowW pzM a2.out)
                      have ew := hI (Nat.le_trans h5.out a2.out.size)
                      have gb := hI (h6.out.mv pzD (fun b hb e => by cases e) (grown_none (Nat.le_refl _) a2.out))
                      have gc := hI (h7.out.mv pzD (fun b hb e => by cases e) (grown_none (Nat.le_refl _) a2.out))
                      have gd := hI (show PzM (fun b => wr.heap.size ≤ b ∧ b < bd.heap.size) bd (x9) from pzM.weaken (pzM.lt (pzM.mv h8.out (fun b hb e => by cases e) (grown_none (Nat.le_refl _) a2.out))) (fun b hb => ⟨hb.1.1, hb.2⟩))
                      have jg := hI (show Blk bd w1872.heap.size 74 (MdN.cells (x9)).toArray by rw [C]; exact Blk.new _ _ _)
                      rw [← C]
                      clear C
                      clear hHeld
                      refine hK.out _ _ ?_ (fun hHeld => ?_)
                      case refine_1 => exact cx.out.cell 0
                      clear hK K
                      try simp only [setIfInBounds_toArray, set_cons_zero, set_cons_succ]
                      refine wpAnyH_ready (rs := [1]) (by kernel_rfl) (by simp) ?_
                      refine (AllReadyH.cons rfl (fun K hK => ?_) AllReadyH.nil)
                      obtain ⟨ag, ah, ai, aj, ak, al, am, an, ao, ap⟩ := ev.out.all5
                      go_simp
                      clear ag ah ai aj ak al am an ao ap
                      clear hHeld
                      refine hK.out _ _ ?_ (fun hHeld => ?_)
                      case refine_1 => exact cx.out.cell 0
                      clear hK K
                      try simp only [setIfInBounds_toArray, set_cons_zero, set_cons_succ]
                      refine wpAnyH_ready (rs := [5]) (by kernel_rfl) (by simp) ?_
                      refine (AllReadyH.cons rfl (fun K hK => ?_) AllReadyH.nil)
                      obtain ⟨M, N, O, P, Q⟩ := info_parts Tryz.infoMode
                      have R : ∀ u ∈ MdN.cells (x9), u.oneCell' = true := by simp [MdN.cells, Value.oneCell']
                      refine if_wanted (by rfl) ?_
                      refine oper_append_mk _ _ _ rfl pzM MdN.len3 rfl ga.out (pzM.weaken gd.out (fun b hb => ⟨by omega, hb.2, fun e => by have := ds b e.symm; omega⟩)) M _ 64 Tryz.underlying66 N O P Q rfl (by omega) (by omega) (by omega) w1872.heap.size _ rfl jg.out R (Nat.le_trans cu ew.out) ?_
                      intro v9 w1875 hmk hgr hob
                      have T := hI hmk
                      have X := hI hgr
                      have a7 := hI hob
                      clear hmk hgr hob N O P Q M R
                      obtain ⟨l, o, U, _⟩ := T.out.lies pzM
                      obtain ⟨p, V⟩ := eX ((ms ++ [x9]).length)
                      rw [← V] at U
                      clear V
                      subst U
                      try simp only [Act.put, setIfInBounds_toArray]
                      have dz := hI (env_row f8.out X.out (fun b h => by have := z b h; omega))
                      have d0 := hI (grown_row f9.out X.out (fun b h => by have := z b h; omega))
                      have ca := hI (cx.out.grown X.out (fun e => by have := z _ e.symm; omega))
                      have bn := hI (ev.out.grown X.out (fun e => by have := z _ e.symm; omega))
                      have d1 := hI (T.out)
                      have d2 := hI (Nat.le_trans ew.out X.out.size)
                      have d3 := hI (gb.out.mv pzD (fun b hb e => by have := z b e.symm; omega) X.out)
                      have d4 := hI (gc.out.mv pzD (fun b hb e => by have := z b e.symm; omega) X.out)
                      clear hHeld
                      refine hK.out _ _ ?_ (fun hHeld => ?_)
                      case refine_1 => exact ca.out.cell 0
                      clear hK K
                      try simp only [setIfInBounds_toArray, set_cons_zero, set_cons_succ]
                      refine tkY 6 rfl (v := ?_) (.inl ⟨by rfl, ?_⟩) ?_
                      case refine_2 => intro w9 hSw; (try dsimp only at hSw); go_simp; (try with_reducible rfl)
                      try simp only [Act.put, setIfInBounds_toArray, set_cons_zero, set_cons_succ, getElem_toArray, getElem_cons_zero, getElem_cons_succ]
                      refine wpAnyH_ready (rs := [7]) (by kernel_rfl) (by simp) ?_
                      refine (AllReadyH.cons rfl (fun K hK => ?_) AllReadyH.nil)
                      obtain ⟨aq, ar, au, av, aw, ax, ay, az, a0, a1⟩ := bn.out.all5
                      go_simp
                      rw [pst_5_2 bn.out]
                      clear aq ar au av aw ax ay az a0 a1
                      have cb := hI (dz.out.far (r := i) (fun e => W.out (by rw [e])) (Nat.le_trans be (Nat.le_of_lt aa)) 68 #[.slice D q.length E, .slice F y.length G, .slice l p o, .int .i64 0, .int .i64 0])
                      have cc := hI (grown_new d0.out (Nat.le_of_lt aa) 68 #[.slice D q.length E, .slice F y.length G, .slice l p o, .int .i64 0, .int .i64 0])
                      have bo := hI (ca.out.far (g' := i) (t' := 68) (by omega) #[.slice D q.length E, .slice F y.length G, .slice l p o, .int .i64 0, .int .i64 0])
                      have cd := hI (d1.out.moved pzM (.inr ⟨i, rfl, by omega⟩) (putB_grown w1875 i 68 #[.slice D q.length E, .slice F y.length G, .slice l p o, .int .i64 0, .int .i64 0]))
                      have ce := hI (show wr.heap.size ≤ (putB w1875 i 68 #[.slice D q.length E, .slice F y.length G, .slice l p o, .int .i64 0, .int .i64 0]).heap.size by rw [putB_size]; exact d2.out)
                      have cf := hI (d3.out.mv pzD (r := some i) (fun b hb e => by injection e with e; omega) (putB_grown w1875 i 68 #[.slice D q.length E, .slice F y.length G, .slice l p o, .int .i64 0, .int .i64 0]))
                      have cg := hI (d4.out.mv pzD (r := some i) (fun b hb e => by injection e with e; omega) (putB_grown w1875 i 68 #[.slice D q.length E, .slice F y.length G, .slice l p o, .int .i64 0, .int .i64 0]))
                      have ch := hI (bn.out.put #[.slice D q.length E, .slice F y.length G, .slice l p o, .int .i64 0, .int .i64 0])
                      obtain ⟨h1, j⟩ := eX (putB w1875 (i) 68 #[.slice D q.length E, .slice F y.length G, .slice l p o, .int .i64 0, .int .i64 0])
                      try rw [← j] at cb
                      try rw [← j] at cc
                      try rw [← j] at bo
                      try rw [← j] at cd
                      try rw [← j] at ce
                      try rw [← j] at cf
                      try rw [← j] at cg
                      try rw [← j] at ch
                      rw [← j]
                      clear j hHeld
                      refine hK.out _ _ ?_ (fun hHeld => ?_)
                      case refine_1 => exact bo.out.cell 0
                      clear hK K
                      try simp only [setIfInBounds_toArray, set_cons_zero, set_cons_succ]
                      refine wpAnyH_done (by kernel_rfl) ?_ _
                      go_wp2_with fail
                      go_roundg fu
                      case measure => omega
                      case rel => exact ⟨k9, ms ++ [x9], .slice l p o, hI (by rw [cw.out, List.map_append, ← ex.out]; rfl), by omega, by omega, by rw [List.length_append]; show ms.length + 1 ≤ _; omega, cb, cc, bo, ch, cd, cf, cg, Nat.le_trans cu ce.out⟩
              | false =>
                rw [hb81] at dt
                have ep := hI (show Z = (wantP ts true kTime k6).bind fun _ k13 => (valP ts k13).bind fun tm k14 => (wantP ts false [59] k14).bind fun _ k15 => .ok ⟨q.map DcN.pl, y.map DcN.pl, ms.map MdN.pl, tm⟩ k15 by rw [hp.out, modesP, hb81, if_neg (by decide)]; rfl)
                clear hb81
                go_wp2_with fail
                refine dt.out.mono ?_
                rintro e wa81 ⟨rfl, HGa81, HVa81⟩
                simp only [Bool.false_eq_true, if_false] at HVa81
                have du := hI (grown_tr hq.out HGa81.out)
                have f2 := hI (hr.out.grown HGa81.out a3.out)
                have es := hI (f1.out.grown HGa81.out W.out)
                have b9 := hI (grown_tr hv.out HGa81.out)
                have dr := hI (eq.out.moved pzM (.inr ⟨g, rfl, by omega⟩) b9.out)
                obtain ⟨C5, e5, jh, ia⟩ := dr.out.lies pzM
                have ji := hI ia
                have jj := hI (ht.out.mv pzD (fun b hb e => by injection e with e; omega) b9.out)
                have jk := hI (hu.out.mv pzD (fun b hb e => by injection e with e; omega) b9.out)
                clear ia dr eq ds
                subst jh
                have H := hI (pWant HVa81.out (by omega) kTime true (by decide))
                cases hn83 : wantP ts true kTime k6 with
                | out =>
                  rw [hn83] at H
                  clear hn83
                  go_wp2_with fail
                  refine H.out.mono ?_
                  rintro e w9 hx
                  exact hx.elim
                | bad ln co er =>
                  rw [hn83] at H
                  have HE := hI (show Z = .bad ln co er by rw [ep.out, hn83] <;> rfl)
                  clear hn83
                  go_wp2_with fail
                  refine H.out.mono ?_
                  rintro e w9 ⟨rfl, HG9⟩
                  go_wp2_with fail
                  rw [HE.out]
                  exact ⟨rfl, prp_bad (hI (grown_tr du.out HG9.out))⟩
                | ok u3 k13 =>
                  rw [hn83] at H
                  have jf := (want_fw (ts := ts) true kTime k6) _ _ hn83
                  have cw := hI (show Z = (valP ts k13).bind fun tm k14 => (wantP ts false [59] k14).bind fun _ k15 => .ok ⟨q.map DcN.pl, y.map DcN.pl, ms.map MdN.pl, tm⟩ k15 by rw [ep.out, hn83] <;> rfl)
                  clear hn83
                  go_wp2_with fail
                  refine H.out.mono ?_
                  rintro e wq83 ⟨hx, HGq83, HVq83⟩
                  cases hx
                  have ib := hI (grown_tr du.out HGq83.out)
                  have jl := hI (f2.out.grown HGq83.out a3.out)
                  have jm := hI (es.out.grown HGq83.out W.out)
                  have jn := hI (jj.out.mv pzD (fun b hb e => by injection e with e; omega) HGq83.out)
                  have jo := hI (jk.out.mv pzD (fun b hb e => by injection e with e; omega) HGq83.out)
                  have jp := hI (ji.out.mv pzM (fun b hb e => by injection e with e; omega) HGq83.out)
                  have H := hI (pValue HVq83.out (by omega) hR)
                  cases hn84 : valP ts k13 with
                  | out =>
                    rw [hn84] at H
                    clear hn84
                    go_wp2_with fail
                    refine H.out.mono ?_
                    rintro e w9 hx
                    exact hx.elim
                  | bad ln co er =>
                    rw [hn84] at H
                    have HE := hI (show Z = .bad ln co er by rw [cw.out, hn84] <;> rfl)
                    clear hn84
                    go_wp2_with fail
                    refine H.out.mono ?_
                    rintro e w9 ⟨rfl, HG9⟩
                    go_wp2_with fail
                    rw [HE.out]
                    exact ⟨rfl, prp_bad (hI (grown_tr ib.out HG9.out))⟩
                  | ok tm k14 =>
                    rw [hn84] at H
                    have kq := (val_fw (ts := ts) k13) _ _ hn84
                    have ic := hI (show Z = (wantP ts false [59] k14).bind fun _ k15 => .ok ⟨q.map DcN.pl, y.map DcN.pl, ms.map MdN.pl, tm⟩ k15 by rw [cw.out, hn84] <;> rfl)
                    obtain ⟨kr, ks, kt, ku⟩ := val_sm ts k13 tm k14 hn84
                    clear hn84
                    go_wp2_with fail
                    refine H.out.mono ?_
                    rintro e wq84 ⟨hx, HGq84, HVq84⟩
                    cases hx
                    have jq := hI (grown_tr ib.out HGq84.out)
                    have jr := hI (jl.out.grown HGq84.out a3.out)
                    have gp := hI (jm.out.grown HGq84.out W.out)
                    have js := hI (jn.out.mv pzD (fun b hb e => by injection e with e; omega) HGq84.out)
                    have jt := hI (jo.out.mv pzD (fun b hb e => by injection e with e; omega) HGq84.out)
                    have ju := hI (jp.out.mv pzM (fun b hb e => by injection e with e; omega) HGq84.out)
                    obtain ⟨id, ie, ig, ii, ij, ik, il, im, io, ip⟩ := gp.out.all5
                    go_upto_region 10 with (fail)
                    rw [pst34 gp.out]
                    have iq := hI (gp.out.put #[.slice D q.length E, .slice F y.length G, .slice C5 ms.length e5, .int .i64 tm.1, .int .i64 tm.2])
                    have gq := hI (grown_new jq.out (Nat.le_of_lt aa) 68 #[.slice D q.length E, .slice F y.length G, .slice C5 ms.length e5, .int .i64 tm.1, .int .i64 tm.2])
                    have ir := hI (HVq84.out.far (r := i) (fun e => W.out (by rw [e])) (Nat.le_trans be (Nat.le_of_lt aa)) 68 #[.slice D q.length E, .slice F y.length G, .slice C5 ms.length e5, .int .i64 tm.1, .int .i64 tm.2])
                    have is := hI (jr.out.far (g' := i) (t' := 68) (by omega) #[.slice D q.length E, .slice F y.length G, .slice C5 ms.length e5, .int .i64 tm.1, .int .i64 tm.2])
                    have it := hI (js.out.mv pzD (r := some i) (fun b hb e => by injection e with e; omega) (putB_grown wq84 i 68 #[.slice D q.length E, .slice F y.length G, .slice C5 ms.length e5, .int .i64 tm.1, .int .i64 tm.2]))
                    have iu := hI (jt.out.mv pzD (r := some i) (fun b hb e => by injection e with e; omega) (putB_grown wq84 i 68 #[.slice D q.length E, .slice F y.length G, .slice C5 ms.length e5, .int .i64 tm.1, .int .i64 tm.2]))
                    have iv := hI (ju.out.mv pzM (r := some i) (fun b hb e => by injection e with e; omega) (putB_grown wq84 i 68 #[.slice D q.length E, .slice F y.length G, .slice C5 ms.length e5, .int .i64 tm.1, .int .i64 tm.2]))
                    obtain ⟨jv, j⟩ := eX (putB wq84 i 68 #[.slice D q.length E, .slice F y.length G, .slice C5 ms.length e5, .int .i64 tm.1, .int .i64 tm.2])
                    have kv : wq84.heap.size ≤ jv.heap.size := by rw [j, putB_size]; exact Nat.le_refl _
                    rw [← j] at gq ir is iq it iu iv ⊢
                    clear j id ie ig ii ij ik il im io ip
                    have H := hI (pWant ir.out (by omega) [59] false (by decide))
                    cases hn86 : wantP ts false [59] k14 with
                    | out =>
                      rw [hn86] at H
                      clear hn86
                      go_wp2_with fail
                      refine H.out.mono ?_
                      rintro e w9 hx
                      exact hx.elim
                    | bad ln co er =>
                      rw [hn86] at H
                      have HE := hI (show Z = .bad ln co er by rw [ic.out, hn86] <;> rfl)
                      clear hn86
                      go_wp2_with fail
                      refine H.out.mono ?_
                      rintro e w9 ⟨rfl, HG9⟩
                      go_wp2_with fail
                      rw [HE.out]
                      exact ⟨rfl, prp_bad (hI (grown_tr gq.out HG9.out))⟩
                    | ok u5 k15 =>
                      rw [hn86] at H
                      have kw := (want_fw (ts := ts) false [59] k14) _ _ hn86
                      have jw := hI (show Z = .ok ⟨q.map DcN.pl, y.map DcN.pl, ms.map MdN.pl, tm⟩ k15 by rw [ic.out, hn86] <;> rfl)
                      clear hn86
                      go_wp2_with fail
                      refine H.out.mono ?_
                      rintro e wq86 ⟨hx, HGq86, HVq86⟩
                      cases hx
                      have jx := hI (grown_tr gq.out HGq86.out)
                      have gr := hI (is.out.grown HGq86.out a3.out)
                      have jy := hI (iq.out.grown HGq86.out W.out)
                      have jz := hI (it.out.mv pzD (fun b hb e => by injection e with e; omega) HGq86.out)
                      have j0 := hI (iu.out.mv pzD (fun b hb e => by injection e with e; omega) HGq86.out)
                      have j1 := hI (iv.out.mv pzM (fun b hb e => by injection e with e; omega) HGq86.out)
                      obtain ⟨kx, ky, kz, k0, k1, k2, k3, k4, k7, k8⟩ := gr.out.all5
                      obtain ⟨id, ie, ig, ii, ij, ik, il, im, io, ip⟩ := jy.out.all5
                      go_wp2_with fail
                      rw [pst5 gr.out]
                      have FZ := hI (gr.out.put #[.slice D q.length E, .slice F y.length G, .slice C5 ms.length e5, .int .i64 tm.1, .int .i64 tm.2])
                      obtain ⟨z0, _, z1, _, z2, _, z3, _, z4, _⟩ := FZ.out.all5
                      refine bodyPost_ret (v := .agg #[.slice D q.length E, .slice F y.length G, .slice C5 ms.length e5, .int .i64 tm.1, .int .i64 tm.2]) (by simp [results, Tryz.results69, go_sem, z0, z1, z2, z3, z4]) rfl ?_
                      rw [jw.out]
                      exact ⟨⟨⟨D, q.length, E, q, F, y.length, G, y, C5, ms.length, e5, ms, tm.1, tm.2⟩, rfl, rfl, hI ⟨((jz.out.mv pzD (r := some w.heap.size) (fun b hb e => by injection e with e; omega) (putB_grown _ _ _ _)).weaken pzD (fun b hb => by omega)), ((j0.out.mv pzD (r := some w.heap.size) (fun b hb e => by injection e with e; omega) (putB_grown _ _ _ _)).weaken pzD (fun b hb => by omega)), ((j1.out.mv pzM (r := some w.heap.size) (fun b hb e => by injection e with e; omega) (putB_grown _ _ _ _)).weaken pzM (fun b hb => by omega)), by show _ ≤ tm.1; omega, by show tm.1 ≤ _; omega, by show _ ≤ tm.2; omega, by show tm.2 ≤ _; omega⟩⟩, hI (grown_new jx.out (Nat.le_refl _) _ _), hI (HVq86.out.far ix be _ _)⟩
end Go.Proofs.YtkjoohnndobjeaaGreatDoor
