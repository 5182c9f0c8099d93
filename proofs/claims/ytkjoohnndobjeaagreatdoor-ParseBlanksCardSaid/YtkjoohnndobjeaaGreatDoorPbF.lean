/-
  The walk of the parser's problems.
-/
import Derived.Test.YtkjoohnndobjeaaGreatDoorPbE
set_option linter.unusedVariables false
set_option maxHeartbeats 4000000
set_option maxRecDepth 100000
namespace Go.Proofs.YtkjoohnndobjeaaGreatDoor
open Go.RowKit Go.Fl Go.Fl.Lx Go.Fl.Nm Go.Fl.Fm Go.Fl.Rt Go.Fl.Pa
open List (setIfInBounds_toArray set_cons_zero set_cons_succ getElem_toArray getElem_cons_zero getElem_cons_succ)
def AllR {α : Type} (P : α → Prop) (r : PR α) : Prop := ∀ a k, r = .ok a k → P a
theorem allR_bind {α β : Type} {Q : α → Prop} {P : β → Prop} {r : PR α} {f : α → Nat → PR β} (h1 : AllR Q r) (h2 : ∀ a k, Q a → AllR P (f a k)) : AllR P (r.bind f) := fun b k h => by
 cases r with
 | ok a k1 => exact h2 a k1 (h1 a k1 rfl) b k h
 | bad l c e => cases h
 | out => cases h
theorem allR_ok {α : Type} {P : α → Prop} {a : α} {k : Nat} (h : P a) : AllR P (.ok a k) := fun b k1 e => by
 injection e with e _
 rw [← e]
 exact h
theorem allR_any {α : Type} (r : PR α) : AllR (fun _ => True) r := fun _ _ _ => trivial
def Sm (a : Int × Int) : Prop := -4611686018427387904 ≤ a.1 ∧ a.1 ≤ 4611686018427387904 ∧ -4611686018427387904 ≤ a.2 ∧ a.2 ≤ 4611686018427387904
theorem val_sm (ts : List Tok) (k : Nat) : AllR Sm (valP ts k) := fun a k1 h => by
 unfold valP at h
 split at h
 ·
  exact quotP_small h
 exact numP_small2 h
theorem span_sm (ts : List Tok) (k : Nat) : AllR (fun r => Sm r.lo ∧ Sm r.hi) (spanP ts k) := by
 unfold spanP
 split
 ·
  exact allR_bind (val_sm _ _) (fun lo k1 h1 => allR_bind (allR_any _) (fun _ k2 _ => allR_bind (val_sm _ _) (fun hi k3 h3 => allR_bind (allR_any _) (fun _ k4 _ => allR_ok ⟨h1, h3⟩))))
 exact allR_bind (val_sm _ _) (fun v k1 h1 => allR_ok ⟨h1, h1⟩)
theorem decl_sm (ts : List Tok) (k : Nat) : AllR (fun d => d.s.length ≤ 20 ∧ Sm d.r.lo ∧ Sm d.r.hi) (declP nameP ts k) := by
 unfold declP
 exact allR_bind (Q := fun n => n.length ≤ 20) (fun n k1 h => nmR_len h) (fun n k1 h1 => allR_bind (allR_any _) (fun _ k2 _ => allR_bind (span_sm _ _) (fun r k3 h3 => allR_bind (allR_any _) (fun _ k4 _ => allR_ok ⟨h1, h3⟩))))
def dcN (d : DcP) : DcN := ⟨⟨d.s.toArray⟩, d.r.lo.1, d.r.lo.2, d.r.hi.1, d.r.hi.2⟩
theorem decl_in {ts : List Tok} {k k1 : Nat} {d : DcP} (h : declP nameP ts k = .ok d k1) (w : World) : InD w (dcN d) := by
 obtain ⟨h1, ⟨a1, a2, a3, a4⟩, b1, b2, b3, b4⟩ := decl_sm ts k d k1 h
 refine ⟨?_, ?_⟩
 ·
  show R4 d.r.lo.1 d.r.lo.2 d.r.hi.1 d.r.hi.2
  constructor <;> omega
 show d.s.toArray.size ≤ maxLen
 rw [List.size_toArray]
 unfold maxLen
 omega
theorem pst34 {w : World} {g : Nat} {t : TypeId} {a b c d e : Value} (hB : Blk w g t #[a, b, c, d, e]) (d' e' : Value) :
 (w.setCell ⟨g, 3, none⟩ d').setCell ⟨g, 4, none⟩ e' = putB w g t #[a, b, c, d', e'] := by
 rw [show w.setCell ⟨g, 3, none⟩ d' = putB w g t #[a, b, c, d', e] from hB.setCell_eq 3 d']
 have h4 := hB.put #[a, b, c, d', e]
 rw [show (putB w g t #[a, b, c, d', e]).setCell ⟨g, 4, none⟩ e' = putB (putB w g t #[a, b, c, d', e]) g t #[a, b, c, d', e'] from h4.setCell_eq 4 e', putB_putB]
theorem pst_5_0 {w : World} {g : Nat} {t : TypeId} {a b c d e : Value} (hB : Blk w g t #[a, b, c, d, e]) (x : Value) : w.setCell ⟨g, 0, none⟩ x = putB w g t #[x, b, c, d, e] := hB.setCell_eq 0 x
theorem pst_5_1 {w : World} {g : Nat} {t : TypeId} {a b c d e : Value} (hB : Blk w g t #[a, b, c, d, e]) (x : Value) : w.setCell ⟨g, 1, none⟩ x = putB w g t #[a, x, c, d, e] := hB.setCell_eq 1 x
theorem pst_5_2 {w : World} {g : Nat} {t : TypeId} {a b c d e : Value} (hB : Blk w g t #[a, b, c, d, e]) (x : Value) : w.setCell ⟨g, 2, none⟩ x = putB w g t #[a, b, x, d, e] := hB.setCell_eq 2 x
theorem Tryz.infoDecl : (Tryz.prog.info? 76).map (fun i => (i.zero, i.size, i.bytes)) = some (some (.agg #[.string ⟨#[]⟩, .int .i64 0, .int .i64 0, .int .i64 0, .int .i64 0]), 5, 48) := by kernel_rfl
theorem Tryz.infoMode : (Tryz.prog.info? 74).map (fun i => (i.zero, i.size, i.bytes)) = some (some (.agg #[.string ⟨#[]⟩, .slice none 0 0, .slice none 0 0]), 3, 64) := by kernel_rfl
def PbN.pl (x : PbN) : PbP := ⟨x.st.map DcN.pl, x.pa.map DcN.pl, x.ms.map MdN.pl, (x.t, x.u)⟩
structure PzP (P : Nat → Prop) (w : World) (x : PbN) : Prop where
  hs : LiL 5 DcN.cells PzD P w x.A x.n x.c x.st
  hp : LiL 5 DcN.cells PzD P w x.B x.m x.d x.pa
  hm : LiL 3 MdN.cells PzM P w x.C x.k x.e x.ms
  t1 : -9223372036854775808 ≤ x.t
  t2 : x.t ≤ 9223372036854775807
  u1 : -9223372036854775808 ≤ x.u
  u2 : x.u ≤ 9223372036854775807
theorem pzP : PzOk PzP := ⟨fun h hr hg => ⟨h.hs.mv pzD hr hg, h.hp.mv pzD hr hg, h.hm.mv pzM hr hg, h.t1, h.t2, h.u1, h.u2⟩, fun h hC => ⟨h.hs.weaken pzD hC, h.hp.weaken pzD hC, h.hm.weaken pzM hC, h.t1, h.t2, h.u1, h.u2⟩, fun h => ⟨h.hs.lt pzD, h.hp.lt pzD, h.hm.lt pzM, h.t1, h.t2, h.u1, h.u2⟩⟩
theorem PzP.toP {P : Nat → Prop} {w : World} {x : PbN} (h : PzP P w x) : InP w x := ⟨inl_mono h.hs.il (fun z _ hz => hz), inl_mono h.hp.il (fun z _ hz => hz), inl_mono h.hm.il (fun z _ hz => PzM.toM hz), h.t1, h.t2, h.u1, h.u2⟩
def PbV (d : PbP) (w : World) (e : Ending) (w' : World) : Prop := ∃ x : PbN, e = .returned x.val ∧ x.pl = d ∧ Hid (PzP (fun b => w.heap.size ≤ b) w' x)

theorem pProblem {w0 w : World} {g : Nat} {A : Option Addr} {len cap : Nat} {ts : List Tok} {k : Nat} (h : Env w0 g A len cap ts k 0 w) (hkl : k ≤ ts.length) (hR : RX w0) (hX : FX w0) (hD : DigTs ts) : Calls Tryz.prog 69 #[.pointer (some ⟨g, 0, none⟩)] w (PRP PbV w0 g A len cap ts 0 (probP nameP ts k) w) := by
 obtain ⟨RR, ey⟩ := eX (probP nameP ts k)
 have im := hI ey
 rw [← ey]
 clear ey
 have jr : ts.length ≤ 100000 := by have := h.t.hl; have := h.t.hs; omega
 go_enter Tryz.func69, Tryz.ntmps69
 go_upto_region 1 with (fail)
 obtain ⟨w1, f7, O1, F1⟩ := aX w 68 #[.slice none 0 0, .slice none 0 0, .slice none 0 0, .int .i64 0, .int .i64 0]
 rw [← f7]
 clear f7
 have a4 := hI (show some w.heap.size ≠ some g from fun e => by have := h.gl; injection e with e; omega)
 have io : w.heap.size ≠ g := fun e => a4.out (by rw [e])
 have bb : w0.heap.size ≤ w.heap.size := h.b.size
 have ez := hI (h.belowW O1.out)
 clear h
 go_upto_block 0 with (fail)
 obtain ⟨js, j, e0, ga⟩ := aX w1 68 #[.slice none 0 0, .slice none 0 0, .slice none 0 0, .int .i64 0, .int .i64 0]
 rw [← j]
 clear j
 obtain ⟨i, eh⟩ := eX (w1.heap.size)
 have X := hI (show some i ≠ some g from fun e => by have := ez.out.gl; injection e with e; omega)
 have ab : w.heap.size < i := by rw [eh]; exact F1.out.lt
 rw [← eh] at ga ⊢
 have jt : g < i := by rw [eh]; exact ez.out.gl
 clear eh
 go_wp2_with fail
 go_loopg [] (ts.length + 1) (fun fu wr => ∃ (Z : Nat) (q y : List DcN) (J L : Value), Hid (RR = (declsP nameP ts fu Z (q.map DcN.pl) (y.map DcN.pl)).bind fun d k11 => (modesP nameP ts (ts.length + 1) k11 []).bind fun ms k12 => (wantP ts true kTime k12).bind fun _ k13 => (valP ts k13).bind fun tm k14 => (wantP ts false [59] k14).bind fun _ k15 => .ok ⟨d.1, d.2, ms, tm⟩ k15) ∧ Z ≤ ts.length ∧ ts.length < fu + Z ∧ q.length ≤ Z ∧ y.length ≤ Z ∧ Hid (Env w0 g A len cap ts Z 0 wr) ∧ Hid (w.grownBy wr (some g)) ∧ Hid (Blk wr w.heap.size 68 #[.slice none 0 0, .slice none 0 0, .slice none 0 0, .int .i64 0, .int .i64 0]) ∧ Hid (Blk wr i 68 #[J, L, .slice none 0 0, .int .i64 0, .int .i64 0]) ∧ Hid (Mk2 76 5 DcN.cells PzD 76 5 DcN.cells PzD (i + 1) wr J q L y))
 case atStart => exact ⟨k, [], [], .slice none 0 0, .slice none 0 0, (hI (show RR = (declsP nameP ts (ts.length + 1) k [] []).bind fun d k11 => (modesP nameP ts (ts.length + 1) k11 []).bind fun ms k12 => (wantP ts true kTime k12).bind fun _ k13 => (valP ts k13).bind fun tm k14 => (wantP ts false [59] k14).bind fun _ k15 => .ok ⟨d.1, d.2, ms, tm⟩ k15 from im.out)), hkl, by omega, by simp, by simp, (ez.out.b9 e0), (hI (grown_tr (grown_of (some g) O1.out) (grown_of (some g) e0.out))), (F1.out.b9 e0), ga, hI (Mk2.nil _ _ _ _ _ _ _ _ _ _)⟩
 obtain ⟨Z, q, y, J, L, HQ, ju, jv, jw, jx, ip, gb, gc, e2, cv⟩ := hrel
 cases gk with
 | zero => exfalso; omega
 | succ fu =>
  have gd := hI (World.grownBy.refl wr (some g)); have cw : i < wr.heap.size := e2.out.lt
  have b0 : ∀ kb, J.ownBlock = some kb → i + 1 ≤ kb ∧ kb < wr.heap.size := fun kb h => cv.out.a.own.lt kb h
  have b1 : ∀ kb, L.ownBlock = some kb → i + 1 ≤ kb ∧ kb < wr.heap.size := fun kb h => cv.out.b.own.lt kb h
  have de := hI (pAccept ip.out (by omega) ⟨#[115, 116, 97, 116, 101]⟩); rw [show kwP (⟨#[115, 116, 97, 116, 101]⟩ : ByteArray).data.toList = true by decide, show (⟨#[115, 116, 97, 116, 101]⟩ : ByteArray).data.toList = kState from rfl] at de
  cases hb61 : isS true ts Z kState with
  | true =>
   have jy := isS_lt hb61; rw [hb61] at de; have b2 := hI (show RR = (declP nameP ts (Z + 1)).bind fun d9 k9 => (declsP nameP ts fu k9 (q.map DcN.pl ++ [d9]) (y.map DcN.pl)).bind fun d k11 => (modesP nameP ts (ts.length + 1) k11 []).bind fun ms k12 => (wantP ts true kTime k12).bind fun _ k13 => (valP ts k13).bind fun tm k14 => (wantP ts false [59] k14).bind fun _ k15 => .ok ⟨d.1, d.2, ms, tm⟩ k15 by rw [HQ.out, declsP, hb61, if_pos rfl]; exact bind_assoc' _ _ _); clear hb61
   go_wp2_with fail
   refine de.out.mono ?_
   rintro e wa61 ⟨rfl, bs, cx⟩; simp only [if_true] at cx; have df := hI (grown_tr gb.out bs.out); have dg := hI (e2.out.grown bs.out X.out); have dh := hI (grown_tr gd.out bs.out); have di := hI (cv.out.moved pzD pzD (.inr ⟨g, rfl, by omega⟩) dh.out)
   have z : ∀ b, J.ownBlock = some b → i + 1 ≤ b := fun b h => (b0 b h).1
   go_upto_region 3 with (fail)
   obtain ⟨ln, co, er, M⟩ | ⟨d9, k9, M⟩ := pr_cases (decl_no (nm := nameP) (ts := ts) (Z + 1))
   ·
    have HE := hI (show RR = .bad ln co er by rw [b2.out, M] <;> rfl); have H := hI (fun (w' : World) (h' : Env w0 g A len cap ts (Z + 1) 0 w') => by have h9 := pDecl h' (by omega) hR; rw [M] at h9; exact h9); clear M; have ei := hI (below_dr wa61); have ge := cx.out.b9 ei; have gf := hI (grown_tr df.out (grown_of (some g) ei.out)); have cy := dg.out.b9 ei
    refine wp_region_held_drew (S := fun w' => w'.cell? ⟨i, 0, none⟩ = some (J) ∧ w'.cell? ⟨i, 1, none⟩ = some (L) ∧ w'.cell? ⟨i, 2, none⟩ = some (.slice none 0 0) ∧ w'.cell? ⟨i, 3, none⟩ = some (.int .i64 0) ∧ w'.cell? ⟨i, 4, none⟩ = some (.int .i64 0)) (by kernel_rfl) ?_ (fun hHeld => ?_)
    case refine_1 => exact ⟨cy.out.cell 0, cy.out.cell 1, cy.out.cell 2, cy.out.cell 3, cy.out.cell 4⟩
    obtain ⟨iq, ag⟩ := eX (wa61.drew); rw [← ag] at ei ge gf cy hHeld ⊢; clear ag
    refine tkY 0 rfl (v := ?_) (.inl ⟨by rfl, ?_⟩) ?_
    case refine_2 => intro w9 hSw; (try dsimp only at hSw); go_simp; (try with_reducible rfl)
    try simp only [Act.put, setIfInBounds_toArray, set_cons_zero, set_cons_succ, getElem_toArray, getElem_cons_zero]
    refine tkY 1 rfl (v := ?_) (.inl ⟨by rfl, ?_⟩) ?_
    case refine_2 => intro w9 hSw; (try dsimp only at hSw); go_simp; (try with_reducible rfl)
    try simp only [Act.put, setIfInBounds_toArray, set_cons_zero, set_cons_succ, getElem_toArray, getElem_cons_zero, getElem_cons_succ]
    refine tkY 2 rfl (v := ?_) (.inl ⟨by rfl, ?_⟩) ?_
    case refine_2 => intro w9 hSw; (try dsimp only at hSw); go_simp; (try with_reducible rfl)
    try simp only [Act.put, setIfInBounds_toArray, set_cons_zero, set_cons_succ, getElem_toArray, getElem_cons_zero, getElem_cons_succ]
    refine wpAnyH_ready (rs := [3]) (by kernel_rfl) (by simp) ?_
    refine (AllReadyH.cons rfl (fun K hK => ?_) AllReadyH.nil)
    go_simp
    (with_reducible refine (H.out iq ge.out).mono ?_)
    rintro e w1462 ⟨rfl, bg⟩; clear hHeld
    go_wp2_with fail
    rw [HE.out]
    exact ⟨rfl, prp_bad (hI (grown_tr gf.out bg.out))⟩
   have jz := (decl_fw (nm := nameP) (ts := ts) (Z + 1)) _ _ M; have e3 := hI (show RR = (declsP nameP ts fu k9 (q.map DcN.pl ++ [d9]) (y.map DcN.pl)).bind fun d k11 => (modesP nameP ts (ts.length + 1) k11 []).bind fun ms k12 => (wantP ts true kTime k12).bind fun _ k13 => (valP ts k13).bind fun tm k14 => (wantP ts false [59] k14).bind fun _ k15 => .ok ⟨d.1, d.2, ms, tm⟩ k15 by rw [b2.out, M] <;> rfl); have a8 := hI (decl_in M w); have H := hI (fun (w' : World) (h' : Env w0 g A len cap ts (Z + 1) 0 w') => by have h9 := pDecl h' (by omega) hR; rw [M] at h9; exact h9); clear M; have cn := hI (below_dr wa61); have e4 := cx.out.b9 cn; have e6 := hI (grown_tr df.out (grown_of (some g) cn.out)); have dj := hI ((gc.out.grown bs.out a4.out).belowW cn.out); have ej := dg.out.b9 cn; have e7 := hI (di.out.belowW pzD pzD cn.out); have e8 := hI (Nat.le_trans (show wr.heap.size ≤ wa61.heap.size from dh.out.size) cn.out.size)
   refine wp_region_held_drew (S := fun w' => w'.cell? ⟨w.heap.size, 0, none⟩ = some (.slice none 0 0)) (by kernel_rfl) ?_ (fun hHeld => ?_)
   case refine_1 => exact dj.out.cell 0
   obtain ⟨gg, ag⟩ := eX (wa61.drew); rw [← ag] at cn e4 e6 dj ej e7 e8 hHeld ⊢; clear ag
   refine tkY 0 rfl (v := ?_) (.inl ⟨by rfl, ?_⟩) ?_
   case refine_2 => intro w9 hSw; (try dsimp only at hSw); go_simp; (try with_reducible rfl)
   try simp only [Act.put, setIfInBounds_toArray, set_cons_zero, set_cons_succ, getElem_toArray, getElem_cons_zero]
   refine tkY 2 rfl (v := ?_) (.inl ⟨by rfl, ?_⟩) ?_
   case refine_2 => intro w9 hSw; (try dsimp only at hSw); go_simp; (try with_reducible rfl)
   try simp only [Act.put, setIfInBounds_toArray, set_cons_zero, set_cons_succ, getElem_toArray, getElem_cons_zero, getElem_cons_succ]
   refine wpAnyH_ready (rs := [1, 3]) (by kernel_rfl) (by simp) ?_
   refine (AllReadyH.cons rfl (fun K hK => ?_) (AllReadyH.cons rfl (fun K hK => ?_) AllReadyH.nil))
   ·
    obtain ⟨ah, ai, aj, ak, al, am, an, ao, ap, aq⟩ := ej.out.all5
    go_simp
    clear ah ai aj ak al am an ao ap aq; clear hHeld
    refine hK.out _ _ ?_ (fun hHeld => ?_)
    case refine_1 => exact dj.out.cell 0
    clear hK K
    try simp only [setIfInBounds_toArray, set_cons_zero, set_cons_succ]
    refine wpAnyH_ready (rs := [3]) (by kernel_rfl) (by simp) ?_
    refine (AllReadyH.cons rfl (fun K hK => ?_) AllReadyH.nil)
    go_simp
    (with_reducible refine (H.out gg e4.out).mono ?_)
    rintro e bt ⟨rfl, a9, bh⟩; have cz := hI (dj.out.grown a9.out a4.out); have ek := hI (e7.out.moved pzD pzD (.inr ⟨g, rfl, by omega⟩) a9.out); have e9 := hI (show PzD (fun b => wr.heap.size ≤ b ∧ b < bt.heap.size) bt (dcN d9) from ⟨a8.out.r, a8.out.hs⟩)
    go_wp2_with fail
    clear hHeld
    refine hK.out _ _ ?_ (fun hHeld => ?_)
    case refine_1 => exact cz.out.cell 0
    clear hK K
    try simp only [setIfInBounds_toArray, set_cons_zero, set_cons_succ]
    refine wpAnyH_ready (rs := [4]) (by kernel_rfl) (by simp) ?_
    refine (AllReadyH.cons rfl (fun K hK => ?_) AllReadyH.nil)
    go_simp
    obtain ⟨cp, I, a5, _⟩ := aX bt 76 #[.string ⟨d9.s.toArray⟩, .int .i64 d9.r.lo.1, .int .i64 d9.r.lo.2, .int .i64 d9.r.hi.1, .int .i64 d9.r.hi.2]; have dk := cz.out.b9 a5; have dl := hI (ek.out.belowW pzD pzD a5.out); have dm := hI (Nat.le_trans (Nat.le_trans e8.out a9.out.size) a5.out.size); have fa := hI (show PzD (fun b => wr.heap.size ≤ b ∧ b < cp.heap.size) cp (dcN d9) from pzD.weaken (pzD.lt (pzD.mv e9.out (fun b hb e => by cases e) (grown_none (Nat.le_refl _) a5.out))) (fun b hb => ⟨hb.1.1, hb.2⟩)); have fb := hI (show Blk cp bt.heap.size 76 (DcN.cells (dcN d9)).toArray by rw [I]; exact Blk.new _ _ _); rw [← I]; clear I; clear hHeld
    refine hK.out _ _ ?_ (fun hHeld => ?_)
    case refine_1 => exact dk.out.cell 0
    clear hK K
    try simp only [setIfInBounds_toArray, set_cons_zero, set_cons_succ]
    refine wpAnyH_ready (rs := [5]) (by kernel_rfl) (by simp) ?_
    refine (AllReadyH.cons rfl (fun K hK => ?_) AllReadyH.nil)
    obtain ⟨N, O, P, Q, R⟩ := info_parts Tryz.infoDecl; have T : ∀ u ∈ DcN.cells (dcN d9), u.oneCell' = true := (by simp [DcN.cells, Value.oneCell'])
    refine if_wanted (by rfl) ?_
    refine oper_append_mk _ _ _ rfl (avd_ok pzD) DcN.len5 rfl dl.out.a (show Avd (Own L) PzD _ _ _ from pzD.weaken fa.out (fun b hb => ⟨⟨by omega, hb.2, fun e => by have := b0 b e.symm; omega⟩, fun e => by have := b1 b e; omega⟩)) N _ 48 Tryz.underlying65 O P Q R rfl (by omega) (by omega) (by omega) bt.heap.size _ rfl fb.out T (Nat.le_trans cw dm.out) ?_
    intro v9 w1475 hmk hgr hob
    have U := hI hmk; have ac := hI hgr; have bi := hI hob; clear hmk hgr hob O P Q R N T; obtain ⟨l, o, V, _⟩ := U.out.lies (avd_ok pzD); obtain ⟨p, W⟩ := eX ((q ++ [dcN d9]).length); rw [← W] at V; clear W; subst V
    try simp only [Act.put, setIfInBounds_toArray]
    have dn := hI (env_row ((bh.out).belowW a5.out) ac.out (fun b h => by have := z b h; omega)); have dp := hI (grown_row (grown_tr (grown_tr e6.out a9.out) (grown_of (some g) a5.out)) ac.out (fun b h => by have := z b h; omega)); have b3 := hI (dk.out.grown ac.out (fun e => by have := z _ e.symm; omega)); have bj := hI (((ej.out.grown a9.out X.out).belowW a5.out).grown ac.out (fun e => by have := z _ e.symm; omega)); clear hHeld
    refine hK.out _ _ ?_ (fun hHeld => ?_)
    case refine_1 => exact b3.out.cell 0
    clear hK K
    try simp only [setIfInBounds_toArray, set_cons_zero, set_cons_succ]
    refine tkY 6 rfl (v := ?_) (.inl ⟨by rfl, ?_⟩) ?_
    case refine_2 => intro w9 hSw; (try dsimp only at hSw); go_simp; (try with_reducible rfl)
    try simp only [Act.put, setIfInBounds_toArray, set_cons_zero, set_cons_succ, getElem_toArray, getElem_cons_zero, getElem_cons_succ]
    refine wpAnyH_ready (rs := [7]) (by kernel_rfl) (by simp) ?_
    refine (AllReadyH.cons rfl (fun K hK => ?_) AllReadyH.nil)
    obtain ⟨ar, au, av, aw, ax, ay, az, a0, a1, a2⟩ := bj.out.all5
    go_simp
    rw [pst_5_0 bj.out]; clear ar au av aw ax ay az a0 a1 a2; have b4 := hI (dn.out.far (r := i) (fun e => X.out (by rw [e])) (Nat.le_trans bb (Nat.le_of_lt ab)) 68 #[.slice l p o, L, .slice none 0 0, .int .i64 0, .int .i64 0]); have b5 := hI (grown_new dp.out (Nat.le_of_lt ab) 68 #[.slice l p o, L, .slice none 0 0, .int .i64 0, .int .i64 0]); have bk := hI (b3.out.far (g' := i) (t' := 68) (by omega) #[.slice l p o, L, .slice none 0 0, .int .i64 0, .int .i64 0]); have b6 := hI ((Mk2.pushed pzD dl.out U.out ac.out bi.out).moved pzD pzD (.inr ⟨i, rfl, by omega⟩) (putB_grown w1475 i 68 #[.slice l p o, L, .slice none 0 0, .int .i64 0, .int .i64 0])); have dq := hI (show wr.heap.size ≤ (putB w1475 i 68 #[.slice l p o, L, .slice none 0 0, .int .i64 0, .int .i64 0]).heap.size by rw [putB_size]; exact (Nat.le_trans dm.out ac.out.size)); have b7 := hI (bj.out.put #[.slice l p o, L, .slice none 0 0, .int .i64 0, .int .i64 0]); obtain ⟨gh, j⟩ := eX (putB w1475 (i) 68 #[.slice l p o, L, .slice none 0 0, .int .i64 0, .int .i64 0])
    try rw [← j] at b4
    try rw [← j] at b5
    try rw [← j] at bk
    try rw [← j] at b6
    try rw [← j] at dq
    try rw [← j] at b7
    rw [← j]; clear j hHeld
    refine hK.out _ _ ?_ (fun hHeld => ?_)
    case refine_1 => exact bk.out.cell 0
    clear hK K
    try simp only [setIfInBounds_toArray, set_cons_zero, set_cons_succ]
    refine wpAnyH_done (by kernel_rfl) ?_ _
    go_wp2_with fail
    go_roundg fu
    case measure => omega
    case rel => exact ⟨k9, q ++ [dcN d9], y, .slice l p o, L, hI (by rw [e3.out, List.map_append]; rfl), by omega, by omega, by rw [List.length_append]; show q.length + 1 ≤ _; omega, by omega, b4, b5, bk, b7, b6⟩
   go_simp
   (with_reducible refine (H.out gg e4.out).mono ?_)
   rintro e w1472 ⟨rfl, dr, bh⟩; have gi := hI (bh.out); have gj := hI (grown_tr e6.out dr.out); have el := hI (dj.out.grown dr.out a4.out); have fc := hI (ej.out.grown dr.out X.out); have gm := hI (e7.out.moved pzD pzD (.inr ⟨g, rfl, by omega⟩) dr.out); have gn := hI (Nat.le_trans e8.out dr.out.size); have go := hI (show PzD (fun b => wr.heap.size ≤ b ∧ b < w1472.heap.size) w1472 (dcN d9) from ⟨a8.out.r, a8.out.hs⟩)
   go_wp2_with fail
   clear hHeld
   refine hK.out _ _ ?_ (fun hHeld => ?_)
   case refine_1 => exact el.out.cell 0
   clear hK K
   try simp only [setIfInBounds_toArray, set_cons_zero, set_cons_succ]
   refine wpAnyH_ready (rs := [1, 4]) (by kernel_rfl) (by simp) ?_
   refine (AllReadyH.cons rfl (fun K hK => ?_) (AllReadyH.cons rfl (fun K hK => ?_) AllReadyH.nil))
   ·
    obtain ⟨ah, ai, aj, ak, al, am, an, ao, ap, aq⟩ := fc.out.all5
    go_simp
    clear ah ai aj ak al am an ao ap aq; clear hHeld
    refine hK.out _ _ ?_ (fun hHeld => ?_)
    case refine_1 => exact el.out.cell 0
    clear hK K
    try simp only [setIfInBounds_toArray, set_cons_zero, set_cons_succ]
    refine wpAnyH_ready (rs := [4]) (by kernel_rfl) (by simp) ?_
    refine (AllReadyH.cons rfl (fun K hK => ?_) AllReadyH.nil)
    go_simp
    obtain ⟨cp, I, a5, _⟩ := aX w1472 76 #[.string ⟨d9.s.toArray⟩, .int .i64 d9.r.lo.1, .int .i64 d9.r.lo.2, .int .i64 d9.r.hi.1, .int .i64 d9.r.hi.2]; have dk := el.out.b9 a5; have dl := hI (gm.out.belowW pzD pzD a5.out); have dm := hI (Nat.le_trans gn.out a5.out.size); have fa := hI (show PzD (fun b => wr.heap.size ≤ b ∧ b < cp.heap.size) cp (dcN d9) from pzD.weaken (pzD.lt (pzD.mv go.out (fun b hb e => by cases e) (grown_none (Nat.le_refl _) a5.out))) (fun b hb => ⟨hb.1.1, hb.2⟩)); have fb := hI (show Blk cp w1472.heap.size 76 (DcN.cells (dcN d9)).toArray by rw [I]; exact Blk.new _ _ _); rw [← I]; clear I; clear hHeld
    refine hK.out _ _ ?_ (fun hHeld => ?_)
    case refine_1 => exact dk.out.cell 0
    clear hK K
    try simp only [setIfInBounds_toArray, set_cons_zero, set_cons_succ]
    refine wpAnyH_ready (rs := [5]) (by kernel_rfl) (by simp) ?_
    refine (AllReadyH.cons rfl (fun K hK => ?_) AllReadyH.nil)
    obtain ⟨N, O, P, Q, R⟩ := info_parts Tryz.infoDecl; have T : ∀ u ∈ DcN.cells (dcN d9), u.oneCell' = true := (by simp [DcN.cells, Value.oneCell'])
    refine if_wanted (by rfl) ?_
    refine oper_append_mk _ _ _ rfl (avd_ok pzD) DcN.len5 rfl dl.out.a (show Avd (Own L) PzD _ _ _ from pzD.weaken fa.out (fun b hb => ⟨⟨by omega, hb.2, fun e => by have := b0 b e.symm; omega⟩, fun e => by have := b1 b e; omega⟩)) N _ 48 Tryz.underlying65 O P Q R rfl (by omega) (by omega) (by omega) w1472.heap.size _ rfl fb.out T (Nat.le_trans cw dm.out) ?_
    intro v9 w1475 hmk hgr hob
    have U := hI hmk; have ac := hI hgr; have bi := hI hob; clear hmk hgr hob O P Q R N T; obtain ⟨l, o, V, _⟩ := U.out.lies (avd_ok pzD); obtain ⟨p, W⟩ := eX ((q ++ [dcN d9]).length); rw [← W] at V; clear W; subst V
    try simp only [Act.put, setIfInBounds_toArray]
    have dn := hI (env_row (gi.out.belowW a5.out) ac.out (fun b h => by have := z b h; omega)); have dp := hI (grown_row (grown_tr gj.out (grown_of (some g) a5.out)) ac.out (fun b h => by have := z b h; omega)); have b3 := hI (dk.out.grown ac.out (fun e => by have := z _ e.symm; omega)); have bj := hI ((fc.out.belowW a5.out).grown ac.out (fun e => by have := z _ e.symm; omega)); clear hHeld
    refine hK.out _ _ ?_ (fun hHeld => ?_)
    case refine_1 => exact b3.out.cell 0
    clear hK K
    try simp only [setIfInBounds_toArray, set_cons_zero, set_cons_succ]
    refine tkY 6 rfl (v := ?_) (.inl ⟨by rfl, ?_⟩) ?_
    case refine_2 => intro w9 hSw; (try dsimp only at hSw); go_simp; (try with_reducible rfl)
    try simp only [Act.put, setIfInBounds_toArray, set_cons_zero, set_cons_succ, getElem_toArray, getElem_cons_zero, getElem_cons_succ]
    refine wpAnyH_ready (rs := [7]) (by kernel_rfl) (by simp) ?_
    refine (AllReadyH.cons rfl (fun K hK => ?_) AllReadyH.nil)
    obtain ⟨ar, au, av, aw, ax, ay, az, a0, a1, a2⟩ := bj.out.all5
    go_simp
    rw [pst_5_0 bj.out]; clear ar au av aw ax ay az a0 a1 a2; have b4 := hI (dn.out.far (r := i) (fun e => X.out (by rw [e])) (Nat.le_trans bb (Nat.le_of_lt ab)) 68 #[.slice l p o, L, .slice none 0 0, .int .i64 0, .int .i64 0]); have b5 := hI (grown_new dp.out (Nat.le_of_lt ab) 68 #[.slice l p o, L, .slice none 0 0, .int .i64 0, .int .i64 0]); have bk := hI (b3.out.far (g' := i) (t' := 68) (by omega) #[.slice l p o, L, .slice none 0 0, .int .i64 0, .int .i64 0]); have b6 := hI ((Mk2.pushed pzD dl.out U.out ac.out bi.out).moved pzD pzD (.inr ⟨i, rfl, by omega⟩) (putB_grown w1475 i 68 #[.slice l p o, L, .slice none 0 0, .int .i64 0, .int .i64 0])); have dq := hI (show wr.heap.size ≤ (putB w1475 i 68 #[.slice l p o, L, .slice none 0 0, .int .i64 0, .int .i64 0]).heap.size by rw [putB_size]; exact (Nat.le_trans dm.out ac.out.size)); have b7 := hI (bj.out.put #[.slice l p o, L, .slice none 0 0, .int .i64 0, .int .i64 0]); obtain ⟨gh, j⟩ := eX (putB w1475 (i) 68 #[.slice l p o, L, .slice none 0 0, .int .i64 0, .int .i64 0])
    try rw [← j] at b4
    try rw [← j] at b5
    try rw [← j] at bk
    try rw [← j] at b6
    try rw [← j] at dq
    try rw [← j] at b7
    rw [← j]; clear j hHeld
    refine hK.out _ _ ?_ (fun hHeld => ?_)
    case refine_1 => exact bk.out.cell 0
    clear hK K
    try simp only [setIfInBounds_toArray, set_cons_zero, set_cons_succ]
    refine wpAnyH_done (by kernel_rfl) ?_ _
    go_wp2_with fail
    go_roundg fu
    case measure => omega
    case rel => exact ⟨k9, q ++ [dcN d9], y, .slice l p o, L, hI (by rw [e3.out, List.map_append]; rfl), by omega, by omega, by rw [List.length_append]; show q.length + 1 ≤ _; omega, by omega, b4, b5, bk, b7, b6⟩
   go_simp
   obtain ⟨bt, I, a9, _⟩ := aX w1472 76 #[.string ⟨d9.s.toArray⟩, .int .i64 d9.r.lo.1, .int .i64 d9.r.lo.2, .int .i64 d9.r.hi.1, .int .i64 d9.r.hi.2]; have cz := el.out.b9 a9; have gp := fc.out.b9 a9; have ek := hI (gm.out.belowW pzD pzD a9.out); have gq := hI (Nat.le_trans gn.out a9.out.size); have e9 := hI (show PzD (fun b => wr.heap.size ≤ b ∧ b < bt.heap.size) bt (dcN d9) from pzD.weaken (pzD.lt (pzD.mv go.out (fun b hb e => by cases e) (grown_none (Nat.le_refl _) a9.out))) (fun b hb => ⟨hb.1.1, hb.2⟩)); have ir := hI (show Blk bt w1472.heap.size 76 (DcN.cells (dcN d9)).toArray by rw [I]; exact Blk.new _ _ _); rw [← I]; clear I; clear hHeld
   refine hK.out _ _ ?_ (fun hHeld => ?_)
   case refine_1 => exact cz.out.cell 0
   clear hK K
   try simp only [setIfInBounds_toArray, set_cons_zero, set_cons_succ]
   refine wpAnyH_ready (rs := [1]) (by kernel_rfl) (by simp) ?_
   refine (AllReadyH.cons rfl (fun K hK => ?_) AllReadyH.nil)
   obtain ⟨ah, ai, aj, ak, al, am, an, ao, ap, aq⟩ := gp.out.all5
   go_simp
   clear ah ai aj ak al am an ao ap aq; clear hHeld
   refine hK.out _ _ ?_ (fun hHeld => ?_)
   case refine_1 => exact cz.out.cell 0
   clear hK K
   try simp only [setIfInBounds_toArray, set_cons_zero, set_cons_succ]
   refine wpAnyH_ready (rs := [5]) (by kernel_rfl) (by simp) ?_
   refine (AllReadyH.cons rfl (fun K hK => ?_) AllReadyH.nil)
   obtain ⟨N, O, P, Q, R⟩ := info_parts Tryz.infoDecl; have T : ∀ u ∈ DcN.cells (dcN d9), u.oneCell' = true := (by simp [DcN.cells, Value.oneCell'])
   refine if_wanted (by rfl) ?_
   refine oper_append_mk _ _ _ rfl (avd_ok pzD) DcN.len5 rfl ek.out.a (show Avd (Own L) PzD _ _ _ from pzD.weaken e9.out (fun b hb => ⟨⟨by omega, hb.2, fun e => by have := b0 b e.symm; omega⟩, fun e => by have := b1 b e; omega⟩)) N _ 48 Tryz.underlying65 O P Q R rfl (by omega) (by omega) (by omega) w1472.heap.size _ rfl ir.out T (Nat.le_trans cw gq.out) ?_
   intro v9 w1475 hmk hgr hob
   have U := hI hmk; have ac := hI hgr; have bi := hI hob; clear hmk hgr hob O P Q R N T; obtain ⟨l, o, V, _⟩ := U.out.lies (avd_ok pzD); obtain ⟨p, W⟩ := eX ((q ++ [dcN d9]).length); rw [← W] at V; clear W; subst V
   try simp only [Act.put, setIfInBounds_toArray]
   have dn := hI (env_row (gi.out.belowW a9.out) ac.out (fun b h => by have := z b h; omega)); have dp := hI (grown_row (grown_tr gj.out (grown_of (some g) a9.out)) ac.out (fun b h => by have := z b h; omega)); have b3 := hI (cz.out.grown ac.out (fun e => by have := z _ e.symm; omega)); have bj := hI (gp.out.grown ac.out (fun e => by have := z _ e.symm; omega)); clear hHeld
   refine hK.out _ _ ?_ (fun hHeld => ?_)
   case refine_1 => exact b3.out.cell 0
   clear hK K
   try simp only [setIfInBounds_toArray, set_cons_zero, set_cons_succ]
   refine tkY 6 rfl (v := ?_) (.inl ⟨by rfl, ?_⟩) ?_
   case refine_2 => intro w9 hSw; (try dsimp only at hSw); go_simp; (try with_reducible rfl)
   try simp only [Act.put, setIfInBounds_toArray, set_cons_zero, set_cons_succ, getElem_toArray, getElem_cons_zero, getElem_cons_succ]
   refine wpAnyH_ready (rs := [7]) (by kernel_rfl) (by simp) ?_
   refine (AllReadyH.cons rfl (fun K hK => ?_) AllReadyH.nil)
   obtain ⟨ar, au, av, aw, ax, ay, az, a0, a1, a2⟩ := bj.out.all5
   go_simp
   rw [pst_5_0 bj.out]; clear ar au av aw ax ay az a0 a1 a2; have b4 := hI (dn.out.far (r := i) (fun e => X.out (by rw [e])) (Nat.le_trans bb (Nat.le_of_lt ab)) 68 #[.slice l p o, L, .slice none 0 0, .int .i64 0, .int .i64 0]); have b5 := hI (grown_new dp.out (Nat.le_of_lt ab) 68 #[.slice l p o, L, .slice none 0 0, .int .i64 0, .int .i64 0]); have bk := hI (b3.out.far (g' := i) (t' := 68) (by omega) #[.slice l p o, L, .slice none 0 0, .int .i64 0, .int .i64 0]); have b6 := hI ((Mk2.pushed pzD ek.out U.out ac.out bi.out).moved pzD pzD (.inr ⟨i, rfl, by omega⟩) (putB_grown w1475 i 68 #[.slice l p o, L, .slice none 0 0, .int .i64 0, .int .i64 0])); have dq := hI (show wr.heap.size ≤ (putB w1475 i 68 #[.slice l p o, L, .slice none 0 0, .int .i64 0, .int .i64 0]).heap.size by rw [putB_size]; exact (Nat.le_trans gq.out ac.out.size)); have b7 := hI (bj.out.put #[.slice l p o, L, .slice none 0 0, .int .i64 0, .int .i64 0]); obtain ⟨gh, j⟩ := eX (putB w1475 (i) 68 #[.slice l p o, L, .slice none 0 0, .int .i64 0, .int .i64 0])
   try rw [← j] at b4
   try rw [← j] at b5
   try rw [← j] at bk
   try rw [← j] at b6
   try rw [← j] at dq
   try rw [← j] at b7
   rw [← j]; clear j hHeld
   refine hK.out _ _ ?_ (fun hHeld => ?_)
   case refine_1 => exact bk.out.cell 0
   clear hK K
   try simp only [setIfInBounds_toArray, set_cons_zero, set_cons_succ]
   refine wpAnyH_done (by kernel_rfl) ?_ _
   go_wp2_with fail
   go_roundg fu
   case measure => omega
   case rel => exact ⟨k9, q ++ [dcN d9], y, .slice l p o, L, hI (by rw [e3.out, List.map_append]; rfl), by omega, by omega, by rw [List.length_append]; show q.length + 1 ≤ _; omega, by omega, b4, b5, bk, b7, b6⟩
  | false =>
   rw [hb61] at de; have em := hb61; clear hb61
   go_wp2_with fail
   refine de.out.mono ?_
   rintro e wa61 ⟨rfl, bs, cx⟩; simp only [Bool.false_eq_true, if_false] at cx; have df := hI (grown_tr gb.out bs.out); have gr := hI (gc.out.grown bs.out a4.out); have dg := hI (e2.out.grown bs.out X.out); have dh := hI (grown_tr gd.out bs.out); have ds := hI (pAccept cx.out (by omega) ⟨#[112, 97, 114, 97, 109]⟩); rw [show kwP (⟨#[112, 97, 114, 97, 109]⟩ : ByteArray).data.toList = true by decide, show (⟨#[112, 97, 114, 97, 109]⟩ : ByteArray).data.toList = kParam from rfl] at ds
   cases hb63 : isS true ts Z kParam with
   | true =>
    have j0 := isS_lt hb63; rw [hb63] at ds; have b2 := hI (show RR = (declP nameP ts (Z + 1)).bind fun d9 k9 => (declsP nameP ts fu k9 (q.map DcN.pl) (y.map DcN.pl ++ [d9])).bind fun d k11 => (modesP nameP ts (ts.length + 1) k11 []).bind fun ms k12 => (wantP ts true kTime k12).bind fun _ k13 => (valP ts k13).bind fun tm k14 => (wantP ts false [59] k14).bind fun _ k15 => .ok ⟨d.1, d.2, ms, tm⟩ k15 by rw [HQ.out, declsP, em, if_neg (by decide), hb63, if_pos rfl]; exact bind_assoc' _ _ _); clear hb63
    go_wp2_with fail
    refine ds.out.mono ?_
    rintro e wa63 ⟨rfl, bu, c0⟩; simp only [if_true] at c0; have gs := hI (grown_tr df.out bu.out); have dt := hI (dg.out.grown bu.out X.out); have gt := hI (grown_tr dh.out bu.out); clear em; have di := hI (cv.out.moved pzD pzD (.inr ⟨g, rfl, by omega⟩) gt.out)
    have z : ∀ b, L.ownBlock = some b → i + 1 ≤ b := fun b h => (b1 b h).1
    go_upto_region 5 with (fail)
    obtain ⟨ln, co, er, M⟩ | ⟨d9, k9, M⟩ := pr_cases (decl_no (nm := nameP) (ts := ts) (Z + 1))
    ·
     have HE := hI (show RR = .bad ln co er by rw [b2.out, M] <;> rfl); have H := hI (fun (w' : World) (h' : Env w0 g A len cap ts (Z + 1) 0 w') => by have h9 := pDecl h' (by omega) hR; rw [M] at h9; exact h9); clear M; have en := hI (below_dr wa63); have gu := c0.out.b9 en; have gv := hI (grown_tr gs.out (grown_of (some g) en.out)); have c1 := dt.out.b9 en
     refine wp_region_held_drew (S := fun w' => w'.cell? ⟨i, 0, none⟩ = some (J) ∧ w'.cell? ⟨i, 1, none⟩ = some (L) ∧ w'.cell? ⟨i, 2, none⟩ = some (.slice none 0 0) ∧ w'.cell? ⟨i, 3, none⟩ = some (.int .i64 0) ∧ w'.cell? ⟨i, 4, none⟩ = some (.int .i64 0)) (by kernel_rfl) ?_ (fun hHeld => ?_)
     case refine_1 => exact ⟨c1.out.cell 0, c1.out.cell 1, c1.out.cell 2, c1.out.cell 3, c1.out.cell 4⟩
     obtain ⟨is, ag⟩ := eX (wa63.drew); rw [← ag] at en gu gv c1 hHeld ⊢; clear ag
     refine tkY 0 rfl (v := ?_) (.inl ⟨by rfl, ?_⟩) ?_
     case refine_2 => intro w9 hSw; (try dsimp only at hSw); go_simp; (try with_reducible rfl)
     try simp only [Act.put, setIfInBounds_toArray, set_cons_zero, set_cons_succ, getElem_toArray, getElem_cons_zero]
     refine tkY 1 rfl (v := ?_) (.inl ⟨by rfl, ?_⟩) ?_
     case refine_2 => intro w9 hSw; (try dsimp only at hSw); go_simp; (try with_reducible rfl)
     try simp only [Act.put, setIfInBounds_toArray, set_cons_zero, set_cons_succ, getElem_toArray, getElem_cons_zero, getElem_cons_succ]
     refine tkY 2 rfl (v := ?_) (.inl ⟨by rfl, ?_⟩) ?_
     case refine_2 => intro w9 hSw; (try dsimp only at hSw); go_simp; (try with_reducible rfl)
     try simp only [Act.put, setIfInBounds_toArray, set_cons_zero, set_cons_succ, getElem_toArray, getElem_cons_zero, getElem_cons_succ]
     refine wpAnyH_ready (rs := [3]) (by kernel_rfl) (by simp) ?_
     refine (AllReadyH.cons rfl (fun K hK => ?_) AllReadyH.nil)
     go_simp
     (with_reducible refine (H.out is gu.out).mono ?_)
     rintro e w1502 ⟨rfl, bg⟩; clear hHeld
     go_wp2_with fail
     rw [HE.out]
     exact ⟨rfl, prp_bad (hI (grown_tr gv.out bg.out))⟩
    have j1 := (decl_fw (nm := nameP) (ts := ts) (Z + 1)) _ _ M; have fd := hI (show RR = (declsP nameP ts fu k9 (q.map DcN.pl) (y.map DcN.pl ++ [d9])).bind fun d k11 => (modesP nameP ts (ts.length + 1) k11 []).bind fun ms k12 => (wantP ts true kTime k12).bind fun _ k13 => (valP ts k13).bind fun tm k14 => (wantP ts false [59] k14).bind fun _ k15 => .ok ⟨d.1, d.2, ms, tm⟩ k15 by rw [b2.out, M] <;> rfl); have a8 := hI (decl_in M w); have H := hI (fun (w' : World) (h' : Env w0 g A len cap ts (Z + 1) 0 w') => by have h9 := pDecl h' (by omega) hR; rw [M] at h9; exact h9); clear M; have cq := hI (below_dr wa63); have fe := c0.out.b9 cq; have ff := hI (grown_tr gs.out (grown_of (some g) cq.out)); have du := hI ((gr.out.grown bu.out a4.out).belowW cq.out); have eo := dt.out.b9 cq; have fg := hI (di.out.belowW pzD pzD cq.out); have fh := hI (Nat.le_trans (show wr.heap.size ≤ wa63.heap.size from gt.out.size) cq.out.size)
    refine wp_region_held_drew (S := fun w' => w'.cell? ⟨w.heap.size, 0, none⟩ = some (.slice none 0 0)) (by kernel_rfl) ?_ (fun hHeld => ?_)
    case refine_1 => exact du.out.cell 0
    obtain ⟨gw, ag⟩ := eX (wa63.drew); rw [← ag] at cq fe ff du eo fg fh hHeld ⊢; clear ag
    refine tkY 0 rfl (v := ?_) (.inl ⟨by rfl, ?_⟩) ?_
    case refine_2 => intro w9 hSw; (try dsimp only at hSw); go_simp; (try with_reducible rfl)
    try simp only [Act.put, setIfInBounds_toArray, set_cons_zero, set_cons_succ, getElem_toArray, getElem_cons_zero]
    refine tkY 2 rfl (v := ?_) (.inl ⟨by rfl, ?_⟩) ?_
    case refine_2 => intro w9 hSw; (try dsimp only at hSw); go_simp; (try with_reducible rfl)
    try simp only [Act.put, setIfInBounds_toArray, set_cons_zero, set_cons_succ, getElem_toArray, getElem_cons_zero, getElem_cons_succ]
    refine wpAnyH_ready (rs := [1, 3]) (by kernel_rfl) (by simp) ?_
    refine (AllReadyH.cons rfl (fun K hK => ?_) (AllReadyH.cons rfl (fun K hK => ?_) AllReadyH.nil))
    ·
     obtain ⟨ah, ai, aj, ak, al, am, an, ao, ap, aq⟩ := eo.out.all5
     go_simp
     clear ah ai aj ak al am an ao ap aq; clear hHeld
     refine hK.out _ _ ?_ (fun hHeld => ?_)
     case refine_1 => exact du.out.cell 0
     clear hK K
     try simp only [setIfInBounds_toArray, set_cons_zero, set_cons_succ]
     refine wpAnyH_ready (rs := [3]) (by kernel_rfl) (by simp) ?_
     refine (AllReadyH.cons rfl (fun K hK => ?_) AllReadyH.nil)
     go_simp
     (with_reducible refine (H.out gw fe.out).mono ?_)
     rintro e bv ⟨rfl, ba, bh⟩; have c2 := hI (du.out.grown ba.out a4.out); have ep := hI (fg.out.moved pzD pzD (.inr ⟨g, rfl, by omega⟩) ba.out); have fi := hI (show PzD (fun b => wr.heap.size ≤ b ∧ b < bv.heap.size) bv (dcN d9) from ⟨a8.out.r, a8.out.hs⟩)
     go_wp2_with fail
     clear hHeld
     refine hK.out _ _ ?_ (fun hHeld => ?_)
     case refine_1 => exact c2.out.cell 0
     clear hK K
     try simp only [setIfInBounds_toArray, set_cons_zero, set_cons_succ]
     refine wpAnyH_ready (rs := [4]) (by kernel_rfl) (by simp) ?_
     refine (AllReadyH.cons rfl (fun K hK => ?_) AllReadyH.nil)
     go_simp
     obtain ⟨cr, I, a6, _⟩ := aX bv 76 #[.string ⟨d9.s.toArray⟩, .int .i64 d9.r.lo.1, .int .i64 d9.r.lo.2, .int .i64 d9.r.hi.1, .int .i64 d9.r.hi.2]; have dv := c2.out.b9 a6; have dw := hI (ep.out.belowW pzD pzD a6.out); have dx := hI (Nat.le_trans (Nat.le_trans fh.out ba.out.size) a6.out.size); have fj := hI (show PzD (fun b => wr.heap.size ≤ b ∧ b < cr.heap.size) cr (dcN d9) from pzD.weaken (pzD.lt (pzD.mv fi.out (fun b hb e => by cases e) (grown_none (Nat.le_refl _) a6.out))) (fun b hb => ⟨hb.1.1, hb.2⟩)); have fk := hI (show Blk cr bv.heap.size 76 (DcN.cells (dcN d9)).toArray by rw [I]; exact Blk.new _ _ _); rw [← I]; clear I; clear hHeld
     refine hK.out _ _ ?_ (fun hHeld => ?_)
     case refine_1 => exact dv.out.cell 0
     clear hK K
     try simp only [setIfInBounds_toArray, set_cons_zero, set_cons_succ]
     refine wpAnyH_ready (rs := [5]) (by kernel_rfl) (by simp) ?_
     refine (AllReadyH.cons rfl (fun K hK => ?_) AllReadyH.nil)
     obtain ⟨N, O, P, Q, R⟩ := info_parts Tryz.infoDecl; have T : ∀ u ∈ DcN.cells (dcN d9), u.oneCell' = true := (by simp [DcN.cells, Value.oneCell'])
     refine if_wanted (by rfl) ?_
     refine oper_append_mk _ _ _ rfl (avd_ok pzD) DcN.len5 rfl dw.out.b (show Avd (Own J) PzD _ _ _ from pzD.weaken fj.out (fun b hb => ⟨⟨by omega, hb.2, fun e => by have := b1 b e.symm; omega⟩, fun e => by have := b0 b e; omega⟩)) N _ 48 Tryz.underlying65 O P Q R rfl (by omega) (by omega) (by omega) bv.heap.size _ rfl fk.out T (Nat.le_trans cw dx.out) ?_
     intro v9 w1515 hmk hgr hob
     have U := hI hmk; have ad := hI hgr; have bi := hI hob; clear hmk hgr hob O P Q R N T; obtain ⟨l, o, V, _⟩ := U.out.lies (avd_ok pzD); obtain ⟨p, W⟩ := eX ((y ++ [dcN d9]).length); rw [← W] at V; clear W; subst V
     try simp only [Act.put, setIfInBounds_toArray]
     have dy := hI (env_row ((bh.out).belowW a6.out) ad.out (fun b h => by have := z b h; omega)); have dz := hI (grown_row (grown_tr (grown_tr ff.out ba.out) (grown_of (some g) a6.out)) ad.out (fun b h => by have := z b h; omega)); have b8 := hI (dv.out.grown ad.out (fun e => by have := z _ e.symm; omega)); have bl := hI (((eo.out.grown ba.out X.out).belowW a6.out).grown ad.out (fun e => by have := z _ e.symm; omega)); clear hHeld
     refine hK.out _ _ ?_ (fun hHeld => ?_)
     case refine_1 => exact b8.out.cell 0
     clear hK K
     try simp only [setIfInBounds_toArray, set_cons_zero, set_cons_succ]
     refine tkY 6 rfl (v := ?_) (.inl ⟨by rfl, ?_⟩) ?_
     case refine_2 => intro w9 hSw; (try dsimp only at hSw); go_simp; (try with_reducible rfl)
     try simp only [Act.put, setIfInBounds_toArray, set_cons_zero, set_cons_succ, getElem_toArray, getElem_cons_zero, getElem_cons_succ]
     refine wpAnyH_ready (rs := [7]) (by kernel_rfl) (by simp) ?_
     refine (AllReadyH.cons rfl (fun K hK => ?_) AllReadyH.nil)
     obtain ⟨ar, au, av, aw, ax, ay, az, a0, a1, a2⟩ := bl.out.all5
     go_simp
     rw [pst_5_1 bl.out]; clear ar au av aw ax ay az a0 a1 a2; have ca := hI (dy.out.far (r := i) (fun e => X.out (by rw [e])) (Nat.le_trans bb (Nat.le_of_lt ab)) 68 #[J, .slice l p o, .slice none 0 0, .int .i64 0, .int .i64 0]); have cb := hI (grown_new dz.out (Nat.le_of_lt ab) 68 #[J, .slice l p o, .slice none 0 0, .int .i64 0, .int .i64 0]); have bm := hI (b8.out.far (g' := i) (t' := 68) (by omega) #[J, .slice l p o, .slice none 0 0, .int .i64 0, .int .i64 0]); have cc := hI (((Mk2.pushed pzD dw.out.swap U.out ad.out bi.out).swap).moved pzD pzD (.inr ⟨i, rfl, by omega⟩) (putB_grown w1515 i 68 #[J, .slice l p o, .slice none 0 0, .int .i64 0, .int .i64 0])); have d0 := hI (show wr.heap.size ≤ (putB w1515 i 68 #[J, .slice l p o, .slice none 0 0, .int .i64 0, .int .i64 0]).heap.size by rw [putB_size]; exact (Nat.le_trans dx.out ad.out.size)); have cd := hI (bl.out.put #[J, .slice l p o, .slice none 0 0, .int .i64 0, .int .i64 0]); obtain ⟨gy, j⟩ := eX (putB w1515 (i) 68 #[J, .slice l p o, .slice none 0 0, .int .i64 0, .int .i64 0])
     try rw [← j] at ca
     try rw [← j] at cb
     try rw [← j] at bm
     try rw [← j] at cc
     try rw [← j] at d0
     try rw [← j] at cd
     rw [← j]; clear j hHeld
     refine hK.out _ _ ?_ (fun hHeld => ?_)
     case refine_1 => exact bm.out.cell 0
     clear hK K
     try simp only [setIfInBounds_toArray, set_cons_zero, set_cons_succ]
     refine wpAnyH_done (by kernel_rfl) ?_ _
     go_wp2_with fail
     go_roundg fu
     case measure => omega
     case rel => exact ⟨k9, q, y ++ [dcN d9], J, .slice l p o, hI (by rw [fd.out, List.map_append]; rfl), by omega, by omega, by omega, by rw [List.length_append]; show y.length + 1 ≤ _; omega, ca, cb, bm, cd, cc⟩
    go_simp
    (with_reducible refine (H.out gw fe.out).mono ?_)
    rintro e w1512 ⟨rfl, d1, bh⟩; have gz := hI (bh.out); have g0 := hI (grown_tr ff.out d1.out); have eq := hI (du.out.grown d1.out a4.out); have fl := hI (eo.out.grown d1.out X.out); have g1 := hI (fg.out.moved pzD pzD (.inr ⟨g, rfl, by omega⟩) d1.out); have g2 := hI (Nat.le_trans fh.out d1.out.size); have g3 := hI (show PzD (fun b => wr.heap.size ≤ b ∧ b < w1512.heap.size) w1512 (dcN d9) from ⟨a8.out.r, a8.out.hs⟩)
    go_wp2_with fail
    clear hHeld
    refine hK.out _ _ ?_ (fun hHeld => ?_)
    case refine_1 => exact eq.out.cell 0
    clear hK K
    try simp only [setIfInBounds_toArray, set_cons_zero, set_cons_succ]
    refine wpAnyH_ready (rs := [1, 4]) (by kernel_rfl) (by simp) ?_
    refine (AllReadyH.cons rfl (fun K hK => ?_) (AllReadyH.cons rfl (fun K hK => ?_) AllReadyH.nil))
    ·
     obtain ⟨ah, ai, aj, ak, al, am, an, ao, ap, aq⟩ := fl.out.all5
     go_simp
     clear ah ai aj ak al am an ao ap aq; clear hHeld
     refine hK.out _ _ ?_ (fun hHeld => ?_)
     case refine_1 => exact eq.out.cell 0
     clear hK K
     try simp only [setIfInBounds_toArray, set_cons_zero, set_cons_succ]
     refine wpAnyH_ready (rs := [4]) (by kernel_rfl) (by simp) ?_
     refine (AllReadyH.cons rfl (fun K hK => ?_) AllReadyH.nil)
     go_simp
     obtain ⟨cr, I, a6, _⟩ := aX w1512 76 #[.string ⟨d9.s.toArray⟩, .int .i64 d9.r.lo.1, .int .i64 d9.r.lo.2, .int .i64 d9.r.hi.1, .int .i64 d9.r.hi.2]; have dv := eq.out.b9 a6; have dw := hI (g1.out.belowW pzD pzD a6.out); have dx := hI (Nat.le_trans g2.out a6.out.size); have fj := hI (show PzD (fun b => wr.heap.size ≤ b ∧ b < cr.heap.size) cr (dcN d9) from pzD.weaken (pzD.lt (pzD.mv g3.out (fun b hb e => by cases e) (grown_none (Nat.le_refl _) a6.out))) (fun b hb => ⟨hb.1.1, hb.2⟩)); have fk := hI (show Blk cr w1512.heap.size 76 (DcN.cells (dcN d9)).toArray by rw [I]; exact Blk.new _ _ _); rw [← I]; clear I; clear hHeld
     refine hK.out _ _ ?_ (fun hHeld => ?_)
     case refine_1 => exact dv.out.cell 0
     clear hK K
     try simp only [setIfInBounds_toArray, set_cons_zero, set_cons_succ]
     refine wpAnyH_ready (rs := [5]) (by kernel_rfl) (by simp) ?_
     refine (AllReadyH.cons rfl (fun K hK => ?_) AllReadyH.nil)
     obtain ⟨N, O, P, Q, R⟩ := info_parts Tryz.infoDecl; have T : ∀ u ∈ DcN.cells (dcN d9), u.oneCell' = true := (by simp [DcN.cells, Value.oneCell'])
     refine if_wanted (by rfl) ?_
     refine oper_append_mk _ _ _ rfl (avd_ok pzD) DcN.len5 rfl dw.out.b (show Avd (Own J) PzD _ _ _ from pzD.weaken fj.out (fun b hb => ⟨⟨by omega, hb.2, fun e => by have := b1 b e.symm; omega⟩, fun e => by have := b0 b e; omega⟩)) N _ 48 Tryz.underlying65 O P Q R rfl (by omega) (by omega) (by omega) w1512.heap.size _ rfl fk.out T (Nat.le_trans cw dx.out) ?_
     intro v9 w1515 hmk hgr hob
     have U := hI hmk; have ad := hI hgr; have bi := hI hob; clear hmk hgr hob O P Q R N T; obtain ⟨l, o, V, _⟩ := U.out.lies (avd_ok pzD); obtain ⟨p, W⟩ := eX ((y ++ [dcN d9]).length); rw [← W] at V; clear W; subst V
     try simp only [Act.put, setIfInBounds_toArray]
     have dy := hI (env_row (gz.out.belowW a6.out) ad.out (fun b h => by have := z b h; omega)); have dz := hI (grown_row (grown_tr g0.out (grown_of (some g) a6.out)) ad.out (fun b h => by have := z b h; omega)); have b8 := hI (dv.out.grown ad.out (fun e => by have := z _ e.symm; omega)); have bl := hI ((fl.out.belowW a6.out).grown ad.out (fun e => by have := z _ e.symm; omega)); clear hHeld
     refine hK.out _ _ ?_ (fun hHeld => ?_)
     case refine_1 => exact b8.out.cell 0
     clear hK K
     try simp only [setIfInBounds_toArray, set_cons_zero, set_cons_succ]
     refine tkY 6 rfl (v := ?_) (.inl ⟨by rfl, ?_⟩) ?_
     case refine_2 => intro w9 hSw; (try dsimp only at hSw); go_simp; (try with_reducible rfl)
     try simp only [Act.put, setIfInBounds_toArray, set_cons_zero, set_cons_succ, getElem_toArray, getElem_cons_zero, getElem_cons_succ]
     refine wpAnyH_ready (rs := [7]) (by kernel_rfl) (by simp) ?_
     refine (AllReadyH.cons rfl (fun K hK => ?_) AllReadyH.nil)
     obtain ⟨ar, au, av, aw, ax, ay, az, a0, a1, a2⟩ := bl.out.all5
     go_simp
     rw [pst_5_1 bl.out]; clear ar au av aw ax ay az a0 a1 a2; have ca := hI (dy.out.far (r := i) (fun e => X.out (by rw [e])) (Nat.le_trans bb (Nat.le_of_lt ab)) 68 #[J, .slice l p o, .slice none 0 0, .int .i64 0, .int .i64 0]); have cb := hI (grown_new dz.out (Nat.le_of_lt ab) 68 #[J, .slice l p o, .slice none 0 0, .int .i64 0, .int .i64 0]); have bm := hI (b8.out.far (g' := i) (t' := 68) (by omega) #[J, .slice l p o, .slice none 0 0, .int .i64 0, .int .i64 0]); have cc := hI (((Mk2.pushed pzD dw.out.swap U.out ad.out bi.out).swap).moved pzD pzD (.inr ⟨i, rfl, by omega⟩) (putB_grown w1515 i 68 #[J, .slice l p o, .slice none 0 0, .int .i64 0, .int .i64 0])); have d0 := hI (show wr.heap.size ≤ (putB w1515 i 68 #[J, .slice l p o, .slice none 0 0, .int .i64 0, .int .i64 0]).heap.size by rw [putB_size]; exact (Nat.le_trans dx.out ad.out.size)); have cd := hI (bl.out.put #[J, .slice l p o, .slice none 0 0, .int .i64 0, .int .i64 0]); obtain ⟨gy, j⟩ := eX (putB w1515 (i) 68 #[J, .slice l p o, .slice none 0 0, .int .i64 0, .int .i64 0])
     try rw [← j] at ca
     try rw [← j] at cb
     try rw [← j] at bm
     try rw [← j] at cc
     try rw [← j] at d0
     try rw [← j] at cd
     rw [← j]; clear j hHeld
     refine hK.out _ _ ?_ (fun hHeld => ?_)
     case refine_1 => exact bm.out.cell 0
     clear hK K
     try simp only [setIfInBounds_toArray, set_cons_zero, set_cons_succ]
     refine wpAnyH_done (by kernel_rfl) ?_ _
     go_wp2_with fail
     go_roundg fu
     case measure => omega
     case rel => exact ⟨k9, q, y ++ [dcN d9], J, .slice l p o, hI (by rw [fd.out, List.map_append]; rfl), by omega, by omega, by omega, by rw [List.length_append]; show y.length + 1 ≤ _; omega, ca, cb, bm, cd, cc⟩
    go_simp
    obtain ⟨bv, I, ba, _⟩ := aX w1512 76 #[.string ⟨d9.s.toArray⟩, .int .i64 d9.r.lo.1, .int .i64 d9.r.lo.2, .int .i64 d9.r.hi.1, .int .i64 d9.r.hi.2]; have c2 := eq.out.b9 ba; have g4 := fl.out.b9 ba; have ep := hI (g1.out.belowW pzD pzD ba.out); have g5 := hI (Nat.le_trans g2.out ba.out.size); have fi := hI (show PzD (fun b => wr.heap.size ≤ b ∧ b < bv.heap.size) bv (dcN d9) from pzD.weaken (pzD.lt (pzD.mv g3.out (fun b hb e => by cases e) (grown_none (Nat.le_refl _) ba.out))) (fun b hb => ⟨hb.1.1, hb.2⟩)); have it := hI (show Blk bv w1512.heap.size 76 (DcN.cells (dcN d9)).toArray by rw [I]; exact Blk.new _ _ _); rw [← I]; clear I; clear hHeld
    refine hK.out _ _ ?_ (fun hHeld => ?_)
    case refine_1 => exact c2.out.cell 0
    clear hK K
    try simp only [setIfInBounds_toArray, set_cons_zero, set_cons_succ]
    refine wpAnyH_ready (rs := [1]) (by kernel_rfl) (by simp) ?_
    refine (AllReadyH.cons rfl (fun K hK => ?_) AllReadyH.nil)
    obtain ⟨ah, ai, aj, ak, al, am, an, ao, ap, aq⟩ := g4.out.all5
    go_simp
    clear ah ai aj ak al am an ao ap aq; clear hHeld
    refine hK.out _ _ ?_ (fun hHeld => ?_)
    case refine_1 => exact c2.out.cell 0
    clear hK K
    try simp only [setIfInBounds_toArray, set_cons_zero, set_cons_succ]
    refine wpAnyH_ready (rs := [5]) (by kernel_rfl) (by simp) ?_
    refine (AllReadyH.cons rfl (fun K hK => ?_) AllReadyH.nil)
    obtain ⟨N, O, P, Q, R⟩ := info_parts Tryz.infoDecl; have T : ∀ u ∈ DcN.cells (dcN d9), u.oneCell' = true := (by simp [DcN.cells, Value.oneCell'])
    refine if_wanted (by rfl) ?_
    refine oper_append_mk _ _ _ rfl (avd_ok pzD) DcN.len5 rfl ep.out.b (show Avd (Own J) PzD _ _ _ from pzD.weaken fi.out (fun b hb => ⟨⟨by omega, hb.2, fun e => by have := b1 b e.symm; omega⟩, fun e => by have := b0 b e; omega⟩)) N _ 48 Tryz.underlying65 O P Q R rfl (by omega) (by omega) (by omega) w1512.heap.size _ rfl it.out T (Nat.le_trans cw g5.out) ?_
    intro v9 w1515 hmk hgr hob
    have U := hI hmk; have ad := hI hgr; have bi := hI hob; clear hmk hgr hob O P Q R N T; obtain ⟨l, o, V, _⟩ := U.out.lies (avd_ok pzD); obtain ⟨p, W⟩ := eX ((y ++ [dcN d9]).length); rw [← W] at V; clear W; subst V
    try simp only [Act.put, setIfInBounds_toArray]
    have dy := hI (env_row (gz.out.belowW ba.out) ad.out (fun b h => by have := z b h; omega)); have dz := hI (grown_row (grown_tr g0.out (grown_of (some g) ba.out)) ad.out (fun b h => by have := z b h; omega)); have b8 := hI (c2.out.grown ad.out (fun e => by have := z _ e.symm; omega)); have bl := hI (g4.out.grown ad.out (fun e => by have := z _ e.symm; omega)); clear hHeld
    refine hK.out _ _ ?_ (fun hHeld => ?_)
    case refine_1 => exact b8.out.cell 0
    clear hK K
    try simp only [setIfInBounds_toArray, set_cons_zero, set_cons_succ]
    refine tkY 6 rfl (v := ?_) (.inl ⟨by rfl, ?_⟩) ?_
    case refine_2 => intro w9 hSw; (try dsimp only at hSw); go_simp; (try with_reducible rfl)
    try simp only [Act.put, setIfInBounds_toArray, set_cons_zero, set_cons_succ, getElem_toArray, getElem_cons_zero, getElem_cons_succ]
    refine wpAnyH_ready (rs := [7]) (by kernel_rfl) (by simp) ?_
    refine (AllReadyH.cons rfl (fun K hK => ?_) AllReadyH.nil)
    obtain ⟨ar, au, av, aw, ax, ay, az, a0, a1, a2⟩ := bl.out.all5
    go_simp
    rw [pst_5_1 bl.out]; clear ar au av aw ax ay az a0 a1 a2; have ca := hI (dy.out.far (r := i) (fun e => X.out (by rw [e])) (Nat.le_trans bb (Nat.le_of_lt ab)) 68 #[J, .slice l p o, .slice none 0 0, .int .i64 0, .int .i64 0]); have cb := hI (grown_new dz.out (Nat.le_of_lt ab) 68 #[J, .slice l p o, .slice none 0 0, .int .i64 0, .int .i64 0]); have bm := hI (b8.out.far (g' := i) (t' := 68) (by omega) #[J, .slice l p o, .slice none 0 0, .int .i64 0, .int .i64 0]); have cc := hI (((Mk2.pushed pzD ep.out.swap U.out ad.out bi.out).swap).moved pzD pzD (.inr ⟨i, rfl, by omega⟩) (putB_grown w1515 i 68 #[J, .slice l p o, .slice none 0 0, .int .i64 0, .int .i64 0])); have d0 := hI (show wr.heap.size ≤ (putB w1515 i 68 #[J, .slice l p o, .slice none 0 0, .int .i64 0, .int .i64 0]).heap.size by rw [putB_size]; exact (Nat.le_trans g5.out ad.out.size)); have cd := hI (bl.out.put #[J, .slice l p o, .slice none 0 0, .int .i64 0, .int .i64 0]); obtain ⟨gy, j⟩ := eX (putB w1515 (i) 68 #[J, .slice l p o, .slice none 0 0, .int .i64 0, .int .i64 0])
    try rw [← j] at ca
    try rw [← j] at cb
    try rw [← j] at bm
    try rw [← j] at cc
    try rw [← j] at d0
    try rw [← j] at cd
    rw [← j]; clear j hHeld
    refine hK.out _ _ ?_ (fun hHeld => ?_)
    case refine_1 => exact bm.out.cell 0
    clear hK K
    try simp only [setIfInBounds_toArray, set_cons_zero, set_cons_succ]
    refine wpAnyH_done (by kernel_rfl) ?_ _
    go_wp2_with fail
    go_roundg fu
    case measure => omega
    case rel => exact ⟨k9, q, y ++ [dcN d9], J, .slice l p o, hI (by rw [fd.out, List.map_append]; rfl), by omega, by omega, by omega, by rw [List.length_append]; show y.length + 1 ≤ _; omega, ca, cb, bm, cd, cc⟩
   | false =>
    rw [hb63] at ds; have es := hI (show RR = (modesP nameP ts (ts.length + 1) Z []).bind fun ms k12 => (wantP ts true kTime k12).bind fun _ k13 => (valP ts k13).bind fun tm k14 => (wantP ts false [59] k14).bind fun _ k15 => .ok ⟨q.map DcN.pl, y.map DcN.pl, ms, tm⟩ k15 by rw [HQ.out, declsP, em, if_neg (by decide), hb63, if_neg (by decide)]; rfl); clear hb63
    go_wp2_with fail
    refine ds.out.mono ?_
    rintro e wa63 ⟨rfl, bu, c0⟩; simp only [Bool.false_eq_true, if_false] at c0; have dt := hI (dg.out.grown bu.out X.out); have d2 := hI (cv.out.moved pzD pzD (.inr ⟨g, rfl, by omega⟩) (grown_tr dh.out bu.out)); obtain ⟨C, D, E, F, iu, iv, g6, g7⟩ := d2.out.lies pzD pzD; obtain ⟨lo, g8⟩ := eX (wa63.heap.size); have j2 : i + 1 ≤ lo := (by rw [g8]; exact dt.out.lt); have fm := hI (g6.lt pzD); have fn := hI (g7.lt pzD); rw [← g8] at fm fn; clear g6 g7 d2 cv b0 b1 em; subst iu iv
    go_wp2_with fail
    go_loopg [] (ts.length + 1) (fun fu wr => ∃ (k6 : Nat) (ms : List MdN) (mv : Value), Hid (RR = (modesP nameP ts fu k6 (ms.map MdN.pl)).bind fun ms k12 => (wantP ts true kTime k12).bind fun _ k13 => (valP ts k13).bind fun tm k14 => (wantP ts false [59] k14).bind fun _ k15 => .ok ⟨q.map DcN.pl, y.map DcN.pl, ms, tm⟩ k15) ∧ k6 ≤ ts.length ∧ ts.length < fu + k6 ∧ ms.length ≤ k6 ∧ Hid (Env w0 g A len cap ts k6 0 wr) ∧ Hid (w.grownBy wr (some g)) ∧ Hid (Blk wr w.heap.size 68 #[.slice none 0 0, .slice none 0 0, .slice none 0 0, .int .i64 0, .int .i64 0]) ∧ Hid (Blk wr i 68 #[.slice C q.length D, .slice E y.length F, mv, .int .i64 0, .int .i64 0]) ∧ Hid (Mk 74 3 MdN.cells PzM lo wr mv ms) ∧ Hid (LiL 5 DcN.cells PzD (fun b => i + 1 ≤ b ∧ b < lo) wr C q.length D q) ∧ Hid (LiL 5 DcN.cells PzD (fun b => i + 1 ≤ b ∧ b < lo) wr E y.length F y) ∧ lo ≤ wr.heap.size)
    case atStart => exact ⟨Z, [], .slice none 0 0, es, by omega, by omega, by simp, c0, (hI (grown_tr df.out bu.out)), (hI (gr.out.grown bu.out a4.out)), dt, hI (Mk.nil _ _ _ _ _ _), fm, fn, by omega⟩
    clear fm fn; obtain ⟨k6, ms, mv, g9, j3, j4, j5, iw, ha, hc, fo, et, hd, he, c4⟩ := hrel
    cases gk with
    | zero => exfalso; omega
    | succ fu =>
     have hf := hI (World.grownBy.refl wr (some g)); have j6 : i < wr.heap.size := fo.out.lt
     have d3 : ∀ kb, mv.ownBlock = some kb → lo ≤ kb ∧ kb < wr.heap.size := fun kb h => et.out.own.lt kb h
     have d4 := hI (pAccept iw.out (by omega) ⟨#[109, 111, 100, 101]⟩); rw [show kwP (⟨#[109, 111, 100, 101]⟩ : ByteArray).data.toList = true by decide, show (⟨#[109, 111, 100, 101]⟩ : ByteArray).data.toList = kMode from rfl] at d4
     cases hb81 : isS true ts k6 kMode with
     | true =>
      have j7 := isS_lt hb81; rw [hb81] at d4; have b2 := hI (show RR = (modeP nameP ts (k6 + 1)).bind fun x k9 => (modesP nameP ts fu k9 (ms.map MdN.pl ++ [x])).bind fun ms k12 => (wantP ts true kTime k12).bind fun _ k13 => (valP ts k13).bind fun tm k14 => (wantP ts false [59] k14).bind fun _ k15 => .ok ⟨q.map DcN.pl, y.map DcN.pl, ms, tm⟩ k15 by rw [g9.out, modesP, hb81, if_pos rfl]; exact bind_assoc' _ _ _); clear hb81
      go_wp2_with fail
      refine d4.out.mono ?_
      rintro e wa81 ⟨rfl, bw, c6⟩; simp only [if_true] at c6; have d6 := hI (grown_tr ha.out bw.out); have hg := hI (fo.out.grown bw.out X.out); have ce := hI (grown_tr hf.out bw.out); have di := hI (et.out.moved pzM (.inr ⟨g, rfl, by omega⟩) ce.out)
      have z : ∀ b, mv.ownBlock = some b → lo ≤ b := fun b h => (d3 b h).1
      have ix := hI (hd.out.mv pzD (fun b hb e => by injection e with e; omega) ce.out); have iy := hI (he.out.mv pzD (fun b hb e => by injection e with e; omega) ce.out)
      go_upto_region 7 with (fail)
      obtain ⟨ln, co, er, M⟩ | ⟨x, k9, M⟩ := pr_cases (mode_no (nm := nameP) (ts := ts) (k6 + 1))
      ·
       have HE := hI (show RR = .bad ln co er by rw [b2.out, M] <;> rfl); have H := hI (fun (w' : World) (h' : Env w0 g A len cap ts (k6 + 1) 0 w') => by have h9 := pMode h' (by omega) hR hX hD; rw [M] at h9; exact h9); clear M; have eu := hI (below_dr wa81); have hh := c6.out.b9 eu; have hj := hI (grown_tr d6.out (grown_of (some g) eu.out)); have c7 := hg.out.b9 eu
       refine wp_region_held_drew (S := fun w' => w'.cell? ⟨i, 0, none⟩ = some (.slice C q.length D) ∧ w'.cell? ⟨i, 1, none⟩ = some (.slice E y.length F) ∧ w'.cell? ⟨i, 2, none⟩ = some (mv) ∧ w'.cell? ⟨i, 3, none⟩ = some (.int .i64 0) ∧ w'.cell? ⟨i, 4, none⟩ = some (.int .i64 0)) (by kernel_rfl) ?_ (fun hHeld => ?_)
       case refine_1 => exact ⟨c7.out.cell 0, c7.out.cell 1, c7.out.cell 2, c7.out.cell 3, c7.out.cell 4⟩
       obtain ⟨iz, ag⟩ := eX (wa81.drew); rw [← ag] at eu hh hj c7 hHeld ⊢; clear ag
       refine tkY 0 rfl (v := ?_) (.inl ⟨by rfl, ?_⟩) ?_
       case refine_2 => intro w9 hSw; (try dsimp only at hSw); go_simp; (try with_reducible rfl)
       try simp only [Act.put, setIfInBounds_toArray, set_cons_zero, set_cons_succ, getElem_toArray, getElem_cons_zero]
       refine tkY 1 rfl (v := ?_) (.inl ⟨by rfl, ?_⟩) ?_
       case refine_2 => intro w9 hSw; (try dsimp only at hSw); go_simp; (try with_reducible rfl)
       try simp only [Act.put, setIfInBounds_toArray, set_cons_zero, set_cons_succ, getElem_toArray, getElem_cons_zero, getElem_cons_succ]
       refine tkY 2 rfl (v := ?_) (.inl ⟨by rfl, ?_⟩) ?_
       case refine_2 => intro w9 hSw; (try dsimp only at hSw); go_simp; (try with_reducible rfl)
       try simp only [Act.put, setIfInBounds_toArray, set_cons_zero, set_cons_succ, getElem_toArray, getElem_cons_zero, getElem_cons_succ]
       refine wpAnyH_ready (rs := [3]) (by kernel_rfl) (by simp) ?_
       refine (AllReadyH.cons rfl (fun K hK => ?_) AllReadyH.nil)
       go_simp
       (with_reducible refine (H.out iz hh.out).mono ?_)
       rintro e w1862 ⟨rfl, bg⟩; clear hHeld
       go_wp2_with fail
       rw [HE.out]
       exact ⟨rfl, prp_bad (hI (grown_tr hj.out bg.out))⟩
      have i1 := (mode_fw (nm := nameP) (ts := ts) (k6 + 1)) _ _ M; have c8 := hI (show RR = (modesP nameP ts fu k9 (ms.map MdN.pl ++ [x])).bind fun ms k12 => (wantP ts true kTime k12).bind fun _ k13 => (valP ts k13).bind fun tm k14 => (wantP ts false [59] k14).bind fun _ k15 => .ok ⟨q.map DcN.pl, y.map DcN.pl, ms, tm⟩ k15 by rw [b2.out, M] <;> rfl); have H := hI (fun (w' : World) (h' : Env w0 g A len cap ts (k6 + 1) 0 w') => by have h9 := pMode h' (by omega) hR hX hD; rw [M] at h9; exact h9); clear M; have bx := hI (below_dr wa81); have fp := c6.out.b9 bx; have fq := hI (grown_tr d6.out (grown_of (some g) bx.out)); have d7 := hI ((hc.out.grown bw.out a4.out).belowW bx.out); have ev := hg.out.b9 bx; have fr := hI (di.out.belowW pzM bx.out); have d8 := hI (Nat.le_trans (show wr.heap.size ≤ wa81.heap.size from ce.out.size) bx.out.size); have fs := hI (ix.out.mv pzD (fun b hb e => by cases e) (grown_none (Nat.le_refl _) bx.out)); have ft := hI (iy.out.mv pzD (fun b hb e => by cases e) (grown_none (Nat.le_refl _) bx.out))
      refine wp_region_held_drew (S := fun w' => w'.cell? ⟨w.heap.size, 0, none⟩ = some (.slice none 0 0)) (by kernel_rfl) ?_ (fun hHeld => ?_)
      case refine_1 => exact d7.out.cell 0
      obtain ⟨hk, ag⟩ := eX (wa81.drew); rw [← ag] at bx fp fq d7 ev fr d8 fs ft hHeld ⊢; clear ag
      refine tkY 0 rfl (v := ?_) (.inl ⟨by rfl, ?_⟩) ?_
      case refine_2 => intro w9 hSw; (try dsimp only at hSw); go_simp; (try with_reducible rfl)
      try simp only [Act.put, setIfInBounds_toArray, set_cons_zero, set_cons_succ, getElem_toArray, getElem_cons_zero]
      refine tkY 2 rfl (v := ?_) (.inl ⟨by rfl, ?_⟩) ?_
      case refine_2 => intro w9 hSw; (try dsimp only at hSw); go_simp; (try with_reducible rfl)
      try simp only [Act.put, setIfInBounds_toArray, set_cons_zero, set_cons_succ, getElem_toArray, getElem_cons_zero, getElem_cons_succ]
      refine wpAnyH_ready (rs := [1, 3]) (by kernel_rfl) (by simp) ?_
      refine (AllReadyH.cons rfl (fun K hK => ?_) (AllReadyH.cons rfl (fun K hK => ?_) AllReadyH.nil))
      ·
       obtain ⟨ah, ai, aj, ak, al, am, an, ao, ap, aq⟩ := ev.out.all5
       go_simp
       clear ah ai aj ak al am an ao ap aq; clear hHeld
       refine hK.out _ _ ?_ (fun hHeld => ?_)
       case refine_1 => exact d7.out.cell 0
       clear hK K
       try simp only [setIfInBounds_toArray, set_cons_zero, set_cons_succ]
       refine wpAnyH_ready (rs := [3]) (by kernel_rfl) (by simp) ?_
       refine (AllReadyH.cons rfl (fun K hK => ?_) AllReadyH.nil)
       go_simp
       (with_reducible refine (H.out hk fp.out).mono ?_)
       rintro e bz ⟨⟨G, rfl, ea, a8⟩, a3, bh⟩; have da := hI (d7.out.grown a3.out a4.out); have i2 := hI (fr.out.moved pzM (.inr ⟨g, rfl, by omega⟩) a3.out); have fv := hI (fs.out.mv pzD (fun b hb e => by injection e with e; omega) a3.out); have fw := hI (ft.out.mv pzD (fun b hb e => by injection e with e; omega) a3.out); have fx := hI (show PzM (fun b => wr.heap.size ≤ b ∧ b < bz.heap.size) bz (G) from pzM.weaken (pzM.lt a8.out) (fun b hb => ⟨Nat.le_trans d8.out hb.1, hb.2⟩)); have ew := hI ea; clear ea
       go_wp2_with fail
       clear hHeld
       refine hK.out _ _ ?_ (fun hHeld => ?_)
       case refine_1 => exact da.out.cell 0
       clear hK K
       try simp only [setIfInBounds_toArray, set_cons_zero, set_cons_succ]
       refine wpAnyH_ready (rs := [4]) (by kernel_rfl) (by simp) ?_
       refine (AllReadyH.cons rfl (fun K hK => ?_) AllReadyH.nil)
       go_simp
       obtain ⟨ct, I, ae, _⟩ := aX bz 74 #[.string G.s, .slice G.A G.n G.c, .slice G.B G.m G.d]; have eb := da.out.b9 ae; have ec := hI (Nat.le_trans (Nat.le_trans d8.out a3.out.size) ae.out.size); have fy := hI (fv.out.mv pzD (fun b hb e => by cases e) (grown_none (Nat.le_refl _) ae.out)); have fz := hI (fw.out.mv pzD (fun b hb e => by cases e) (grown_none (Nat.le_refl _) ae.out)); have f0 := hI (show PzM (fun b => wr.heap.size ≤ b ∧ b < ct.heap.size) ct (G) from pzM.weaken (pzM.lt (pzM.mv fx.out (fun b hb e => by cases e) (grown_none (Nat.le_refl _) ae.out))) (fun b hb => ⟨hb.1.1, hb.2⟩)); have f1 := hI (show Blk ct bz.heap.size 74 (MdN.cells (G)).toArray by rw [I]; exact Blk.new _ _ _); rw [← I]; clear I; clear hHeld
       refine hK.out _ _ ?_ (fun hHeld => ?_)
       case refine_1 => exact eb.out.cell 0
       clear hK K
       try simp only [setIfInBounds_toArray, set_cons_zero, set_cons_succ]
       refine wpAnyH_ready (rs := [5]) (by kernel_rfl) (by simp) ?_
       refine (AllReadyH.cons rfl (fun K hK => ?_) AllReadyH.nil)
       obtain ⟨N, O, P, Q, R⟩ := info_parts Tryz.infoMode; have T : ∀ u ∈ MdN.cells (G), u.oneCell' = true := (by simp [MdN.cells, Value.oneCell'])
       refine if_wanted (by rfl) ?_
       refine oper_append_mk _ _ _ rfl pzM MdN.len3 rfl (i2.out.belowW pzM ae.out) (pzM.weaken f0.out (fun b hb => ⟨by omega, hb.2, fun e => by have := d3 b e.symm; omega⟩)) N _ 64 Tryz.underlying66 O P Q R rfl (by omega) (by omega) (by omega) bz.heap.size _ rfl f1.out T (Nat.le_trans c4 ec.out) ?_
       intro v9 w1875 hmk hgr hob
       have U := hI hmk; have Y := hI hgr; clear hmk hgr hob O P Q R N T; obtain ⟨l, o, V, _⟩ := U.out.lies pzM; obtain ⟨p, W⟩ := eX ((ms ++ [G]).length); rw [← W] at V; clear W; subst V
       try simp only [Act.put, setIfInBounds_toArray]
       have ed := hI (env_row ((bh.out).belowW ae.out) Y.out (fun b h => by have := z b h; omega)); have ee := hI (grown_row (grown_tr (grown_tr fq.out a3.out) (grown_of (some g) ae.out)) Y.out (fun b h => by have := z b h; omega)); have cf := hI (eb.out.grown Y.out (fun e => by have := z _ e.symm; omega)); have bn := hI (((ev.out.grown a3.out X.out).belowW ae.out).grown Y.out (fun e => by have := z _ e.symm; omega)); have ef := hI (fy.out.mv pzD (fun b hb e => by have := z b e.symm; omega) Y.out); have eg := hI (fz.out.mv pzD (fun b hb e => by have := z b e.symm; omega) Y.out); clear hHeld
       refine hK.out _ _ ?_ (fun hHeld => ?_)
       case refine_1 => exact cf.out.cell 0
       clear hK K
       try simp only [setIfInBounds_toArray, set_cons_zero, set_cons_succ]
       refine tkY 6 rfl (v := ?_) (.inl ⟨by rfl, ?_⟩) ?_
       case refine_2 => intro w9 hSw; (try dsimp only at hSw); go_simp; (try with_reducible rfl)
       try simp only [Act.put, setIfInBounds_toArray, set_cons_zero, set_cons_succ, getElem_toArray, getElem_cons_zero, getElem_cons_succ]
       refine wpAnyH_ready (rs := [7]) (by kernel_rfl) (by simp) ?_
       refine (AllReadyH.cons rfl (fun K hK => ?_) AllReadyH.nil)
       obtain ⟨ar, au, av, aw, ax, ay, az, a0, a1, a2⟩ := bn.out.all5
       go_simp
       rw [pst_5_2 bn.out]; clear ar au av aw ax ay az a0 a1 a2; have cg := hI (ed.out.far (r := i) (fun e => X.out (by rw [e])) (Nat.le_trans bb (Nat.le_of_lt ab)) 68 #[.slice C q.length D, .slice E y.length F, .slice l p o, .int .i64 0, .int .i64 0]); have ch := hI (grown_new ee.out (Nat.le_of_lt ab) 68 #[.slice C q.length D, .slice E y.length F, .slice l p o, .int .i64 0, .int .i64 0]); have bo := hI (cf.out.far (g' := i) (t' := 68) (by omega) #[.slice C q.length D, .slice E y.length F, .slice l p o, .int .i64 0, .int .i64 0]); have ci := hI ((U.out).moved pzM (.inr ⟨i, rfl, by omega⟩) (putB_grown w1875 i 68 #[.slice C q.length D, .slice E y.length F, .slice l p o, .int .i64 0, .int .i64 0])); have cj := hI (show wr.heap.size ≤ (putB w1875 i 68 #[.slice C q.length D, .slice E y.length F, .slice l p o, .int .i64 0, .int .i64 0]).heap.size by rw [putB_size]; exact (Nat.le_trans ec.out Y.out.size)); have ck := hI (ef.out.mv pzD (r := some i) (fun b hb e => by injection e with e; omega) (putB_grown w1875 i 68 #[.slice C q.length D, .slice E y.length F, .slice l p o, .int .i64 0, .int .i64 0])); have cl := hI (eg.out.mv pzD (r := some i) (fun b hb e => by injection e with e; omega) (putB_grown w1875 i 68 #[.slice C q.length D, .slice E y.length F, .slice l p o, .int .i64 0, .int .i64 0])); have cm := hI (bn.out.put #[.slice C q.length D, .slice E y.length F, .slice l p o, .int .i64 0, .int .i64 0]); obtain ⟨hm, j⟩ := eX (putB w1875 (i) 68 #[.slice C q.length D, .slice E y.length F, .slice l p o, .int .i64 0, .int .i64 0])
       try rw [← j] at cg
       try rw [← j] at ch
       try rw [← j] at bo
       try rw [← j] at ci
       try rw [← j] at cj
       try rw [← j] at ck
       try rw [← j] at cl
       try rw [← j] at cm
       rw [← j]; clear j hHeld
       refine hK.out _ _ ?_ (fun hHeld => ?_)
       case refine_1 => exact bo.out.cell 0
       clear hK K
       try simp only [setIfInBounds_toArray, set_cons_zero, set_cons_succ]
       refine wpAnyH_done (by kernel_rfl) ?_ _
       go_wp2_with fail
       go_roundg fu
       case measure => omega
       case rel => exact ⟨k9, ms ++ [G], .slice l p o, hI (by rw [c8.out, List.map_append, ← ew.out]; rfl), by omega, by omega, by rw [List.length_append]; show ms.length + 1 ≤ _; omega, cg, ch, bo, cm, ci, ck, cl, Nat.le_trans c4 cj.out⟩
      go_simp
      (with_reducible refine (H.out hk fp.out).mono ?_)
      rintro e w1872 ⟨⟨G, rfl, ea, a8⟩, cu, bh⟩; have ho := hI (bh.out); have hp := hI (grown_tr fq.out cu.out); have ex := hI (d7.out.grown cu.out a4.out); have f2 := hI (ev.out.grown cu.out X.out); have hq := hI (fr.out.moved pzM (.inr ⟨g, rfl, by omega⟩) cu.out); have hr := hI (Nat.le_trans d8.out cu.out.size); have ht := hI (fs.out.mv pzD (fun b hb e => by injection e with e; omega) cu.out); have hu := hI (ft.out.mv pzD (fun b hb e => by injection e with e; omega) cu.out); have hv := hI (show PzM (fun b => wr.heap.size ≤ b ∧ b < w1872.heap.size) w1872 (G) from pzM.weaken (pzM.lt a8.out) (fun b hb => ⟨Nat.le_trans d8.out hb.1, hb.2⟩)); have ew := hI ea; clear ea
      go_wp2_with fail
      clear hHeld
      refine hK.out _ _ ?_ (fun hHeld => ?_)
      case refine_1 => exact ex.out.cell 0
      clear hK K
      try simp only [setIfInBounds_toArray, set_cons_zero, set_cons_succ]
      refine wpAnyH_ready (rs := [1, 4]) (by kernel_rfl) (by simp) ?_
      refine (AllReadyH.cons rfl (fun K hK => ?_) (AllReadyH.cons rfl (fun K hK => ?_) AllReadyH.nil))
      ·
       obtain ⟨ah, ai, aj, ak, al, am, an, ao, ap, aq⟩ := f2.out.all5
       go_simp
       clear ah ai aj ak al am an ao ap aq; clear hHeld
       refine hK.out _ _ ?_ (fun hHeld => ?_)
       case refine_1 => exact ex.out.cell 0
       clear hK K
       try simp only [setIfInBounds_toArray, set_cons_zero, set_cons_succ]
       refine wpAnyH_ready (rs := [4]) (by kernel_rfl) (by simp) ?_
       refine (AllReadyH.cons rfl (fun K hK => ?_) AllReadyH.nil)
       go_simp
       obtain ⟨ct, I, ae, _⟩ := aX w1872 74 #[.string G.s, .slice G.A G.n G.c, .slice G.B G.m G.d]; have eb := ex.out.b9 ae; have ec := hI (Nat.le_trans hr.out ae.out.size); have fy := hI (ht.out.mv pzD (fun b hb e => by cases e) (grown_none (Nat.le_refl _) ae.out)); have fz := hI (hu.out.mv pzD (fun b hb e => by cases e) (grown_none (Nat.le_refl _) ae.out)); have f0 := hI (show PzM (fun b => wr.heap.size ≤ b ∧ b < ct.heap.size) ct (G) from pzM.weaken (pzM.lt (pzM.mv hv.out (fun b hb e => by cases e) (grown_none (Nat.le_refl _) ae.out))) (fun b hb => ⟨hb.1.1, hb.2⟩)); have f1 := hI (show Blk ct w1872.heap.size 74 (MdN.cells (G)).toArray by rw [I]; exact Blk.new _ _ _); rw [← I]; clear I; clear hHeld
       refine hK.out _ _ ?_ (fun hHeld => ?_)
       case refine_1 => exact eb.out.cell 0
       clear hK K
       try simp only [setIfInBounds_toArray, set_cons_zero, set_cons_succ]
       refine wpAnyH_ready (rs := [5]) (by kernel_rfl) (by simp) ?_
       refine (AllReadyH.cons rfl (fun K hK => ?_) AllReadyH.nil)
       obtain ⟨N, O, P, Q, R⟩ := info_parts Tryz.infoMode; have T : ∀ u ∈ MdN.cells (G), u.oneCell' = true := (by simp [MdN.cells, Value.oneCell'])
       refine if_wanted (by rfl) ?_
       refine oper_append_mk _ _ _ rfl pzM MdN.len3 rfl (hq.out.belowW pzM ae.out) (pzM.weaken f0.out (fun b hb => ⟨by omega, hb.2, fun e => by have := d3 b e.symm; omega⟩)) N _ 64 Tryz.underlying66 O P Q R rfl (by omega) (by omega) (by omega) w1872.heap.size _ rfl f1.out T (Nat.le_trans c4 ec.out) ?_
       intro v9 w1875 hmk hgr hob
       have U := hI hmk; have Y := hI hgr; clear hmk hgr hob O P Q R N T; obtain ⟨l, o, V, _⟩ := U.out.lies pzM; obtain ⟨p, W⟩ := eX ((ms ++ [G]).length); rw [← W] at V; clear W; subst V
       try simp only [Act.put, setIfInBounds_toArray]
       have ed := hI (env_row (ho.out.belowW ae.out) Y.out (fun b h => by have := z b h; omega)); have ee := hI (grown_row (grown_tr hp.out (grown_of (some g) ae.out)) Y.out (fun b h => by have := z b h; omega)); have cf := hI (eb.out.grown Y.out (fun e => by have := z _ e.symm; omega)); have bn := hI ((f2.out.belowW ae.out).grown Y.out (fun e => by have := z _ e.symm; omega)); have ef := hI (fy.out.mv pzD (fun b hb e => by have := z b e.symm; omega) Y.out); have eg := hI (fz.out.mv pzD (fun b hb e => by have := z b e.symm; omega) Y.out); clear hHeld
       refine hK.out _ _ ?_ (fun hHeld => ?_)
       case refine_1 => exact cf.out.cell 0
       clear hK K
       try simp only [setIfInBounds_toArray, set_cons_zero, set_cons_succ]
       refine tkY 6 rfl (v := ?_) (.inl ⟨by rfl, ?_⟩) ?_
       case refine_2 => intro w9 hSw; (try dsimp only at hSw); go_simp; (try with_reducible rfl)
       try simp only [Act.put, setIfInBounds_toArray, set_cons_zero, set_cons_succ, getElem_toArray, getElem_cons_zero, getElem_cons_succ]
       refine wpAnyH_ready (rs := [7]) (by kernel_rfl) (by simp) ?_
       refine (AllReadyH.cons rfl (fun K hK => ?_) AllReadyH.nil)
       obtain ⟨ar, au, av, aw, ax, ay, az, a0, a1, a2⟩ := bn.out.all5
       go_simp
       rw [pst_5_2 bn.out]; clear ar au av aw ax ay az a0 a1 a2; have cg := hI (ed.out.far (r := i) (fun e => X.out (by rw [e])) (Nat.le_trans bb (Nat.le_of_lt ab)) 68 #[.slice C q.length D, .slice E y.length F, .slice l p o, .int .i64 0, .int .i64 0]); have ch := hI (grown_new ee.out (Nat.le_of_lt ab) 68 #[.slice C q.length D, .slice E y.length F, .slice l p o, .int .i64 0, .int .i64 0]); have bo := hI (cf.out.far (g' := i) (t' := 68) (by omega) #[.slice C q.length D, .slice E y.length F, .slice l p o, .int .i64 0, .int .i64 0]); have ci := hI ((U.out).moved pzM (.inr ⟨i, rfl, by omega⟩) (putB_grown w1875 i 68 #[.slice C q.length D, .slice E y.length F, .slice l p o, .int .i64 0, .int .i64 0])); have cj := hI (show wr.heap.size ≤ (putB w1875 i 68 #[.slice C q.length D, .slice E y.length F, .slice l p o, .int .i64 0, .int .i64 0]).heap.size by rw [putB_size]; exact (Nat.le_trans ec.out Y.out.size)); have ck := hI (ef.out.mv pzD (r := some i) (fun b hb e => by injection e with e; omega) (putB_grown w1875 i 68 #[.slice C q.length D, .slice E y.length F, .slice l p o, .int .i64 0, .int .i64 0])); have cl := hI (eg.out.mv pzD (r := some i) (fun b hb e => by injection e with e; omega) (putB_grown w1875 i 68 #[.slice C q.length D, .slice E y.length F, .slice l p o, .int .i64 0, .int .i64 0])); have cm := hI (bn.out.put #[.slice C q.length D, .slice E y.length F, .slice l p o, .int .i64 0, .int .i64 0]); obtain ⟨hm, j⟩ := eX (putB w1875 (i) 68 #[.slice C q.length D, .slice E y.length F, .slice l p o, .int .i64 0, .int .i64 0])
       try rw [← j] at cg
       try rw [← j] at ch
       try rw [← j] at bo
       try rw [← j] at ci
       try rw [← j] at cj
       try rw [← j] at ck
       try rw [← j] at cl
       try rw [← j] at cm
       rw [← j]; clear j hHeld
       refine hK.out _ _ ?_ (fun hHeld => ?_)
       case refine_1 => exact bo.out.cell 0
       clear hK K
       try simp only [setIfInBounds_toArray, set_cons_zero, set_cons_succ]
       refine wpAnyH_done (by kernel_rfl) ?_ _
       go_wp2_with fail
       go_roundg fu
       case measure => omega
       case rel => exact ⟨k9, ms ++ [G], .slice l p o, hI (by rw [c8.out, List.map_append, ← ew.out]; rfl), by omega, by omega, by rw [List.length_append]; show ms.length + 1 ≤ _; omega, cg, ch, bo, cm, ci, ck, cl, Nat.le_trans c4 cj.out⟩
      go_simp
      obtain ⟨bz, I, a3, _⟩ := aX w1872 74 #[.string G.s, .slice G.A G.n G.c, .slice G.B G.m G.d]; have da := ex.out.b9 a3; have hy := f2.out.b9 a3; have hz := hI (Nat.le_trans hr.out a3.out.size); have fv := hI (ht.out.mv pzD (fun b hb e => by cases e) (grown_none (Nat.le_refl _) a3.out)); have fw := hI (hu.out.mv pzD (fun b hb e => by cases e) (grown_none (Nat.le_refl _) a3.out)); have fx := hI (show PzM (fun b => wr.heap.size ≤ b ∧ b < bz.heap.size) bz (G) from pzM.weaken (pzM.lt (pzM.mv hv.out (fun b hb e => by cases e) (grown_none (Nat.le_refl _) a3.out))) (fun b hb => ⟨hb.1.1, hb.2⟩)); have i3 := hI (show Blk bz w1872.heap.size 74 (MdN.cells (G)).toArray by rw [I]; exact Blk.new _ _ _); rw [← I]; clear I; clear hHeld
      refine hK.out _ _ ?_ (fun hHeld => ?_)
      case refine_1 => exact da.out.cell 0
      clear hK K
      try simp only [setIfInBounds_toArray, set_cons_zero, set_cons_succ]
      refine wpAnyH_ready (rs := [1]) (by kernel_rfl) (by simp) ?_
      refine (AllReadyH.cons rfl (fun K hK => ?_) AllReadyH.nil)
      obtain ⟨ah, ai, aj, ak, al, am, an, ao, ap, aq⟩ := hy.out.all5
      go_simp
      clear ah ai aj ak al am an ao ap aq; clear hHeld
      refine hK.out _ _ ?_ (fun hHeld => ?_)
      case refine_1 => exact da.out.cell 0
      clear hK K
      try simp only [setIfInBounds_toArray, set_cons_zero, set_cons_succ]
      refine wpAnyH_ready (rs := [5]) (by kernel_rfl) (by simp) ?_
      refine (AllReadyH.cons rfl (fun K hK => ?_) AllReadyH.nil)
      obtain ⟨N, O, P, Q, R⟩ := info_parts Tryz.infoMode; have T : ∀ u ∈ MdN.cells (G), u.oneCell' = true := (by simp [MdN.cells, Value.oneCell'])
      refine if_wanted (by rfl) ?_
      refine oper_append_mk _ _ _ rfl pzM MdN.len3 rfl (hq.out.belowW pzM a3.out) (pzM.weaken fx.out (fun b hb => ⟨by omega, hb.2, fun e => by have := d3 b e.symm; omega⟩)) N _ 64 Tryz.underlying66 O P Q R rfl (by omega) (by omega) (by omega) w1872.heap.size _ rfl i3.out T (Nat.le_trans c4 hz.out) ?_
      intro v9 w1875 hmk hgr hob
      have U := hI hmk; have Y := hI hgr; clear hmk hgr hob O P Q R N T; obtain ⟨l, o, V, _⟩ := U.out.lies pzM; obtain ⟨p, W⟩ := eX ((ms ++ [G]).length); rw [← W] at V; clear W; subst V
      try simp only [Act.put, setIfInBounds_toArray]
      have ed := hI (env_row (ho.out.belowW a3.out) Y.out (fun b h => by have := z b h; omega)); have ee := hI (grown_row (grown_tr hp.out (grown_of (some g) a3.out)) Y.out (fun b h => by have := z b h; omega)); have cf := hI (da.out.grown Y.out (fun e => by have := z _ e.symm; omega)); have bn := hI (hy.out.grown Y.out (fun e => by have := z _ e.symm; omega)); have ef := hI (fv.out.mv pzD (fun b hb e => by have := z b e.symm; omega) Y.out); have eg := hI (fw.out.mv pzD (fun b hb e => by have := z b e.symm; omega) Y.out); clear hHeld
      refine hK.out _ _ ?_ (fun hHeld => ?_)
      case refine_1 => exact cf.out.cell 0
      clear hK K
      try simp only [setIfInBounds_toArray, set_cons_zero, set_cons_succ]
      refine tkY 6 rfl (v := ?_) (.inl ⟨by rfl, ?_⟩) ?_
      case refine_2 => intro w9 hSw; (try dsimp only at hSw); go_simp; (try with_reducible rfl)
      try simp only [Act.put, setIfInBounds_toArray, set_cons_zero, set_cons_succ, getElem_toArray, getElem_cons_zero, getElem_cons_succ]
      refine wpAnyH_ready (rs := [7]) (by kernel_rfl) (by simp) ?_
      refine (AllReadyH.cons rfl (fun K hK => ?_) AllReadyH.nil)
      obtain ⟨ar, au, av, aw, ax, ay, az, a0, a1, a2⟩ := bn.out.all5
      go_simp
      rw [pst_5_2 bn.out]; clear ar au av aw ax ay az a0 a1 a2; have cg := hI (ed.out.far (r := i) (fun e => X.out (by rw [e])) (Nat.le_trans bb (Nat.le_of_lt ab)) 68 #[.slice C q.length D, .slice E y.length F, .slice l p o, .int .i64 0, .int .i64 0]); have ch := hI (grown_new ee.out (Nat.le_of_lt ab) 68 #[.slice C q.length D, .slice E y.length F, .slice l p o, .int .i64 0, .int .i64 0]); have bo := hI (cf.out.far (g' := i) (t' := 68) (by omega) #[.slice C q.length D, .slice E y.length F, .slice l p o, .int .i64 0, .int .i64 0]); have ci := hI ((U.out).moved pzM (.inr ⟨i, rfl, by omega⟩) (putB_grown w1875 i 68 #[.slice C q.length D, .slice E y.length F, .slice l p o, .int .i64 0, .int .i64 0])); have cj := hI (show wr.heap.size ≤ (putB w1875 i 68 #[.slice C q.length D, .slice E y.length F, .slice l p o, .int .i64 0, .int .i64 0]).heap.size by rw [putB_size]; exact (Nat.le_trans hz.out Y.out.size)); have ck := hI (ef.out.mv pzD (r := some i) (fun b hb e => by injection e with e; omega) (putB_grown w1875 i 68 #[.slice C q.length D, .slice E y.length F, .slice l p o, .int .i64 0, .int .i64 0])); have cl := hI (eg.out.mv pzD (r := some i) (fun b hb e => by injection e with e; omega) (putB_grown w1875 i 68 #[.slice C q.length D, .slice E y.length F, .slice l p o, .int .i64 0, .int .i64 0])); have cm := hI (bn.out.put #[.slice C q.length D, .slice E y.length F, .slice l p o, .int .i64 0, .int .i64 0]); obtain ⟨hm, j⟩ := eX (putB w1875 (i) 68 #[.slice C q.length D, .slice E y.length F, .slice l p o, .int .i64 0, .int .i64 0])
      try rw [← j] at cg
      try rw [← j] at ch
      try rw [← j] at bo
      try rw [← j] at ci
      try rw [← j] at cj
      try rw [← j] at ck
      try rw [← j] at cl
      try rw [← j] at cm
      rw [← j]; clear j hHeld
      refine hK.out _ _ ?_ (fun hHeld => ?_)
      case refine_1 => exact bo.out.cell 0
      clear hK K
      try simp only [setIfInBounds_toArray, set_cons_zero, set_cons_succ]
      refine wpAnyH_done (by kernel_rfl) ?_ _
      go_wp2_with fail
      go_roundg fu
      case measure => omega
      case rel => exact ⟨k9, ms ++ [G], .slice l p o, hI (by rw [c8.out, List.map_append, ← ew.out]; rfl), by omega, by omega, by rw [List.length_append]; show ms.length + 1 ≤ _; omega, cg, ch, bo, cm, ci, ck, cl, Nat.le_trans c4 cj.out⟩
     | false =>
      rw [hb81] at d4; have es := hI (show RR = (wantP ts true kTime k6).bind fun _ k13 => (valP ts k13).bind fun tm k14 => (wantP ts false [59] k14).bind fun _ k15 => .ok ⟨q.map DcN.pl, y.map DcN.pl, ms.map MdN.pl, tm⟩ k15 by rw [g9.out, modesP, hb81, if_neg (by decide)]; rfl); clear hb81
      go_wp2_with fail
      refine d4.out.mono ?_
      rintro e wa81 ⟨rfl, bw, c6⟩; simp only [Bool.false_eq_true, if_false] at c6; have d6 := hI (grown_tr ha.out bw.out); have ce := hI (grown_tr hf.out bw.out); have d2 := hI (et.out.moved pzM (.inr ⟨g, rfl, by omega⟩) ce.out); obtain ⟨C5, e5, i4, h0⟩ := d2.out.lies pzM; have i5 := hI h0; have i6 := hI (hd.out.mv pzD (fun b hb e => by injection e with e; omega) ce.out); have i7 := hI (he.out.mv pzD (fun b hb e => by injection e with e; omega) ce.out); clear h0 d2 et d3; subst i4; have H := hI (pWant c6.out (by omega) kTime true (by decide))
      cases hn83 : wantP ts true kTime k6 with
      | out =>
       rw [hn83] at H; clear hn83
       go_wp2_with fail
       refine H.out.mono ?_
       rintro e w9 hx
       exact hx.elim
      | bad ln co er =>
       rw [hn83] at H; have HE := hI (show RR = .bad ln co er by rw [es.out, hn83] <;> rfl); clear hn83
       go_wp2_with fail
       refine H.out.mono ?_
       rintro e w9 ⟨rfl, bg⟩
       go_wp2_with fail
       rw [HE.out]
       exact ⟨rfl, prp_bad (hI (grown_tr d6.out bg.out))⟩
      | ok u3 k13 =>
       rw [hn83] at H; have i1 := (want_fw (ts := ts) true kTime k6) _ _ hn83; have c8 := hI (show RR = (valP ts k13).bind fun tm k14 => (wantP ts false [59] k14).bind fun _ k15 => .ok ⟨q.map DcN.pl, y.map DcN.pl, ms.map MdN.pl, tm⟩ k15 by rw [es.out, hn83] <;> rfl); clear hn83
       go_wp2_with fail
       refine H.out.mono ?_
       rintro e wq83 ⟨hx, db, i8⟩
       cases hx
       have h1 := hI (grown_tr d6.out db.out); have i9 := hI (i6.out.mv pzD (fun b hb e => by injection e with e; omega) db.out); have ja := hI (i7.out.mv pzD (fun b hb e => by injection e with e; omega) db.out); have jb := hI (i5.out.mv pzM (fun b hb e => by injection e with e; omega) db.out); have H := hI (pValue i8.out (by omega) hR)
       cases hn84 : valP ts k13 with
       | out =>
        rw [hn84] at H; clear hn84
        go_wp2_with fail
        refine H.out.mono ?_
        rintro e w9 hx
        exact hx.elim
       | bad ln co er =>
        rw [hn84] at H; have HE := hI (show RR = .bad ln co er by rw [c8.out, hn84] <;> rfl); clear hn84
        go_wp2_with fail
        refine H.out.mono ?_
        rintro e w9 ⟨rfl, bg⟩
        go_wp2_with fail
        rw [HE.out]
        exact ⟨rfl, prp_bad (hI (grown_tr h1.out bg.out))⟩
       | ok tm k14 =>
        rw [hn84] at H; have j8 := (val_fw (ts := ts) k13) _ _ hn84; have h2 := hI (show RR = (wantP ts false [59] k14).bind fun _ k15 => .ok ⟨q.map DcN.pl, y.map DcN.pl, ms.map MdN.pl, tm⟩ k15 by rw [c8.out, hn84] <;> rfl); obtain ⟨j9, ka, kc, kd⟩ := val_sm ts k13 tm k14 hn84; clear hn84
        go_wp2_with fail
        refine H.out.mono ?_
        rintro e wq84 ⟨hx, dc, jc⟩
        cases hx
        have f3 := hI (((fo.out.grown bw.out X.out).grown db.out X.out).grown dc.out X.out); have jd := hI (i9.out.mv pzD (fun b hb e => by injection e with e; omega) dc.out); have je := hI (ja.out.mv pzD (fun b hb e => by injection e with e; omega) dc.out); have jf := hI (jb.out.mv pzM (fun b hb e => by injection e with e; omega) dc.out); obtain ⟨h3, h4, h5, h6, h7, h8, ia, ib, ic, id⟩ := f3.out.all5
        go_upto_region 10 with (fail)
        rw [pst34 f3.out]; have ie := hI (f3.out.put #[.slice C q.length D, .slice E y.length F, .slice C5 ms.length e5, .int .i64 tm.1, .int .i64 tm.2]); have f4 := hI (grown_new (grown_tr h1.out dc.out) (Nat.le_of_lt ab) 68 #[.slice C q.length D, .slice E y.length F, .slice C5 ms.length e5, .int .i64 tm.1, .int .i64 tm.2]); have ig := hI (jc.out.far (r := i) (fun e => X.out (by rw [e])) (Nat.le_trans bb (Nat.le_of_lt ab)) 68 #[.slice C q.length D, .slice E y.length F, .slice C5 ms.length e5, .int .i64 tm.1, .int .i64 tm.2]); have ii := hI ((((hc.out.grown bw.out a4.out).grown db.out a4.out).grown dc.out a4.out).far (g' := i) (t' := 68) (by omega) #[.slice C q.length D, .slice E y.length F, .slice C5 ms.length e5, .int .i64 tm.1, .int .i64 tm.2]); have ij := hI (jd.out.mv pzD (r := some i) (fun b hb e => by injection e with e; omega) (putB_grown wq84 i 68 #[.slice C q.length D, .slice E y.length F, .slice C5 ms.length e5, .int .i64 tm.1, .int .i64 tm.2])); have ik := hI (je.out.mv pzD (r := some i) (fun b hb e => by injection e with e; omega) (putB_grown wq84 i 68 #[.slice C q.length D, .slice E y.length F, .slice C5 ms.length e5, .int .i64 tm.1, .int .i64 tm.2])); have il := hI (jf.out.mv pzM (r := some i) (fun b hb e => by injection e with e; omega) (putB_grown wq84 i 68 #[.slice C q.length D, .slice E y.length F, .slice C5 ms.length e5, .int .i64 tm.1, .int .i64 tm.2])); obtain ⟨jg, j⟩ := eX (putB wq84 i 68 #[.slice C q.length D, .slice E y.length F, .slice C5 ms.length e5, .int .i64 tm.1, .int .i64 tm.2]); have ke : wq84.heap.size ≤ jg.heap.size := (by rw [j, putB_size]; exact Nat.le_refl _); rw [← j] at f4 ig ii ie ij ik il ⊢; clear j h3 h4 h5 h6 h7 h8 ia ib ic id; have H := hI (pWant ig.out (by omega) [59] false (by decide))
        cases hn86 : wantP ts false [59] k14 with
        | out =>
         rw [hn86] at H; clear hn86
         go_wp2_with fail
         refine H.out.mono ?_
         rintro e w9 hx
         exact hx.elim
        | bad ln co er =>
         rw [hn86] at H; have HE := hI (show RR = .bad ln co er by rw [h2.out, hn86] <;> rfl); clear hn86
         go_wp2_with fail
         refine H.out.mono ?_
         rintro e w9 ⟨rfl, bg⟩
         go_wp2_with fail
         rw [HE.out]
         exact ⟨rfl, prp_bad (hI (grown_tr f4.out bg.out))⟩
        | ok u5 k15 =>
         rw [hn86] at H; have kf := (want_fw (ts := ts) false [59] k14) _ _ hn86; have jh := hI (show RR = .ok ⟨q.map DcN.pl, y.map DcN.pl, ms.map MdN.pl, tm⟩ k15 by rw [h2.out, hn86] <;> rfl); clear hn86
         go_wp2_with fail
         refine H.out.mono ?_
         rintro e wq86 ⟨hx, dd, ji⟩
         cases hx
         have f5 := hI (ii.out.grown dd.out a4.out); have jj := hI (ij.out.mv pzD (fun b hb e => by injection e with e; omega) dd.out); have jk := hI (ik.out.mv pzD (fun b hb e => by injection e with e; omega) dd.out); have jl := hI (il.out.mv pzM (fun b hb e => by injection e with e; omega) dd.out); obtain ⟨kg, kh, ki, kj, kk, kl, km, kn, ko, kp⟩ := f5.out.all5; obtain ⟨h3, h4, h5, h6, h7, h8, ia, ib, ic, id⟩ := (ie.out.grown dd.out X.out).all5
         go_wp2_with fail
         rw [pst5 f5.out]; obtain ⟨z0, _, z1, _, z2, _, z3, _, z4, _⟩ := (f5.out.put #[.slice C q.length D, .slice E y.length F, .slice C5 ms.length e5, .int .i64 tm.1, .int .i64 tm.2]).all5
         refine bodyPost_ret (v := .agg #[.slice C q.length D, .slice E y.length F, .slice C5 ms.length e5, .int .i64 tm.1, .int .i64 tm.2]) (by simp [results, Tryz.results69, go_sem, z0, z1, z2, z3, z4]) rfl ?_
         rw [jh.out]
         exact ⟨⟨⟨C, q.length, D, q, E, y.length, F, y, C5, ms.length, e5, ms, tm.1, tm.2⟩, rfl, rfl, hI ⟨((jj.out.mv pzD (r := some w.heap.size) (fun b hb e => by injection e with e; omega) (putB_grown _ _ _ _)).weaken pzD (fun b hb => by omega)), ((jk.out.mv pzD (r := some w.heap.size) (fun b hb e => by injection e with e; omega) (putB_grown _ _ _ _)).weaken pzD (fun b hb => by omega)), ((jl.out.mv pzM (r := some w.heap.size) (fun b hb e => by injection e with e; omega) (putB_grown _ _ _ _)).weaken pzM (fun b hb => by omega)), by show _ ≤ tm.1; omega, by show tm.1 ≤ _; omega, by show _ ≤ tm.2; omega, by show tm.2 ≤ _; omega⟩⟩, hI (grown_new (grown_tr f4.out dd.out) (Nat.le_refl _) _ _), hI (ji.out.far io bb _ _)⟩
end Go.Proofs.YtkjoohnndobjeaaGreatDoor
