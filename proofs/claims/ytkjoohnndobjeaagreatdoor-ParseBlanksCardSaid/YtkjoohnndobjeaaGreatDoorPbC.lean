/-
  The walk of the parser's edges.
-/
import Derived.Test.YtkjoohnndobjeaaGreatDoorPbA
import Derived.Test.YtkjoohnndobjeaaGreatDoorQW
import Derived.Test.YtkjoohnndobjeaaGreatDoorQK
import Derived.Deep.CutBlock
set_option linter.unusedVariables false
set_option maxHeartbeats 4000000
set_option maxRecDepth 100000
namespace Go.Proofs.YtkjoohnndobjeaaGreatDoor
open Go.RowKit Go.Fl Go.Fl.Lx Go.Fl.Nm Go.Fl.Fm Go.Fl.Rt Go.Fl.Pa
open List (setIfInBounds_toArray set_cons_zero set_cons_succ getElem_toArray getElem_cons_zero getElem_cons_succ)
def SmV (T : TE) (w : World) (e : Ending) (w' : World) : Prop := ∃ v : Nd, e = .returned v.val ∧ Hid (InX w.heap.size w' T v)
theorem pSumE {w0 w : World} {g : Nat} {A : Option Addr} {len cap : Nat} {ts : List Tok} {k : Nat} (h : Env w0 g A len cap ts k 0 w) (hk : k ≤ 100000) (hR : RX w0) (hX : FX w0) (hD : DigTs ts) :
 Calls Tryz.prog 48 #[.pointer (some ⟨g, 0, none⟩)] w (PRP SmV w0 g A len cap ts 0 (sumE nameP ts k) w) := by
 refine ((ruls_all w0 g A len cap ts h.t hR hX hD (8 * ts.length + 8)).sum k 0 w (by omega) (by omega) (by omega) h).mono fun e w' hx => ?_
 have hno := sumE_no (nm := nameP) (ts := ts) k
 have he : sumP nameP ts (8 * ts.length + 8) k 0 = sumE nameP ts k := rfl
 rw [he] at hx
 revert hx hno
 cases sumE nameP ts k with
 | ok T k1 => exact fun hx _ => ⟨⟨hx.choose, hx.choose_spec.1, hx.choose_spec.2.1⟩, hx.choose_spec.2.2.1, hx.choose_spec.2.2.2⟩
 | bad l c e => exact fun hx _ => hx
 | out => exact fun _ hno => absurd rfl hno
theorem nmR_len {ts : List Tok} {k k1 : Nat} {n : List UInt8} (h : nmR nameP ts k = .ok n k1) : n.length ≤ 20 := by
 unfold nmR at h
 split at h
 ·
  rename_i h2
  injection h with h _
  rw [← h]
  exact nameP_len h2.2
 exact (unex_ok h).elim
theorem bind_assoc' {α β γ : Type} (r : PR α) (f : α → Nat → PR β) (q : β → Nat → PR γ) : (r.bind f).bind q = r.bind fun a k => (f a k).bind q := by cases r <;> rfl
theorem pst9 {w : World} {g : Nat} {t : TypeId} {a b c d e f u6 h i : Value} (hB : Blk w g t #[a, b, c, d, e, f, u6, h, i]) (a' b' c' d' e' f' u6' h' i' : Value) :
 ((((((((w.setCell ⟨g, 0, none⟩ a').setCell ⟨g, 1, none⟩ b').setCell ⟨g, 2, none⟩ c').setCell ⟨g, 3, none⟩ d').setCell ⟨g, 4, none⟩ e').setCell ⟨g, 5, none⟩ f').setCell ⟨g, 6, none⟩ u6').setCell ⟨g, 7, none⟩ h').setCell ⟨g, 8, none⟩ i' = putB w g t #[a', b', c', d', e', f', u6', h', i'] := by
 rw [show w.setCell ⟨g, 0, none⟩ a' = putB w g t #[a', b, c, d, e, f, u6, h, i] from hB.setCell_eq 0 a']
 have j := hB.put #[a', b, c, d, e, f, u6, h, i]
 rw [show (putB w g t #[a', b, c, d, e, f, u6, h, i]).setCell ⟨g, 1, none⟩ b' = putB (putB w g t #[a', b, c, d, e, f, u6, h, i]) g t #[a', b', c, d, e, f, u6, h, i] from j.setCell_eq 1 b', putB_putB]
 have k := hB.put #[a', b', c, d, e, f, u6, h, i]
 rw [show (putB w g t #[a', b', c, d, e, f, u6, h, i]).setCell ⟨g, 2, none⟩ c' = putB (putB w g t #[a', b', c, d, e, f, u6, h, i]) g t #[a', b', c', d, e, f, u6, h, i] from k.setCell_eq 2 c', putB_putB]
 have l := hB.put #[a', b', c', d, e, f, u6, h, i]
 rw [show (putB w g t #[a', b', c', d, e, f, u6, h, i]).setCell ⟨g, 3, none⟩ d' = putB (putB w g t #[a', b', c', d, e, f, u6, h, i]) g t #[a', b', c', d', e, f, u6, h, i] from l.setCell_eq 3 d', putB_putB]
 have m := hB.put #[a', b', c', d', e, f, u6, h, i]
 rw [show (putB w g t #[a', b', c', d', e, f, u6, h, i]).setCell ⟨g, 4, none⟩ e' = putB (putB w g t #[a', b', c', d', e, f, u6, h, i]) g t #[a', b', c', d', e', f, u6, h, i] from m.setCell_eq 4 e', putB_putB]
 have n := hB.put #[a', b', c', d', e', f, u6, h, i]
 rw [show (putB w g t #[a', b', c', d', e', f, u6, h, i]).setCell ⟨g, 5, none⟩ f' = putB (putB w g t #[a', b', c', d', e', f, u6, h, i]) g t #[a', b', c', d', e', f', u6, h, i] from n.setCell_eq 5 f', putB_putB]
 have o := hB.put #[a', b', c', d', e', f', u6, h, i]
 rw [show (putB w g t #[a', b', c', d', e', f', u6, h, i]).setCell ⟨g, 6, none⟩ u6' = putB (putB w g t #[a', b', c', d', e', f', u6, h, i]) g t #[a', b', c', d', e', f', u6', h, i] from o.setCell_eq 6 u6', putB_putB]
 have p := hB.put #[a', b', c', d', e', f', u6', h, i]
 rw [show (putB w g t #[a', b', c', d', e', f', u6', h, i]).setCell ⟨g, 7, none⟩ h' = putB (putB w g t #[a', b', c', d', e', f', u6', h, i]) g t #[a', b', c', d', e', f', u6', h', i] from p.setCell_eq 7 h', putB_putB]
 have q := hB.put #[a', b', c', d', e', f', u6', h', i]
 rw [show (putB w g t #[a', b', c', d', e', f', u6', h', i]).setCell ⟨g, 8, none⟩ i' = putB (putB w g t #[a', b', c', d', e', f', u6', h', i]) g t #[a', b', c', d', e', f', u6', h', i'] from q.setCell_eq 8 i', putB_putB]
theorem pst16 {w : World} {g : Nat} {t : TypeId} {a b c d e f u6 : Value} (hB : Blk w g t #[a, b, c, d, e, f, u6]) (b' c' d' e' f' u6' : Value) :
 (((((w.setCell ⟨g, 1, none⟩ b').setCell ⟨g, 2, none⟩ c').setCell ⟨g, 3, none⟩ d').setCell ⟨g, 4, none⟩ e').setCell ⟨g, 5, none⟩ f').setCell ⟨g, 6, none⟩ u6' = putB w g t #[a, b', c', d', e', f', u6'] := by
 rw [show w.setCell ⟨g, 1, none⟩ b' = putB w g t #[a, b', c, d, e, f, u6] from hB.setCell_eq 1 b']
 have i := hB.put #[a, b', c, d, e, f, u6]
 rw [show (putB w g t #[a, b', c, d, e, f, u6]).setCell ⟨g, 2, none⟩ c' = putB (putB w g t #[a, b', c, d, e, f, u6]) g t #[a, b', c', d, e, f, u6] from i.setCell_eq 2 c', putB_putB]
 have j := hB.put #[a, b', c', d, e, f, u6]
 rw [show (putB w g t #[a, b', c', d, e, f, u6]).setCell ⟨g, 3, none⟩ d' = putB (putB w g t #[a, b', c', d, e, f, u6]) g t #[a, b', c', d', e, f, u6] from j.setCell_eq 3 d', putB_putB]
 have k := hB.put #[a, b', c', d', e, f, u6]
 rw [show (putB w g t #[a, b', c', d', e, f, u6]).setCell ⟨g, 4, none⟩ e' = putB (putB w g t #[a, b', c', d', e, f, u6]) g t #[a, b', c', d', e', f, u6] from k.setCell_eq 4 e', putB_putB]
 have l := hB.put #[a, b', c', d', e', f, u6]
 rw [show (putB w g t #[a, b', c', d', e', f, u6]).setCell ⟨g, 5, none⟩ f' = putB (putB w g t #[a, b', c', d', e', f, u6]) g t #[a, b', c', d', e', f', u6] from l.setCell_eq 5 f', putB_putB]
 have m := hB.put #[a, b', c', d', e', f', u6]
 rw [show (putB w g t #[a, b', c', d', e', f', u6]).setCell ⟨g, 6, none⟩ u6' = putB (putB w g t #[a, b', c', d', e', f', u6]) g t #[a, b', c', d', e', f', u6'] from m.setCell_eq 6 u6', putB_putB]
theorem EqN.len7 (z : EqN) : (EqN.cells z).length = 7 := rfl
theorem env_row {w0 w w' : World} {g : Nat} {A : Option Addr} {len cap : Nat} {ts : List Tok} {k m : Nat} {r : Option Nat} (h : Env w0 g A len cap ts k m w) (hg : w.grownBy w' r) (hr : ∀ b, r = some b → g < b) : Env w0 g A len cap ts k m w' :=
 ⟨h.t, ⟨hg.os.trans h.b.os, hg.tape.trans h.b.tape, hg.output.trans h.b.output, Nat.le_trans h.b.size hg.size, fun j hj => (hg.block j (Nat.lt_of_lt_of_le hj h.b.size) (fun e => by have := hr j e.symm; have := h.lo; omega)).trans (h.b.block j hj)⟩, h.lo, Blk.grown h.p hg (fun e => by have := hr g e.symm; omega), h.kk⟩
theorem grown_row {w wA w9 : World} {g : Nat} {r : Option Nat} (h : w.grownBy wA (some g)) (h2 : wA.grownBy w9 r) (hr : ∀ b, r = some b → w.heap.size ≤ b) : w.grownBy w9 (some g) :=
 ⟨h2.os.trans h.os, h2.tape.trans h.tape, h2.output.trans h.output, Nat.le_trans h.size h2.size, fun k hk hne => (h2.block k (Nat.lt_of_lt_of_le hk h.size) (fun e => by have := hr k e.symm; omega)).trans (h.block k hk hne)⟩
theorem lil_nil {Z : Type} {m : Nat} {cells : Z → List Value} {Pz : (Nat → Prop) → World → Z → Prop} (P : Nat → Prop) (w : World) : LiL m cells Pz P w none 0 0 ([] : List Z) :=
 ⟨⟨rfl, Nat.le_refl _, Nat.zero_le _, Rd.none_ _ _, fun z hz => by cases hz⟩, fun hn => absurd hn (Nat.lt_irrefl 0)⟩
theorem Tryz.infoReset : (Tryz.prog.info? 82).map (fun i => (i.zero, i.size, i.bytes)) = some (some (.agg #[.string ⟨#[]⟩, .int .i64 0, .int .i64 0, .int .i64 0, .string ⟨#[]⟩, .int .i64 0, .slice none 0 0]), 7, 88) := by kernel_rfl
theorem unex_bind {α β : Type} {ts : List Tok} {k : Nat} (f : α → Nat → PR β) (h : True) : (unex ts k : PR α).bind f = unex ts k := by
 unfold unex failP
 split <;> rfl
def EdV (d : EdP) (w : World) (e : Ending) (w' : World) : Prop := ∃ x : EdN, e = .returned x.val ∧ x.pl = d ∧ Hid (PzG (fun b => w.heap.size ≤ b) w' x)

theorem pEdge {w0 w : World} {g : Nat} {A : Option Addr} {len cap : Nat} {ts : List Tok} {k : Nat} (h : Env w0 g A len cap ts k 0 w) (hk : k ≤ 100000) (hR : RX w0) (hX : FX w0) (hD : DigTs ts) : Calls Tryz.prog 143 #[.pointer (some ⟨g, 0, none⟩)] w (PRP EdV w0 g A len cap ts 0 (edgeP nameP ts k) w) := by
 obtain ⟨l, bd⟩ := eX (edgeP nameP ts k)
 have e1 := hI bd
 rw [← bd]
 clear bd
 have g0 : ts.length ≤ 100000 := by have := h.t.hl; have := h.t.hs; omega
 go_enter Tryz.func143, Tryz.ntmps143
 go_upto_region 1 with (fail)
 obtain ⟨w1, cu, O1, F1⟩ := aX w 81 #[.int .i64 0, .int .i64 0, .int .i64 0, .string ⟨#[]⟩, .int .i64 0, .slice none 0 0, .int .i64 0, .string ⟨#[]⟩, .slice none 0 0]
 rw [← cu]
 clear cu
 have x := hI (show some w.heap.size ≠ some g from fun e => by have := h.gl; injection e with e; omega)
 have cx : w.heap.size ≠ g := fun e => x.out (by rw [e])
 have ab : w0.heap.size ≤ w.heap.size := h.b.size
 have cy := hI (h.belowW O1.out)
 have cz := hI (grown_of (some g) O1.out)
 clear h
 have c0 := hI (show l = (sumE nameP ts k).bind fun g1 k1 => (dirP ts k1).bind fun d k2 => (wantP ts true kGoto k2).bind fun _ k3 => (nmR nameP ts k3).bind fun n k4 => (withP nameP ts k4).bind fun rs k5 => (wantP ts false [59] k5).bind fun _ k6 => .ok ⟨g1, d, n, rs⟩ k6 from e1.out)
 have c := hI (pSumE cy.out (by omega) hR hX hD)
 cases hn1 : sumE nameP ts k with
 | out =>
  rw [hn1] at c; clear hn1
  go_wp2_with fail
  refine c.out.mono ?_
  rintro e w9 j
  exact j.elim
 | bad ln co er =>
  rw [hn1] at c; have p := hI (show l = .bad ln co er by rw [c0.out, hn1] <;> rfl); clear hn1
  go_wp2_with fail
  refine c.out.mono ?_
  rintro e w9 ⟨rfl, q⟩
  go_wp2_with fail
  rw [p.out]
  exact ⟨rfl, prp_bad (hI (grown_tr cz.out q.out))⟩
 | ok g1 k1 =>
  rw [hn1] at c; have g2 := (sumE_fw (nm := nameP) (ts := ts) k) _ _ hn1; have be := hI (show l = (dirP ts k1).bind fun d k2 => (wantP ts true kGoto k2).bind fun _ k3 => (nmR nameP ts k3).bind fun n k4 => (withP nameP ts k4).bind fun rs k5 => (wantP ts false [59] k5).bind fun _ k6 => .ok ⟨g1, d, n, rs⟩ k6 by rw [c0.out, hn1] <;> rfl); clear hn1
  go_wp2_with fail
  refine c.out.mono ?_
  rintro e wq1 ⟨j, bf, c1⟩; obtain ⟨v, j, e4⟩ := j
  cases j
  obtain ⟨lo, a1⟩ := eX (w1.heap.size); obtain ⟨hi, c2⟩ := eX (wq1.heap.size); have g3 : g < lo := (by rw [a1]; exact cy.out.gl); have g4 : w.heap.size < lo := (by rw [a1]; exact F1.out.lt); have g5 : lo ≤ hi := (by rw [a1, c2]; exact bf.out.size); have NX := hI (show InA (fun b => lo ≤ b ∧ b < hi) wq1 g1 v by rw [a1, c2]; exact InA.lt e4.out); have c3 := hI (F1.out.grown bf.out x.out)
  go_upto_block 0 with (fail)
  obtain ⟨g6, m, a2, bg⟩ := aX wq1 81 #[.int .i64 v.h.kind, .int .i64 v.h.n, .int .i64 v.h.d, .string v.h.name, .int .i64 v.h.k, .slice v.A v.len v.cap, .int .i64 0, .string ⟨#[]⟩, .slice none 0 0]; rw [← m]; clear m; obtain ⟨i, bh⟩ := eX (wq1.heap.size); have o := hI (show some i ≠ some g from fun e => by have := c1.out.gl; injection e with e; omega); have Z : w.heap.size < i := (by rw [bh]; exact c3.out.lt); rw [← bh] at bg ⊢; have e6 : hi ≤ i := (by omega); clear bh; have c4 := hI (grown_tr (grown_tr cz.out bf.out) (grown_of (some g) a2.out)); have c6 := c3.out.b9 a2; have c7 := NX.out.b9 a2
  go_cut [10] (fun s10 wx => ∃ (d : Int) (k2 : Nat), Hid (l = (wantP ts true kGoto k2).bind fun _ k3 => (nmR nameP ts k3).bind fun n k4 => (withP nameP ts k4).bind fun rs k5 => (wantP ts false [59] k5).bind fun _ k6 => .ok ⟨g1, d, n, rs⟩ k6) ∧ k2 ≤ ts.length ∧ 1 ≤ d ∧ d ≤ 2 ∧ Hid (Env w0 g A len cap ts k2 0 wx) ∧ Hid (w.grownBy wx (some g)) ∧ Hid (Blk wx w.heap.size 81 #[.int .i64 0, .int .i64 0, .int .i64 0, .string ⟨#[]⟩, .int .i64 0, .slice none 0 0, .int .i64 0, .string ⟨#[]⟩, .slice none 0 0]) ∧ Hid (Blk wx i 81 #[.int .i64 v.h.kind, .int .i64 v.h.n, .int .i64 v.h.d, .string v.h.name, .int .i64 v.h.k, .slice v.A v.len v.cap, .int .i64 d, .string ⟨#[]⟩, .slice none 0 0]) ∧ Hid (InA (fun b => lo ≤ b ∧ b < hi) wx g1 v))
  case first =>
   have am := hI (pAccept (c1.out.belowW a2.out) (by omega) ⟨#[114, 105, 115, 101, 115]⟩); rw [show kwP (⟨#[114, 105, 115, 101, 115]⟩ : ByteArray).data.toList = true by decide, show (⟨#[114, 105, 115, 101, 115]⟩ : ByteArray).data.toList = kRises from rfl] at am
   cases hb3 : isS true ts k1 kRises with
   | true =>
    have g7 := isS_lt hb3; rw [hb3] at am; have e7 := hI (show l = (wantP ts true kGoto (k1 + 1)).bind fun _ k3 => (nmR nameP ts k3).bind fun n k4 => (withP nameP ts k4).bind fun rs k5 => (wantP ts false [59] k5).bind fun _ k6 => .ok ⟨g1, 1, n, rs⟩ k6 by rw [be.out]; unfold dirP; rw [hb3]; rfl); clear hb3
    go_wp2_with fail
    refine am.out.mono ?_
    rintro e wa3 ⟨rfl, X, an⟩; simp only [if_true] at an; have a3 := hI (bg.out.grown X.out o.out); have bi := hI (ina_mv c7.out (fun b hb e => by injection e with e; omega) X.out); obtain ⟨y, z, B, C, D, E, F, G, H, I, J, L, M, N, O, P, Q, R⟩ := a3.out.all9
    go_wp2_with fail
    have ao := (show wa3.setCell ⟨i, 6, none⟩ (.int .i64 1) = putB wa3 i 81 #[.int .i64 v.h.kind, .int .i64 v.h.n, .int .i64 v.h.d, .string v.h.name, .int .i64 v.h.k, .slice v.A v.len v.cap, .int .i64 1, .string ⟨#[]⟩, .slice none 0 0] from a3.out.setCell_eq 6 _); clear y z B C D E F G H I J L M N O P Q R; obtain ⟨y, z, B, C, D, E, F, G, H, I, J, L, M, N, O, P, Q, R⟩ := a3.out.all9; rw [ao]; have c8 := hI (a3.out.put #[.int .i64 v.h.kind, .int .i64 v.h.n, .int .i64 v.h.d, .string v.h.name, .int .i64 v.h.k, .slice v.A v.len v.cap, .int .i64 1, .string ⟨#[]⟩, .slice none 0 0]); have da := hI (grown_new (grown_tr c4.out X.out) (Nat.le_of_lt Z) 81 #[.int .i64 v.h.kind, .int .i64 v.h.n, .int .i64 v.h.d, .string v.h.name, .int .i64 v.h.k, .slice v.A v.len v.cap, .int .i64 1, .string ⟨#[]⟩, .slice none 0 0]); have db := hI (an.out.far (r := i) (fun e => o.out (by rw [e])) (Nat.le_trans ab (Nat.le_of_lt Z)) 81 #[.int .i64 v.h.kind, .int .i64 v.h.n, .int .i64 v.h.d, .string v.h.name, .int .i64 v.h.k, .slice v.A v.len v.cap, .int .i64 1, .string ⟨#[]⟩, .slice none 0 0]); have dc := hI ((c6.out.grown X.out x.out).far (g' := i) (t' := 81) (by omega) #[.int .i64 v.h.kind, .int .i64 v.h.n, .int .i64 v.h.d, .string v.h.name, .int .i64 v.h.k, .slice v.A v.len v.cap, .int .i64 1, .string ⟨#[]⟩, .slice none 0 0]); have dd := hI (bi.out.far (r := i) (by omega) 81 #[.int .i64 v.h.kind, .int .i64 v.h.n, .int .i64 v.h.d, .string v.h.name, .int .i64 v.h.k, .slice v.A v.len v.cap, .int .i64 1, .string ⟨#[]⟩, .slice none 0 0]); obtain ⟨e8, m⟩ := eX (putB wa3 i 81 #[.int .i64 v.h.kind, .int .i64 v.h.n, .int .i64 v.h.d, .string v.h.name, .int .i64 v.h.k, .slice v.A v.len v.cap, .int .i64 1, .string ⟨#[]⟩, .slice none 0 0]); have g8 : wa3.heap.size ≤ e8.heap.size := (by rw [m, putB_size]; exact Nat.le_refl _); rw [← m] at da db dc c8 dd ⊢; clear m y z B C D E F G H I J L M N O P Q R; clear ao
    go_meet
    exact ⟨1, k1 + 1, e7, by omega, by decide, by decide, db, da, dc, c8, dd⟩
   | false =>
    rw [hb3] at am; have de := hb3; clear hb3
    go_wp2_with fail
    refine am.out.mono ?_
    rintro e wa3 ⟨rfl, X, an⟩; simp only [Bool.false_eq_true, if_false] at an; have df := hI (grown_tr c4.out X.out); have bi := hI (ina_mv c7.out (fun b hb e => by injection e with e; omega) X.out); have ap := hI (pAccept an.out (by omega) ⟨#[102, 97, 108, 108, 115]⟩); rw [show kwP (⟨#[102, 97, 108, 108, 115]⟩ : ByteArray).data.toList = true by decide, show (⟨#[102, 97, 108, 108, 115]⟩ : ByteArray).data.toList = kFalls from rfl] at ap
    cases hb5 : isS true ts k1 kFalls with
    | true =>
     have g9 := isS_lt hb5; rw [hb5] at ap; have e9 := hI (show l = (wantP ts true kGoto (k1 + 1)).bind fun _ k3 => (nmR nameP ts k3).bind fun n k4 => (withP nameP ts k4).bind fun rs k5 => (wantP ts false [59] k5).bind fun _ k6 => .ok ⟨g1, 2, n, rs⟩ k6 by rw [be.out]; unfold dirP; rw [de, hb5]; rfl); clear hb5
     go_wp2_with fail
     refine ap.out.mono ?_
     rintro e wa5 ⟨rfl, ag, aq⟩; simp only [if_true] at aq; have a4 := hI ((bg.out.grown X.out o.out).grown ag.out o.out); have fa := hI (ina_mv bi.out (fun b hb e => by injection e with e; omega) ag.out); obtain ⟨y, z, B, C, D, E, F, G, H, I, J, L, M, N, O, P, Q, R⟩ := a4.out.all9
     go_wp2_with fail
     have ao := (show wa5.setCell ⟨i, 6, none⟩ (.int .i64 2) = putB wa5 i 81 #[.int .i64 v.h.kind, .int .i64 v.h.n, .int .i64 v.h.d, .string v.h.name, .int .i64 v.h.k, .slice v.A v.len v.cap, .int .i64 2, .string ⟨#[]⟩, .slice none 0 0] from a4.out.setCell_eq 6 _); clear y z B C D E F G H I J L M N O P Q R; obtain ⟨y, z, B, C, D, E, F, G, H, I, J, L, M, N, O, P, Q, R⟩ := a4.out.all9; rw [ao]; have dg := hI (a4.out.put #[.int .i64 v.h.kind, .int .i64 v.h.n, .int .i64 v.h.d, .string v.h.name, .int .i64 v.h.k, .slice v.A v.len v.cap, .int .i64 2, .string ⟨#[]⟩, .slice none 0 0]); have dh := hI (grown_new (grown_tr df.out ag.out) (Nat.le_of_lt Z) 81 #[.int .i64 v.h.kind, .int .i64 v.h.n, .int .i64 v.h.d, .string v.h.name, .int .i64 v.h.k, .slice v.A v.len v.cap, .int .i64 2, .string ⟨#[]⟩, .slice none 0 0]); have di := hI (aq.out.far (r := i) (fun e => o.out (by rw [e])) (Nat.le_trans ab (Nat.le_of_lt Z)) 81 #[.int .i64 v.h.kind, .int .i64 v.h.n, .int .i64 v.h.d, .string v.h.name, .int .i64 v.h.k, .slice v.A v.len v.cap, .int .i64 2, .string ⟨#[]⟩, .slice none 0 0]); have dj := hI (((c6.out.grown X.out x.out).grown ag.out x.out).far (g' := i) (t' := 81) (by omega) #[.int .i64 v.h.kind, .int .i64 v.h.n, .int .i64 v.h.d, .string v.h.name, .int .i64 v.h.k, .slice v.A v.len v.cap, .int .i64 2, .string ⟨#[]⟩, .slice none 0 0]); have dk := hI (fa.out.far (r := i) (by omega) 81 #[.int .i64 v.h.kind, .int .i64 v.h.n, .int .i64 v.h.d, .string v.h.name, .int .i64 v.h.k, .slice v.A v.len v.cap, .int .i64 2, .string ⟨#[]⟩, .slice none 0 0]); obtain ⟨fb, m⟩ := eX (putB wa5 i 81 #[.int .i64 v.h.kind, .int .i64 v.h.n, .int .i64 v.h.d, .string v.h.name, .int .i64 v.h.k, .slice v.A v.len v.cap, .int .i64 2, .string ⟨#[]⟩, .slice none 0 0]); have ha : wa5.heap.size ≤ fb.heap.size := (by rw [m, putB_size]; exact Nat.le_refl _); rw [← m] at dh di dj dg dk ⊢; clear m y z B C D E F G H I J L M N O P Q R; clear ao
     go_meet
     exact ⟨2, k1 + 1, e9, by omega, by decide, by decide, di, dh, dj, dg, dk⟩
    | false =>
     rw [hb5] at ap; have p := hI (show l = unex ts k1 by rw [be.out]; unfold dirP; rw [de, hb5]; exact unex_bind _ trivial); clear hb5
     go_wp2_with fail
     refine ap.out.mono ?_
     rintro e wa5 ⟨rfl, ag, aq⟩; simp only [Bool.false_eq_true, if_false] at aq
     go_wp2_with fail
     refine aq.out.unx.mono ?_
     rintro e w9 ⟨he, fc⟩; obtain ⟨S, bj⟩ := panU_pan ts k1; have HC := hI bj; rw [bj] at he; subst he; clear bj
     go_wp2_with fail
     rw [p.out]
     exact ⟨rfl, prp_unex HC.out.symm (hI (grown_tr (grown_tr df.out ag.out) (grown_of _ fc.out)))⟩
  obtain ⟨d, k2, HD, hc, hd, hf, dn, bk, dp, dq, dr⟩ := hcut; obtain ⟨w3, hw⟩ := eX (wc); rw [← hw] at dn bk dp dq dr ⊢; clear hw; have c := hI (pWant dn.out (by omega) kGoto true (by decide))
  cases hn41 : wantP ts true kGoto k2 with
  | out =>
   rw [hn41] at c; clear hn41
   go_wp2_with fail
   refine c.out.mono ?_
   rintro e w9 j
   exact j.elim
  | bad ln co er =>
   rw [hn41] at c; have p := hI (show l = .bad ln co er by rw [HD.out, hn41] <;> rfl); clear hn41
   go_wp2_with fail
   refine c.out.mono ?_
   rintro e w9 ⟨rfl, q⟩
   go_wp2_with fail
   rw [p.out]
   exact ⟨rfl, prp_bad (hI (grown_tr bk.out q.out))⟩
  | ok u3 k3 =>
   rw [hn41] at c; have hh := (want_fw (ts := ts) true kGoto k2) _ _ hn41; have dt := hI (show l = (nmR nameP ts k3).bind fun n k4 => (withP nameP ts k4).bind fun rs k5 => (wantP ts false [59] k5).bind fun _ k6 => .ok ⟨g1, d, n, rs⟩ k6 by rw [HD.out, hn41] <;> rfl); clear hn41
   go_wp2_with fail
   refine c.out.mono ?_
   rintro e wq41 ⟨j, a5, fe⟩
   cases j
   have du := hI (grown_tr bk.out a5.out); have ff := hI (ina_mv dr.out (fun b hb e => by injection e with e; omega) a5.out); have c := hI (pNm fe.out (by omega))
   cases hn42 : nmR nameP ts k3 with
   | out =>
    rw [hn42] at c; clear hn42
    go_wp2_with fail
    refine c.out.mono ?_
    rintro e w9 j
    exact j.elim
   | bad ln co er =>
    rw [hn42] at c; have p := hI (show l = .bad ln co er by rw [dt.out, hn42] <;> rfl); clear hn42
    go_wp2_with fail
    refine c.out.mono ?_
    rintro e w9 ⟨rfl, q⟩
    go_wp2_with fail
    rw [p.out]
    exact ⟨rfl, prp_bad (hI (grown_tr du.out q.out))⟩
   | ok n k4 =>
    rw [hn42] at c; have hj := (nmR_fw (nm := nameP) (ts := ts) k3) _ _ hn42; have dv := hI (show l = (withP nameP ts k4).bind fun rs k5 => (wantP ts false [59] k5).bind fun _ k6 => .ok ⟨g1, d, n, rs⟩ k6 by rw [dt.out, hn42] <;> rfl); have hm := nmR_len hn42; clear hn42
    go_wp2_with fail
    refine c.out.mono ?_
    rintro e wq42 ⟨j, a6, fg⟩
    cases j
    have bl := hI ((dq.out.grown a5.out o.out).grown a6.out o.out); have fh := hI (ina_mv ff.out (fun b hb e => by injection e with e; omega) a6.out); obtain ⟨y, z, B, C, D, E, F, G, H, I, J, L, M, N, O, P, Q, R⟩ := bl.out.all9
    go_upto_region 9 with (fail)
    rw [(show wq42.setCell ⟨i, 7, none⟩ (.string ⟨n.toArray⟩) = putB wq42 i 81 #[.int .i64 v.h.kind, .int .i64 v.h.n, .int .i64 v.h.d, .string v.h.name, .int .i64 v.h.k, .slice v.A v.len v.cap, .int .i64 d, .string ⟨n.toArray⟩, .slice none 0 0] from bl.out.setCell_eq 7 _)]; have bm := hI (bl.out.put #[.int .i64 v.h.kind, .int .i64 v.h.n, .int .i64 v.h.d, .string v.h.name, .int .i64 v.h.k, .slice v.A v.len v.cap, .int .i64 d, .string ⟨n.toArray⟩, .slice none 0 0]); have bn := hI (grown_new (grown_tr du.out a6.out) (Nat.le_of_lt Z) 81 #[.int .i64 v.h.kind, .int .i64 v.h.n, .int .i64 v.h.d, .string v.h.name, .int .i64 v.h.k, .slice v.A v.len v.cap, .int .i64 d, .string ⟨n.toArray⟩, .slice none 0 0]); have dw := hI (fg.out.far (r := i) (fun e => o.out (by rw [e])) (Nat.le_trans ab (Nat.le_of_lt Z)) 81 #[.int .i64 v.h.kind, .int .i64 v.h.n, .int .i64 v.h.d, .string v.h.name, .int .i64 v.h.k, .slice v.A v.len v.cap, .int .i64 d, .string ⟨n.toArray⟩, .slice none 0 0]); have bo := hI (((dp.out.grown a5.out x.out).grown a6.out x.out).far (g' := i) (t' := 81) (by omega) #[.int .i64 v.h.kind, .int .i64 v.h.n, .int .i64 v.h.d, .string v.h.name, .int .i64 v.h.k, .slice v.A v.len v.cap, .int .i64 d, .string ⟨n.toArray⟩, .slice none 0 0]); have bp := hI (fh.out.far (r := i) (by omega) 81 #[.int .i64 v.h.kind, .int .i64 v.h.n, .int .i64 v.h.d, .string v.h.name, .int .i64 v.h.k, .slice v.A v.len v.cap, .int .i64 d, .string ⟨n.toArray⟩, .slice none 0 0]); obtain ⟨fi, m⟩ := eX (putB wq42 i 81 #[.int .i64 v.h.kind, .int .i64 v.h.n, .int .i64 v.h.d, .string v.h.name, .int .i64 v.h.k, .slice v.A v.len v.cap, .int .i64 d, .string ⟨n.toArray⟩, .slice none 0 0]); have hn : wq42.heap.size ≤ fi.heap.size := (by rw [m, putB_size]; exact Nat.le_refl _); rw [← m] at bn dw bo bm bp ⊢; clear m y z B C D E F G H I J L M N O P Q R; have ar := hI (pAccept dw.out (by omega) ⟨#[119, 105, 116, 104]⟩); rw [show kwP (⟨#[119, 105, 116, 104]⟩ : ByteArray).data.toList = true by decide, show (⟨#[119, 105, 116, 104]⟩ : ByteArray).data.toList = kWith from rfl] at ar
    cases hb44 : isS true ts k4 kWith with
    | true =>
     have ho := isS_lt hb44; rw [hb44] at ar; have a7 := hI (show l = (resP nameP ts (ts.length + 1) (k4 + 1) []).bind fun rs k5 => (wantP ts false [59] k5).bind fun _ k6 => .ok ⟨g1, d, n, rs⟩ k6 by rw [dv.out]; unfold withP; rw [hb44]; rfl); clear hb44
     go_wp2_with fail
     refine ar.out.mono ?_
     rintro e wa44 ⟨rfl, Y, au⟩; simp only [if_true] at au; have dx := hI (bm.out.grown Y.out o.out); have bq := hI (ina_mv bp.out (fun b hb e => by injection e with e; omega) Y.out)
     go_wp2_with fail
     have hp : i + 1 ≤ wa44.heap.size := dx.out.lt; have hq : g < i := (by have := e6; omega)
     go_loopg [] (ts.length + 1) (fun fu wr => ∃ (k5 : Nat) (s : List EqN) (rv : Value), Hid (l = (resP nameP ts fu k5 (s.map EqN.pl)).bind fun rs k5 => (wantP ts false [59] k5).bind fun _ k6 => .ok ⟨g1, d, n, rs⟩ k6) ∧ k5 ≤ ts.length ∧ ts.length < fu + k5 ∧ s.length ≤ k5 ∧ Hid (Env w0 g A len cap ts k5 0 wr) ∧ Hid (w.grownBy wr (some g)) ∧ Hid (Blk wr w.heap.size 81 #[.int .i64 0, .int .i64 0, .int .i64 0, .string ⟨#[]⟩, .int .i64 0, .slice none 0 0, .int .i64 0, .string ⟨#[]⟩, .slice none 0 0]) ∧ Hid (Blk wr i 81 #[.int .i64 v.h.kind, .int .i64 v.h.n, .int .i64 v.h.d, .string v.h.name, .int .i64 v.h.k, .slice v.A v.len v.cap, .int .i64 d, .string ⟨n.toArray⟩, rv]) ∧ Hid (InA (fun b => lo ≤ b ∧ b < hi) wr g1 v) ∧ Hid (Mk 82 7 EqN.cells PzQ (i + 1) wr rv s))
     case atStart => exact ⟨k4 + 1, [], .slice none 0 0, a7, by omega, by omega, by simp, au, (hI (grown_tr bn.out Y.out)), (hI (bo.out.grown Y.out x.out)), dx, bq, hI (Mk.nil _ _ _ _ _ _)⟩
     obtain ⟨k5, s, rv, HQ, hr, ht, hu, fk, dy, fl, dz, fm, d0⟩ := hrel
     cases gk with
     | zero => exfalso; omega
     | succ fu =>
      have d1 := hI (show l = (nmR nameP ts k5).bind fun n2 k7 => (wantP ts false [61] k7).bind fun _ k8 => (sumE nameP ts k8).bind fun e2 k9 => (if isS false ts k9 [44] then resP nameP ts fu (k9 + 1) (s.map EqN.pl ++ [⟨n2, e2⟩]) else .ok (s.map EqN.pl ++ [⟨n2, e2⟩]) k9).bind fun rs k5 => (wantP ts false [59] k5).bind fun _ k6 => .ok ⟨g1, d, n, rs⟩ k6 by rw [HQ.out, resP]; simp only [bind_assoc']); have hv : i < wr.heap.size := dz.out.lt
      have d2 : ∀ kb, rv.ownBlock = some kb → i + 1 ≤ kb ∧ kb < wr.heap.size := fun kb h => d0.out.own.lt kb h
      have c := hI (pNm fk.out (by omega))
      cases hn61 : nmR nameP ts k5 with
      | out =>
       rw [hn61] at c; clear hn61
       go_wp2_with fail
       refine c.out.mono ?_
       rintro e w9 j
       exact j.elim
      | bad ln co er =>
       rw [hn61] at c; have p := hI (show l = .bad ln co er by rw [d1.out, hn61] <;> rfl); clear hn61
       go_wp2_with fail
       refine c.out.mono ?_
       rintro e w9 ⟨rfl, q⟩
       go_wp2_with fail
       rw [p.out]
       exact ⟨rfl, prp_bad (hI (grown_tr dy.out q.out))⟩
      | ok n2 k7 =>
       rw [hn61] at c; have hy := (nmR_fw (nm := nameP) (ts := ts) k5) _ _ hn61; have d3 := hI (show l = (wantP ts false [61] k7).bind fun _ k8 => (sumE nameP ts k8).bind fun e2 k9 => (if isS false ts k9 [44] then resP nameP ts fu (k9 + 1) (s.map EqN.pl ++ [⟨n2, e2⟩]) else .ok (s.map EqN.pl ++ [⟨n2, e2⟩]) k9).bind fun rs k5 => (wantP ts false [59] k5).bind fun _ k6 => .ok ⟨g1, d, n, rs⟩ k6 by rw [d1.out, hn61] <;> rfl); have hz := nmR_len hn61; clear hn61
       go_wp2_with fail
       refine c.out.mono ?_
       rintro e wq61 ⟨j, ai, d4⟩
       cases j
       have d5 := hI (fl.out.grown ai.out x.out); have d6 := hI (dz.out.grown ai.out o.out); have fn := hI (ina_mv fm.out (fun b hb e => by injection e with e; omega) ai.out)
       go_upto_region 11 with (fail)
       obtain ⟨h0, m, aj, d7⟩ := aX wq61 82 #[.string ⟨n2.toArray⟩, .int .i64 0, .int .i64 0, .int .i64 0, .string ⟨#[]⟩, .int .i64 0, .slice none 0 0]; rw [← m]; clear m; obtain ⟨T, av⟩ := eX (wq61.heap.size); have br := hI (show some T ≠ some g from fun e => by have := d4.out.gl; injection e with e; omega); have d8 : w.heap.size < T := (by rw [av]; exact d5.out.lt); rw [← av] at d7 ⊢; have h1 : wr.heap.size ≤ T := (by rw [av]; exact ai.out.size); have h2 : i < T := (by rw [av]; exact d6.out.lt); have h3 : hi ≤ T := (by omega); clear av; have d9 := hI (grown_tr (grown_tr dy.out ai.out) (grown_of (some g) aj.out)); have c := hI (pWant (d4.out.belowW aj.out) (by omega) [61] false (by decide))
       cases hn63 : wantP ts false [61] k7 with
       | out =>
        rw [hn63] at c; clear hn63
        go_wp2_with fail
        refine c.out.mono ?_
        rintro e w9 j
        exact j.elim
       | bad ln co er =>
        rw [hn63] at c; have p := hI (show l = .bad ln co er by rw [d3.out, hn63] <;> rfl); clear hn63
        go_wp2_with fail
        refine c.out.mono ?_
        rintro e w9 ⟨rfl, q⟩
        go_wp2_with fail
        rw [p.out]
        exact ⟨rfl, prp_bad (hI (grown_tr d9.out q.out))⟩
       | ok u4 k8 =>
        rw [hn63] at c; have h4 := (want_fw (ts := ts) false [61] k7) _ _ hn63; have ea := hI (show l = (sumE nameP ts k8).bind fun e2 k9 => (if isS false ts k9 [44] then resP nameP ts fu (k9 + 1) (s.map EqN.pl ++ [⟨n2, e2⟩]) else .ok (s.map EqN.pl ++ [⟨n2, e2⟩]) k9).bind fun rs k5 => (wantP ts false [59] k5).bind fun _ k6 => .ok ⟨g1, d, n, rs⟩ k6 by rw [d3.out, hn63] <;> rfl); clear hn63
        go_wp2_with fail
        refine c.out.mono ?_
        rintro e wq63 ⟨j, ak, eb⟩
        cases j
        have ec := hI (grown_tr d9.out ak.out); have ed := hI (d7.out.grown ak.out br.out); have fo := hI (ina_mv (fn.out.belowW aj.out) (fun b hb e => by injection e with e; omega) ak.out); have c := hI (pSumE eb.out (by omega) hR hX hD)
        cases hn64 : sumE nameP ts k8 with
        | out =>
         rw [hn64] at c; clear hn64
         go_wp2_with fail
         refine c.out.mono ?_
         rintro e w9 j
         exact j.elim
        | bad ln co er =>
         rw [hn64] at c; have p := hI (show l = .bad ln co er by rw [ea.out, hn64] <;> rfl); clear hn64
         go_wp2_with fail
         refine c.out.mono ?_
         rintro e w9 ⟨rfl, q⟩
         go_wp2_with fail
         rw [p.out]
         exact ⟨rfl, prp_bad (hI (grown_tr ec.out q.out))⟩
        | ok e2 k9 =>
         rw [hn64] at c; have h7 := (sumE_fw (nm := nameP) (ts := ts) k8) _ _ hn64; have ee := hI (show l = (if isS false ts k9 [44] then resP nameP ts fu (k9 + 1) (s.map EqN.pl ++ [⟨n2, e2⟩]) else .ok (s.map EqN.pl ++ [⟨n2, e2⟩]) k9).bind fun rs k5 => (wantP ts false [59] k5).bind fun _ k6 => .ok ⟨g1, d, n, rs⟩ k6 by rw [ea.out, hn64] <;> rfl); clear hn64
         go_wp2_with fail
         refine c.out.mono ?_
         rintro e wq64 ⟨j, ac, fp⟩; obtain ⟨a, j, fq⟩ := j
         cases j
         obtain ⟨a8, a9⟩ := eX (wq63.heap.size); obtain ⟨ef, eg⟩ := eX (wq64.heap.size); have h8 : g < a8 := (by rw [a9]; exact eb.out.gl); have h9 : T < a8 := (by rw [a9]; exact ed.out.lt); have ia : a8 ≤ ef := (by rw [a9, eg]; exact ac.out.size); have fr := hI (show InA (fun b => a8 ≤ b ∧ b < ef) wq64 e2 a by rw [a9, eg]; exact InA.lt fq.out); have bs := hI (ed.out.grown ac.out br.out); have fs := hI (ina_mv fo.out (fun b hb e => by injection e with e; omega) ac.out); obtain ⟨bt, bu, bv, bw, bx, bz, b0, b1, b2, b3, b4, b5, b6, b7⟩ := bs.out.all7
         go_upto_region 13 with (fail)
         rw [pst16 bs.out]; have eh := hI (bs.out.put #[.string ⟨n2.toArray⟩, .int .i64 a.h.kind, .int .i64 a.h.n, .int .i64 a.h.d, .string a.h.name, .int .i64 a.h.k, .slice a.A a.len a.cap]); have ei := hI (grown_new (grown_tr ec.out ac.out) (Nat.le_of_lt d8) 82 #[.string ⟨n2.toArray⟩, .int .i64 a.h.kind, .int .i64 a.h.n, .int .i64 a.h.d, .string a.h.name, .int .i64 a.h.k, .slice a.A a.len a.cap]); have ej := hI (fp.out.far (r := T) (fun e => br.out (by rw [e])) (Nat.le_trans ab (Nat.le_of_lt d8)) 82 #[.string ⟨n2.toArray⟩, .int .i64 a.h.kind, .int .i64 a.h.n, .int .i64 a.h.d, .string a.h.name, .int .i64 a.h.k, .slice a.A a.len a.cap]); have ek := hI ((((d5.out.belowW aj.out).grown ak.out x.out).grown ac.out x.out).far (g' := T) (t' := 82) (by omega) #[.string ⟨n2.toArray⟩, .int .i64 a.h.kind, .int .i64 a.h.n, .int .i64 a.h.d, .string a.h.name, .int .i64 a.h.k, .slice a.A a.len a.cap]); have b8 := hI ((((d6.out.belowW aj.out).grown ak.out o.out).grown ac.out o.out).far (g' := T) (t' := 82) (by omega) #[.string ⟨n2.toArray⟩, .int .i64 a.h.kind, .int .i64 a.h.n, .int .i64 a.h.d, .string a.h.name, .int .i64 a.h.k, .slice a.A a.len a.cap]); have el := hI (fs.out.far (r := T) (by omega) 82 #[.string ⟨n2.toArray⟩, .int .i64 a.h.kind, .int .i64 a.h.n, .int .i64 a.h.d, .string a.h.name, .int .i64 a.h.k, .slice a.A a.len a.cap]); have em := hI (fr.out.far (r := T) (by omega) 82 #[.string ⟨n2.toArray⟩, .int .i64 a.h.kind, .int .i64 a.h.n, .int .i64 a.h.d, .string a.h.name, .int .i64 a.h.k, .slice a.A a.len a.cap]); have en := hI (grown_new (r := T) (grown_tr (grown_tr (grown_tr (grown_tr (World.grownBy.refl wr (some g)) ai.out) (grown_of (some g) aj.out)) ak.out) ac.out) (by omega) 82 #[.string ⟨n2.toArray⟩, .int .i64 a.h.kind, .int .i64 a.h.n, .int .i64 a.h.d, .string a.h.name, .int .i64 a.h.k, .slice a.A a.len a.cap]); obtain ⟨aa, m⟩ := eX (putB wq64 T 82 #[.string ⟨n2.toArray⟩, .int .i64 a.h.kind, .int .i64 a.h.n, .int .i64 a.h.d, .string a.h.name, .int .i64 a.h.k, .slice a.A a.len a.cap]); have ib : wq64.heap.size ≤ aa.heap.size := (by rw [m, putB_size]; exact Nat.le_refl _); rw [← m] at ei ej ek b8 eh el em en ⊢; clear m bt bu bv bw bx bz b0 b1 b2 b3 b4 b5 b6 b7
         have ft : (⟨n2.toArray⟩ : ByteArray).size ≤ maxLen := by
          show n2.toArray.size ≤ _
          rw [List.size_toArray]
          unfold maxLen
          omega
         have ad := hI (below_box aa (Obj.cells #[.string ⟨n2.toArray⟩, .int .i64 a.h.kind, .int .i64 a.h.n, .int .i64 a.h.d, .string a.h.name, .int .i64 a.h.k, .slice a.A a.len a.cap] 82)); have fv := hI ((d0.out.moved pzQ (.inr ⟨g, rfl, by omega⟩) en.out).belowW pzQ ad.out); have fw := hI (show PzQ (fun b => i + 1 ≤ b ∧ b < (aa.alloc (Obj.cells #[.string ⟨n2.toArray⟩, .int .i64 a.h.kind, .int .i64 a.h.n, .int .i64 a.h.d, .string a.h.name, .int .i64 a.h.k, .slice a.A a.len a.cap] 82)).heap.size ∧ some b ≠ rv.ownBlock) (aa.alloc (Obj.cells #[.string ⟨n2.toArray⟩, .int .i64 a.h.kind, .int .i64 a.h.n, .int .i64 a.h.d, .string a.h.name, .int .i64 a.h.k, .slice a.A a.len a.cap] 82)) ⟨⟨n2.toArray⟩, a, e2⟩ from ⟨(em.out.belowW ad.out).weaken (fun b hb => ⟨by omega, by rw [World.size_alloc]; omega, fun e => by have := d2 b e.symm; omega⟩), ft⟩); have fx : ∀ u ∈ EqN.cells (⟨⟨n2.toArray⟩, a, e2⟩ : EqN), u.oneCell' = true := (by simp [EqN.cells, Value.oneCell']); have fy : i + 1 ≤ (aa.alloc (Obj.cells #[.string ⟨n2.toArray⟩, .int .i64 a.h.kind, .int .i64 a.h.n, .int .i64 a.h.d, .string a.h.name, .int .i64 a.h.k, .slice a.A a.len a.cap] 82)).heap.size := (by rw [World.size_alloc]; omega); obtain ⟨y, z, B, C, D, E, F, G, H, I, J, L, M, N, O, P, Q, R⟩ := b8.out.all9; obtain ⟨bt, bu, bv, bw, bx, bz, b0, b1, b2, b3, b4, b5, b6, b7⟩ := eh.out.all7; obtain ⟨i0, ti, ep, eq, es⟩ := info_parts Tryz.infoReset
         go_wp2_with (at_builtin; refine wpList_append_mk rfl _ _ _ rfl pzQ EqN.len7 rfl fv.out fw.out i0 _ 88 Tryz.underlying79 ti ep eq es rfl (by omega) (by omega) (by omega) aa.heap.size _ rfl (show Blk (aa.alloc (Obj.cells #[.string ⟨n2.toArray⟩, .int .i64 a.h.kind, .int .i64 a.h.n, .int .i64 a.h.d, .string a.h.name, .int .i64 a.h.k, .slice a.A a.len a.cap] 82)) aa.heap.size 82 (EqN.cells (⟨⟨n2.toArray⟩, a, e2⟩ : EqN)).toArray from Blk.new _ _ _) fx fy ?_)
         intro v9 w9 hmk hgr hob
         have et := hI hmk; have aw := hI hgr; clear hmk hgr hob ti ep eq es y z B C D E F G H I J L M N O P Q R bt bu bv bw bx bz b0 b1 b2 b3 b4 b5 b6 b7; obtain ⟨U, S, eu, _⟩ := et.out.lies pzQ; obtain ⟨W, ev⟩ := eX ((s ++ [(⟨⟨n2.toArray⟩, a, e2⟩ : EqN)]).length); rw [← ev] at eu; clear ev; subst eu
         have ax : ∀ b, rv.ownBlock = some b → i + 1 ≤ b := fun b h => (d2 b h).1
         have f0 := hI (env_row (ej.out.belowW ad.out) aw.out (fun b h => by have := ax b h; omega)); have q := hI (grown_row (grown_tr ei.out (grown_of (some g) ad.out)) aw.out (fun b h => by have := ax b h; omega)); have f1 := hI ((ek.out.belowW ad.out).grown aw.out (fun e => by have := ax _ e.symm; omega)); have ca := hI ((b8.out.belowW ad.out).grown aw.out (fun e => by have := ax _ e.symm; omega)); have f2 := hI (ina_mv (el.out.belowW ad.out) (fun b hb e => by have := ax b e.symm; omega) aw.out); have ba := hI (et.out.moved pzQ (.inr ⟨i, rfl, Nat.lt_succ_self _⟩) (putB_grown w9 i 81 #[.int .i64 v.h.kind, .int .i64 v.h.n, .int .i64 v.h.d, .string v.h.name, .int .i64 v.h.k, .slice v.A v.len v.cap, .int .i64 d, .string ⟨n.toArray⟩, .slice U W S])); obtain ⟨y, z, B, C, D, E, F, G, H, I, J, L, M, N, O, P, Q, R⟩ := ca.out.all9
         go_upto_region 14 with (fail)
         rw [(show w9.setCell ⟨i, 8, none⟩ (.slice U W S) = putB w9 i 81 #[.int .i64 v.h.kind, .int .i64 v.h.n, .int .i64 v.h.d, .string v.h.name, .int .i64 v.h.k, .slice v.A v.len v.cap, .int .i64 d, .string ⟨n.toArray⟩, .slice U W S] from ca.out.setCell_eq 8 _)]; have cb := hI (ca.out.put #[.int .i64 v.h.kind, .int .i64 v.h.n, .int .i64 v.h.d, .string v.h.name, .int .i64 v.h.k, .slice v.A v.len v.cap, .int .i64 d, .string ⟨n.toArray⟩, .slice U W S]); have cc := hI (grown_new q.out (Nat.le_of_lt Z) 81 #[.int .i64 v.h.kind, .int .i64 v.h.n, .int .i64 v.h.d, .string v.h.name, .int .i64 v.h.k, .slice v.A v.len v.cap, .int .i64 d, .string ⟨n.toArray⟩, .slice U W S]); have ew := hI (f0.out.far (r := i) (fun e => o.out (by rw [e])) (Nat.le_trans ab (Nat.le_of_lt Z)) 81 #[.int .i64 v.h.kind, .int .i64 v.h.n, .int .i64 v.h.d, .string v.h.name, .int .i64 v.h.k, .slice v.A v.len v.cap, .int .i64 d, .string ⟨n.toArray⟩, .slice U W S]); have cd := hI (f1.out.far (g' := i) (t' := 81) (by omega) #[.int .i64 v.h.kind, .int .i64 v.h.n, .int .i64 v.h.d, .string v.h.name, .int .i64 v.h.k, .slice v.A v.len v.cap, .int .i64 d, .string ⟨n.toArray⟩, .slice U W S]); have ce := hI (f2.out.far (r := i) (by omega) 81 #[.int .i64 v.h.kind, .int .i64 v.h.n, .int .i64 v.h.d, .string v.h.name, .int .i64 v.h.k, .slice v.A v.len v.cap, .int .i64 d, .string ⟨n.toArray⟩, .slice U W S]); obtain ⟨f3, m⟩ := eX (putB w9 i 81 #[.int .i64 v.h.kind, .int .i64 v.h.n, .int .i64 v.h.d, .string v.h.name, .int .i64 v.h.k, .slice v.A v.len v.cap, .int .i64 d, .string ⟨n.toArray⟩, .slice U W S]); have ic : w9.heap.size ≤ f3.heap.size := (by rw [m, putB_size]; exact Nat.le_refl _); rw [← m] at cc ew cd cb ce ba ⊢; clear m y z B C D E F G H I J L M N O P Q R; have ay := hI (pAccept ew.out (by omega) ⟨#[44]⟩); rw [show kwP (⟨#[44]⟩ : ByteArray).data.toList = false by decide, show (⟨#[44]⟩ : ByteArray).data.toList = [44] from rfl] at ay
         cases hb68 : isS false ts k9 [44] with
         | true =>
          have id := isS_lt hb68; rw [hb68] at ay; have f4 := hI (show l = (resP nameP ts fu (k9 + 1) ((s ++ [(⟨⟨n2.toArray⟩, a, e2⟩ : EqN)]).map EqN.pl)).bind fun rs k5 => (wantP ts false [59] k5).bind fun _ k6 => .ok ⟨g1, d, n, rs⟩ k6 by rw [ee.out, hb68, if_pos rfl, List.map_append]; rfl); clear hb68
          go_wp2_with fail
          refine ay.out.mono ?_
          rintro e wa68 ⟨rfl, V, az⟩; simp only [if_true] at az; have cf := hI (ina_mv ce.out (fun b hb e => by injection e with e; omega) V.out); have bb := hI (ba.out.moved pzQ (.inr ⟨g, rfl, by omega⟩) V.out)
          go_wp2_with fail
          go_roundg fu
          case measure => omega
          case rel => exact ⟨k9 + 1, s ++ [(⟨⟨n2.toArray⟩, a, e2⟩ : EqN)], .slice U W S, f4, by omega, by omega, by rw [List.length_append]; show s.length + 1 ≤ _; omega, az, (hI (grown_tr cc.out V.out)), (hI (cd.out.grown V.out x.out)), (hI (cb.out.grown V.out o.out)), cf, bb⟩
         | false =>
          rw [hb68] at ay; obtain ⟨al, cg⟩ := eX (s ++ [(⟨⟨n2.toArray⟩, a, e2⟩ : EqN)]); have ex := hI (show l = (wantP ts false [59] k9).bind fun _ k6 => .ok ⟨g1, d, n, al.map EqN.pl⟩ k6 by rw [ee.out, hb68, if_neg (by decide), cg, List.map_append]; rfl); rw [← cg] at ba; clear cg; clear hb68
          go_wp2_with fail
          refine ay.out.mono ?_
          rintro e wa68 ⟨rfl, V, az⟩; simp only [Bool.false_eq_true, if_false] at az; have ey := hI (grown_tr cc.out V.out); have cf := hI (ina_mv ce.out (fun b hb e => by injection e with e; omega) V.out); have bb := hI (ba.out.moved pzQ (.inr ⟨g, rfl, by omega⟩) V.out); have ie := bb; have c := hI (pWant az.out (by omega) [59] false (by decide))
          cases hn70 : wantP ts false [59] k9 with
          | out =>
           rw [hn70] at c; clear hn70
           go_wp2_with fail
           refine c.out.mono ?_
           rintro e w9 j
           exact j.elim
          | bad ln co er =>
           rw [hn70] at c; have p := hI (show l = .bad ln co er by rw [ex.out, hn70] <;> rfl); clear hn70
           go_wp2_with fail
           refine c.out.mono ?_
           rintro e w9 ⟨rfl, q⟩
           go_wp2_with fail
           rw [p.out]
           exact ⟨rfl, prp_bad (hI (grown_tr ey.out q.out))⟩
          | ok u6 k6 =>
           rw [hn70] at c; have ig := (want_fw (ts := ts) false [59] k9) _ _ hn70; have f5 := hI (show l = .ok ⟨g1, d, n, (al).map EqN.pl⟩ k6 by rw [ex.out, hn70] <;> rfl); clear hn70
           go_wp2_with fail
           refine c.out.mono ?_
           rintro e wq70 ⟨j, a0, f6⟩
           cases j
           have ch := hI ((cd.out.grown V.out x.out).grown a0.out x.out); have f7 := hI (ina_mv cf.out (fun b hb e => by injection e with e; omega) a0.out); have f8 := hI (bb.out.moved pzQ (.inr ⟨g, rfl, by omega⟩) a0.out); obtain ⟨A5, c5, f9, ez⟩ := f8.out.lies pzQ; have ga := hI ez; clear ez; injection f9 with h5 hl h6; subst h5 hl h6
           have ci : (⟨n.toArray⟩ : ByteArray).size ≤ maxLen := by
            show n.toArray.size ≤ _
            rw [List.size_toArray]
            unfold maxLen
            omega
           obtain ⟨gb, gc, gd, ge, gf, gg, gh, gi, gj, gm, gn, go, gp, gq, gr, gs, gt, gu⟩ := ch.out.all9; obtain ⟨y, z, B, C, D, E, F, G, H, I, J, L, M, N, O, P, Q, R⟩ := ((cb.out.grown V.out o.out).grown a0.out o.out).all9
           go_wp2_with fail
           rw [pst9 ch.out]; obtain ⟨z0, _, z1, _, z2, _, z3, _, z4, _, z5, _, z6, _, z7, _, z8, _⟩ := (ch.out.put #[.int .i64 v.h.kind, .int .i64 v.h.n, .int .i64 v.h.d, .string v.h.name, .int .i64 v.h.k, .slice v.A v.len v.cap, .int .i64 d, .string ⟨n.toArray⟩, .slice U al.length S]).all9
           refine bodyPost_ret (v := .agg #[.int .i64 v.h.kind, .int .i64 v.h.n, .int .i64 v.h.d, .string v.h.name, .int .i64 v.h.k, .slice v.A v.len v.cap, .int .i64 d, .string ⟨n.toArray⟩, .slice U al.length S]) (by simp [results, Tryz.results143, go_sem, z0, z1, z2, z3, z4, z5, z6, z7, z8]) rfl ?_
           rw [f5.out]
           exact ⟨⟨⟨v, g1, d, ⟨n.toArray⟩, U, al.length, S, al⟩, rfl, rfl, hI ⟨(InA.far f7.out (r := w.heap.size) (by omega) _ _).weaken (fun b hb => by omega), (by show -9223372036854775808 ≤ d; omega), (by show d ≤ 9223372036854775807; omega), ci, ((ga.out.mv pzQ (r := some w.heap.size) (fun b hb e => by injection e with e; omega) (putB_grown _ _ _ _)).weaken pzQ (fun b hb => by omega))⟩⟩, hI (grown_new (grown_tr ey.out a0.out) (Nat.le_refl _) _ _), hI (f6.out.far cx ab _ _)⟩
    | false =>
     rw [hb44] at ar; have a7 := hI (show l = (wantP ts false [59] k4).bind fun _ k6 => .ok ⟨g1, d, n, ([] : List EqN).map EqN.pl⟩ k6 by rw [dv.out]; unfold withP; rw [hb44]; rfl); clear hb44
     go_wp2_with fail
     refine ar.out.mono ?_
     rintro e wa44 ⟨rfl, Y, au⟩; simp only [Bool.false_eq_true, if_false] at au; have e0 := hI (grown_tr bn.out Y.out); have bq := hI (ina_mv bp.out (fun b hb e => by injection e with e; omega) Y.out); have c := hI (pWant au.out (by omega) [59] false (by decide))
     cases hn46 : wantP ts false [59] k4 with
     | out =>
      rw [hn46] at c; clear hn46
      go_wp2_with fail
      refine c.out.mono ?_
      rintro e w9 j
      exact j.elim
     | bad ln co er =>
      rw [hn46] at c; have p := hI (show l = .bad ln co er by rw [a7.out, hn46] <;> rfl); clear hn46
      go_wp2_with fail
      refine c.out.mono ?_
      rintro e w9 ⟨rfl, q⟩
      go_wp2_with fail
      rw [p.out]
      exact ⟨rfl, prp_bad (hI (grown_tr e0.out q.out))⟩
     | ok u6 k6 =>
      rw [hn46] at c; have ik := (want_fw (ts := ts) false [59] k4) _ _ hn46; have gv := hI (show l = .ok ⟨g1, d, n, ([]).map EqN.pl⟩ k6 by rw [a7.out, hn46] <;> rfl); clear hn46
      go_wp2_with fail
      refine c.out.mono ?_
      rintro e wq46 ⟨j, bc, gw⟩
      cases j
      have ct := hI ((bo.out.grown Y.out x.out).grown bc.out x.out); have gz := hI (ina_mv bq.out (fun b hb e => by injection e with e; omega) bc.out)
      have ci : (⟨n.toArray⟩ : ByteArray).size ≤ maxLen := by
       show n.toArray.size ≤ _
       rw [List.size_toArray]
       unfold maxLen
       omega
      obtain ⟨gb, gc, gd, ge, gf, gg, gh, gi, gj, gm, gn, go, gp, gq, gr, gs, gt, gu⟩ := ct.out.all9; obtain ⟨y, z, B, C, D, E, F, G, H, I, J, L, M, N, O, P, Q, R⟩ := ((bm.out.grown Y.out o.out).grown bc.out o.out).all9
      go_wp2_with fail
      rw [pst9 ct.out]; obtain ⟨z0, _, z1, _, z2, _, z3, _, z4, _, z5, _, z6, _, z7, _, z8, _⟩ := (ct.out.put #[.int .i64 v.h.kind, .int .i64 v.h.n, .int .i64 v.h.d, .string v.h.name, .int .i64 v.h.k, .slice v.A v.len v.cap, .int .i64 d, .string ⟨n.toArray⟩, .slice none 0 0]).all9
      refine bodyPost_ret (v := .agg #[.int .i64 v.h.kind, .int .i64 v.h.n, .int .i64 v.h.d, .string v.h.name, .int .i64 v.h.k, .slice v.A v.len v.cap, .int .i64 d, .string ⟨n.toArray⟩, .slice none 0 0]) (by simp [results, Tryz.results143, go_sem, z0, z1, z2, z3, z4, z5, z6, z7, z8]) rfl ?_
      rw [gv.out]
      exact ⟨⟨⟨v, g1, d, ⟨n.toArray⟩, none, 0, 0, []⟩, rfl, rfl, hI ⟨(InA.far gz.out (r := w.heap.size) (by omega) _ _).weaken (fun b hb => by omega), (by show -9223372036854775808 ≤ d; omega), (by show d ≤ 9223372036854775807; omega), ci, lil_nil _ _⟩⟩, hI (grown_new (grown_tr e0.out bc.out) (Nat.le_refl _) _ _), hI (gw.out.far cx ab _ _)⟩
end Go.Proofs.YtkjoohnndobjeaaGreatDoor
