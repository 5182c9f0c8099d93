/-
 The walk of the parser's edges.
-/
import Derived.Test.YtkjoohnndobjeaaGreatDoorPbA
import Derived.Test.YtkjoohnndobjeaaGreatDoorQW
import Derived.Test.YtkjoohnndobjeaaGreatDoorQK
import Derived.Deep.CutBlock
set_option linter.unusedVariables false
set_option maxHeartbeats 4000000
set_option maxRecDepth 100000
namespace Go.Proofs.YtkjoohnndobjeaaGreatDoor
open Go.RowKit Go.Fl Go.Fl.Lx Go.Fl.Nm Go.Fl.Fm Go.Fl.Rt Go.Fl.Pa
open List (setIfInBounds_toArray set_cons_zero set_cons_succ getElem_toArray getElem_cons_zero getElem_cons_succ)
def SmV (T : TE) (w : World) (e : Ending) (w' : World) : Prop := ∃ v : Nd, e = .returned v.val ∧ Hid (InX w.heap.size w' T v)
theorem pSumE {w0 w : World} {g : Nat} {A : Option Addr} {len cap : Nat} {ts : List Tok} {k : Nat} (h : Env w0 g A len cap ts k 0 w) (hk : k ≤ 100000) (hR : RX w0) (hX : FX w0) (hD : DigTs ts) :
  Calls Tryz.prog 48 #[.pointer (some ⟨g, 0, none⟩)] w (PRP SmV w0 g A len cap ts 0 (sumE nameP ts k) w) := by
 refine ((ruls_all w0 g A len cap ts h.t hR hX hD (8 * ts.length + 8)).sum k 0 w (by omega) (by omega) (by omega) h).mono fun e w' hx => ?_
 have hno := sumE_no (nm := nameP) (ts := ts) k
 have he : sumP nameP ts (8 * ts.length + 8) k 0 = sumE nameP ts k := rfl
 rw [he] at hx
 revert hx hno
 cases sumE nameP ts k with
 | ok T k1 => exact fun hx _ => ⟨⟨hx.choose, hx.choose_spec.1, hx.choose_spec.2.1⟩, hx.choose_spec.2.2.1, hx.choose_spec.2.2.2⟩
 | bad l c e => exact fun hx _ => hx
 | out => exact fun _ hno => absurd rfl hno
theorem nmR_len {ts : List Tok} {k k1 : Nat} {n : List UInt8} (h : nmR nameP ts k = .ok n k1) : n.length ≤ 20 := by
 unfold nmR at h
 split at h
 ·
  rename_i h2
  injection h with h _
  rw [← h]
  exact nameP_len h2.2
 ·
  exact (unex_ok h).elim
theorem bind_assoc' {α β γ : Type} (r : PR α) (f : α → Nat → PR β) (q : β → Nat → PR γ) : (r.bind f).bind q = r.bind fun a k => (f a k).bind q := by cases r <;> rfl
theorem pst9 {w : World} {g : Nat} {t : TypeId} {a b c d e f u6 h i : Value} (hB : Blk w g t #[a, b, c, d, e, f, u6, h, i]) (a' b' c' d' e' f' u6' h' i' : Value) :
  ((((((((w.setCell ⟨g, 0, none⟩ a').setCell ⟨g, 1, none⟩ b').setCell ⟨g, 2, none⟩ c').setCell ⟨g, 3, none⟩ d').setCell ⟨g, 4, none⟩ e').setCell ⟨g, 5, none⟩ f').setCell ⟨g, 6, none⟩ u6').setCell ⟨g, 7, none⟩ h').setCell ⟨g, 8, none⟩ i' = putB w g t #[a', b', c', d', e', f', u6', h', i'] := by
 rw [show w.setCell ⟨g, 0, none⟩ a' = putB w g t #[a', b, c, d, e, f, u6, h, i] from hB.setCell_eq 0 a']
 have j := hB.put #[a', b, c, d, e, f, u6, h, i]
 rw [show (putB w g t #[a', b, c, d, e, f, u6, h, i]).setCell ⟨g, 1, none⟩ b' = putB (putB w g t #[a', b, c, d, e, f, u6, h, i]) g t #[a', b', c, d, e, f, u6, h, i] from j.setCell_eq 1 b', putB_putB]
 have k := hB.put #[a', b', c, d, e, f, u6, h, i]
 rw [show (putB w g t #[a', b', c, d, e, f, u6, h, i]).setCell ⟨g, 2, none⟩ c' = putB (putB w g t #[a', b', c, d, e, f, u6, h, i]) g t #[a', b', c', d, e, f, u6, h, i] from k.setCell_eq 2 c', putB_putB]
 have l := hB.put #[a', b', c', d, e, f, u6, h, i]
 rw [show (putB w g t #[a', b', c', d, e, f, u6, h, i]).setCell ⟨g, 3, none⟩ d' = putB (putB w g t #[a', b', c', d, e, f, u6, h, i]) g t #[a', b', c', d', e, f, u6, h, i] from l.setCell_eq 3 d', putB_putB]
 have m := hB.put #[a', b', c', d', e, f, u6, h, i]
 rw [show (putB w g t #[a', b', c', d', e, f, u6, h, i]).setCell ⟨g, 4, none⟩ e' = putB (putB w g t #[a', b', c', d', e, f, u6, h, i]) g t #[a', b', c', d', e', f, u6, h, i] from m.setCell_eq 4 e', putB_putB]
 have n := hB.put #[a', b', c', d', e', f, u6, h, i]
 rw [show (putB w g t #[a', b', c', d', e', f, u6, h, i]).setCell ⟨g, 5, none⟩ f' = putB (putB w g t #[a', b', c', d', e', f, u6, h, i]) g t #[a', b', c', d', e', f', u6, h, i] from n.setCell_eq 5 f', putB_putB]
 have o := hB.put #[a', b', c', d', e', f', u6, h, i]
 rw [show (putB w g t #[a', b', c', d', e', f', u6, h, i]).setCell ⟨g, 6, none⟩ u6' = putB (putB w g t #[a', b', c', d', e', f', u6, h, i]) g t #[a', b', c', d', e', f', u6', h, i] from o.setCell_eq 6 u6', putB_putB]
 have p := hB.put #[a', b', c', d', e', f', u6', h, i]
 rw [show (putB w g t #[a', b', c', d', e', f', u6', h, i]).setCell ⟨g, 7, none⟩ h' = putB (putB w g t #[a', b', c', d', e', f', u6', h, i]) g t #[a', b', c', d', e', f', u6', h', i] from p.setCell_eq 7 h', putB_putB]
 have q := hB.put #[a', b', c', d', e', f', u6', h', i]
 rw [show (putB w g t #[a', b', c', d', e', f', u6', h', i]).setCell ⟨g, 8, none⟩ i' = putB (putB w g t #[a', b', c', d', e', f', u6', h', i]) g t #[a', b', c', d', e', f', u6', h', i'] from q.setCell_eq 8 i', putB_putB]
theorem pst16 {w : World} {g : Nat} {t : TypeId} {a b c d e f u6 : Value} (hB : Blk w g t #[a, b, c, d, e, f, u6]) (b' c' d' e' f' u6' : Value) :
  (((((w.setCell ⟨g, 1, none⟩ b').setCell ⟨g, 2, none⟩ c').setCell ⟨g, 3, none⟩ d').setCell ⟨g, 4, none⟩ e').setCell ⟨g, 5, none⟩ f').setCell ⟨g, 6, none⟩ u6' = putB w g t #[a, b', c', d', e', f', u6'] := by
 rw [show w.setCell ⟨g, 1, none⟩ b' = putB w g t #[a, b', c, d, e, f, u6] from hB.setCell_eq 1 b']
 have i := hB.put #[a, b', c, d, e, f, u6]
 rw [show (putB w g t #[a, b', c, d, e, f, u6]).setCell ⟨g, 2, none⟩ c' = putB (putB w g t #[a, b', c, d, e, f, u6]) g t #[a, b', c', d, e, f, u6] from i.setCell_eq 2 c', putB_putB]
 have j := hB.put #[a, b', c', d, e, f, u6]
 rw [show (putB w g t #[a, b', c', d, e, f, u6]).setCell ⟨g, 3, none⟩ d' = putB (putB w g t #[a, b', c', d, e, f, u6]) g t #[a, b', c', d', e, f, u6] from j.setCell_eq 3 d', putB_putB]
 have k := hB.put #[a, b', c', d', e, f, u6]
 rw [show (putB w g t #[a, b', c', d', e, f, u6]).setCell ⟨g, 4, none⟩ e' = putB (putB w g t #[a, b', c', d', e, f, u6]) g t #[a, b', c', d', e', f, u6] from k.setCell_eq 4 e', putB_putB]
 have l := hB.put #[a, b', c', d', e', f, u6]
 rw [show (putB w g t #[a, b', c', d', e', f, u6]).setCell ⟨g, 5, none⟩ f' = putB (putB w g t #[a, b', c', d', e', f, u6]) g t #[a, b', c', d', e', f', u6] from l.setCell_eq 5 f', putB_putB]
 have m := hB.put #[a, b', c', d', e', f', u6]
 rw [show (putB w g t #[a, b', c', d', e', f', u6]).setCell ⟨g, 6, none⟩ u6' = putB (putB w g t #[a, b', c', d', e', f', u6]) g t #[a, b', c', d', e', f', u6'] from m.setCell_eq 6 u6', putB_putB]
theorem EqN.len7 (z : EqN) : (EqN.cells z).length = 7 := rfl
theorem env_row {w0 w w' : World} {g : Nat} {A : Option Addr} {len cap : Nat} {ts : List Tok} {k m : Nat} {r : Option Nat} (h : Env w0 g A len cap ts k m w) (hg : w.grownBy w' r) (hr : ∀ b, r = some b → g < b) : Env w0 g A len cap ts k m w' :=
 ⟨h.t, ⟨hg.os.trans h.b.os, hg.tape.trans h.b.tape, hg.output.trans h.b.output, Nat.le_trans h.b.size hg.size, fun j hj => (hg.block j (Nat.lt_of_lt_of_le hj h.b.size) (fun e => by have := hr j e.symm; have := h.lo; omega)).trans (h.b.block j hj)⟩, h.lo, Blk.grown h.p hg (fun e => by have := hr g e.symm; omega), h.kk⟩
theorem grown_row {w wA w9 : World} {g : Nat} {r : Option Nat} (h : w.grownBy wA (some g)) (h2 : wA.grownBy w9 r) (hr : ∀ b, r = some b → w.heap.size ≤ b) : w.grownBy w9 (some g) :=
 ⟨h2.os.trans h.os, h2.tape.trans h.tape, h2.output.trans h.output, Nat.le_trans h.size h2.size, fun k hk hne => (h2.block k (Nat.lt_of_lt_of_le hk h.size) (fun e => by have := hr k e.symm; omega)).trans (h.block k hk hne)⟩
theorem lil_nil {Z : Type} {m : Nat} {cells : Z → List Value} {Pz : (Nat → Prop) → World → Z → Prop} (P : Nat → Prop) (w : World) : LiL m cells Pz P w none 0 0 ([] : List Z) :=
 ⟨⟨rfl, Nat.le_refl _, Nat.zero_le _, Rd.none_ _ _, fun z hz => by cases hz⟩, fun hn => absurd hn (Nat.lt_irrefl 0)⟩
theorem Tryz.infoReset : (Tryz.prog.info? 82).map (fun i => (i.zero, i.size, i.bytes)) = some (some (.agg #[.string ⟨#[]⟩, .int .i64 0, .int .i64 0, .int .i64 0, .string ⟨#[]⟩, .int .i64 0, .slice none 0 0]), 7, 88) := by kernel_rfl
theorem unex_bind {α β : Type} {ts : List Tok} {k : Nat} (f : α → Nat → PR β) (h : True) : (unex ts k : PR α).bind f = unex ts k := by
 unfold unex failP
 split <;> rfl
def EdV (d : EdP) (w : World) (e : Ending) (w' : World) : Prop := ∃ x : EdN, e = .returned x.val ∧ x.pl = d ∧ Hid (PzG (fun b => w.heap.size ≤ b) w' x)

theorem pEdge {w0 w : World} {g : Nat} {A : Option Addr} {len cap : Nat} {ts : List Tok} {k : Nat} (h : Env w0 g A len cap ts k 0 w) (hk : k ≤ 100000) (hR : RX w0) (hX : FX w0) (hD : DigTs ts) : Calls Tryz.prog 143 #[.pointer (some ⟨g, 0, none⟩)] w (PRP EdV w0 g A len cap ts 0 (edgeP nameP ts k) w) := by
 have g9 := hI h
 obtain ⟨m, a5⟩ := eX (edgeP nameP ts k)
 have eq := hI a5
 rw [← a5]
 clear a5
 have ha : ts.length ≤ 100000 := by have := h.t.hl; have := h.t.hs; omega
 go_enter Tryz.func143, Tryz.ntmps143
 go_upto_region 1 with (fail)
 obtain ⟨w1, ap⟩ := eX (w.alloc (Obj.cells #[.int .i64 0, .int .i64 0, .int .i64 0, .string ⟨#[]⟩, .int .i64 0, .slice none 0 0, .int .i64 0, .string ⟨#[]⟩, .slice none 0 0] 81))
 have O1 := hI (show Below w.heap.size w w1 by rw [ap]; exact below_box _ _)
 have F1 := hI (show Blk w1 w.heap.size 81 #[.int .i64 0, .int .i64 0, .int .i64 0, .string ⟨#[]⟩, .int .i64 0, .slice none 0 0, .int .i64 0, .string ⟨#[]⟩, .slice none 0 0] by rw [ap]; exact Blk.new _ _ _)
 rw [← ap]
 clear ap
 have p := hI (show some w.heap.size ≠ some g from fun e => by have := h.gl; injection e with e; omega)
 have cr : w.heap.size ≠ g := fun e => p.out (by rw [e])
 have Y : w0.heap.size ≤ w.heap.size := h.b.size
 have cs := hI (h.belowW O1.out)
 have ct := hI (grown_of (some g) O1.out)
 clear h
 have cu := hI (show m = (sumE nameP ts k).bind fun g1 k1 => (dirP ts k1).bind fun d k2 => (wantP ts true kGoto k2).bind fun _ k3 => (nmR nameP ts k3).bind fun n k4 => (withP nameP ts k4).bind fun rs k5 => (wantP ts false [59] k5).bind fun _ k6 => .ok ⟨g1, d, n, rs⟩ k6 from eq.out)
 have c := hI (pSumE cs.out (by omega) hR hX hD)
 cases hn1 : sumE nameP ts k with
 | out =>
  rw [hn1] at c
  clear hn1
  go_wp2_with fail
  refine c.out.mono ?_
  rintro e w9 j
  exact j.elim
 | bad ln co er =>
  rw [hn1] at c
  have q := hI (show m = .bad ln co er by rw [cu.out, hn1] <;> rfl)
  clear hn1
  go_wp2_with fail
  refine c.out.mono ?_
  rintro e w9 ⟨rfl, s⟩
  go_wp2_with fail
  rw [q.out]
  exact ⟨rfl, prp_bad (hI (grown_tr ct.out s.out))⟩
 | ok g1 k1 =>
  rw [hn1] at c
  have hc := (sumE_fw (nm := nameP) (ts := ts) k) _ _ hn1
  have a7 := hI (show m = (dirP ts k1).bind fun d k2 => (wantP ts true kGoto k2).bind fun _ k3 => (nmR nameP ts k3).bind fun n k4 => (withP nameP ts k4).bind fun rs k5 => (wantP ts false [59] k5).bind fun _ k6 => .ok ⟨g1, d, n, rs⟩ k6 by rw [cu.out, hn1] <;> rfl)
  clear hn1
  go_wp2_with fail
  refine c.out.mono ?_
  rintro e wq1 ⟨j, HGq1, HVq1⟩
  obtain ⟨v, j, es⟩ := j
  cases j
  obtain ⟨lo, aq⟩ := eX (w1.heap.size)
  obtain ⟨hi, cv⟩ := eX (wq1.heap.size)
  have hd : g < lo := by rw [aq]; exact cs.out.gl
  have hf : w.heap.size < lo := by rw [aq]; exact F1.out.lt
  have hg : lo ≤ hi := by rw [aq, cv]; exact HGq1.out.size
  have NX := hI (show InA (fun b => lo ≤ b ∧ b < hi) wq1 g1 v by rw [aq, cv]; exact InA.lt es.out)
  have eu := hI (grown_tr ct.out HGq1.out)
  have cw := hI (F1.out.grown HGq1.out p.out)
  go_upto_block 0 with (fail)
  obtain ⟨cx, l⟩ := eX (wq1.alloc (Obj.cells #[.int .i64 v.h.kind, .int .i64 v.h.n, .int .i64 v.h.d, .string v.h.name, .int .i64 v.h.k, .slice v.A v.len v.cap, .int .i64 0, .string ⟨#[]⟩, .slice none 0 0] 81))
  have ar := hI (show Below wq1.heap.size wq1 cx by rw [l]; exact below_box _ _)
  have a8 := hI (show Blk cx wq1.heap.size 81 #[.int .i64 v.h.kind, .int .i64 v.h.n, .int .i64 v.h.d, .string v.h.name, .int .i64 v.h.k, .slice v.A v.len v.cap, .int .i64 0, .string ⟨#[]⟩, .slice none 0 0] by rw [l]; exact Blk.new _ _ _)
  rw [← l]
  clear l
  obtain ⟨i, a9⟩ := eX (wq1.heap.size)
  have o := hI (show some i ≠ some g from fun e => by have := HVq1.out.gl; injection e with e; omega)
  have W : w.heap.size < i := by rw [a9]; exact cw.out.lt
  rw [← a9] at a8 ⊢
  have ev : hi ≤ i := by omega
  clear a9
  have ew := hI (HVq1.out.belowW ar.out)
  have cy := hI (grown_tr eu.out (grown_of (some g) ar.out))
  have cz := hI (cw.out.belowW ar.out)
  have c0 := hI (NX.out.belowW ar.out)
  go_cut [10] (fun s10 wx => ∃ (d : Int) (k2 : Nat), Hid (m = (wantP ts true kGoto k2).bind fun _ k3 => (nmR nameP ts k3).bind fun n k4 => (withP nameP ts k4).bind fun rs k5 => (wantP ts false [59] k5).bind fun _ k6 => .ok ⟨g1, d, n, rs⟩ k6) ∧ k2 ≤ ts.length ∧ 1 ≤ d ∧ d ≤ 2 ∧ Hid (Env w0 g A len cap ts k2 0 wx) ∧ Hid (w.grownBy wx (some g)) ∧ Hid (Blk wx w.heap.size 81 #[.int .i64 0, .int .i64 0, .int .i64 0, .string ⟨#[]⟩, .int .i64 0, .slice none 0 0, .int .i64 0, .string ⟨#[]⟩, .slice none 0 0]) ∧ Hid (Blk wx i 81 #[.int .i64 v.h.kind, .int .i64 v.h.n, .int .i64 v.h.d, .string v.h.name, .int .i64 v.h.k, .slice v.A v.len v.cap, .int .i64 d, .string ⟨#[]⟩, .slice none 0 0]) ∧ Hid (InA (fun b => lo ≤ b ∧ b < hi) wx g1 v))
  case first =>
   have ag := hI (pAccept ew.out (by omega) ⟨#[114, 105, 115, 101, 115]⟩)
   rw [show kwP (⟨#[114, 105, 115, 101, 115]⟩ : ByteArray).data.toList = true by decide, show (⟨#[114, 105, 115, 101, 115]⟩ : ByteArray).data.toList = kRises from rfl] at ag
   cases hb3 : isS true ts k1 kRises with
   | true =>
    have hh := isS_lt hb3
    rw [hb3] at ag
    have ex := hI (show m = (wantP ts true kGoto (k1 + 1)).bind fun _ k3 => (nmR nameP ts k3).bind fun n k4 => (withP nameP ts k4).bind fun rs k5 => (wantP ts false [59] k5).bind fun _ k6 => .ok ⟨g1, 1, n, rs⟩ k6 by rw [a7.out]; unfold dirP; rw [hb3]; rfl)
    clear hb3
    go_wp2_with fail
    refine ag.out.mono ?_
    rintro e wa3 ⟨rfl, HGa3, HVa3⟩
    simp only [if_true] at HVa3
    have au := hI (grown_tr cy.out HGa3.out)
    have av := hI (cz.out.grown HGa3.out p.out)
    have Z := hI (a8.out.grown HGa3.out o.out)
    have aw := hI (ina_mv c0.out (fun b hb e => by injection e with e; omega) HGa3.out)
    obtain ⟨y, z, B, C, D, E, F, G, H, I, J, L, M, N, O, P, Q, R⟩ := Z.out.all9
    go_wp2_with fail
    have ah := (show wa3.setCell ⟨i, 6, none⟩ (.int .i64 1) = putB wa3 i 81 #[.int .i64 v.h.kind, .int .i64 v.h.n, .int .i64 v.h.d, .string v.h.name, .int .i64 v.h.k, .slice v.A v.len v.cap, .int .i64 1, .string ⟨#[]⟩, .slice none 0 0] from Z.out.setCell_eq 6 _)
    clear y z B C D E F G H I J L M N O P Q R
    obtain ⟨y, z, B, C, D, E, F, G, H, I, J, L, M, N, O, P, Q, R⟩ := Z.out.all9
    rw [ah]
    have c1 := hI (Z.out.put #[.int .i64 v.h.kind, .int .i64 v.h.n, .int .i64 v.h.d, .string v.h.name, .int .i64 v.h.k, .slice v.A v.len v.cap, .int .i64 1, .string ⟨#[]⟩, .slice none 0 0])
    have c2 := hI (grown_new au.out (Nat.le_of_lt W) 81 #[.int .i64 v.h.kind, .int .i64 v.h.n, .int .i64 v.h.d, .string v.h.name, .int .i64 v.h.k, .slice v.A v.len v.cap, .int .i64 1, .string ⟨#[]⟩, .slice none 0 0])
    have c3 := hI (HVa3.out.far (r := i) (fun e => o.out (by rw [e])) (Nat.le_trans Y (Nat.le_of_lt W)) 81 #[.int .i64 v.h.kind, .int .i64 v.h.n, .int .i64 v.h.d, .string v.h.name, .int .i64 v.h.k, .slice v.A v.len v.cap, .int .i64 1, .string ⟨#[]⟩, .slice none 0 0])
    have c4 := hI (av.out.far (g' := i) (t' := 81) (by omega) #[.int .i64 v.h.kind, .int .i64 v.h.n, .int .i64 v.h.d, .string v.h.name, .int .i64 v.h.k, .slice v.A v.len v.cap, .int .i64 1, .string ⟨#[]⟩, .slice none 0 0])
    have c6 := hI (aw.out.far (r := i) (by omega) 81 #[.int .i64 v.h.kind, .int .i64 v.h.n, .int .i64 v.h.d, .string v.h.name, .int .i64 v.h.k, .slice v.A v.len v.cap, .int .i64 1, .string ⟨#[]⟩, .slice none 0 0])
    obtain ⟨ey, l⟩ := eX (putB wa3 i 81 #[.int .i64 v.h.kind, .int .i64 v.h.n, .int .i64 v.h.d, .string v.h.name, .int .i64 v.h.k, .slice v.A v.len v.cap, .int .i64 1, .string ⟨#[]⟩, .slice none 0 0])
    have hj : wa3.heap.size ≤ ey.heap.size := by rw [l, putB_size]; exact Nat.le_refl _
    rw [← l] at c2 c3 c4 c1 c6 ⊢
    clear l y z B C D E F G H I J L M N O P Q R
    clear ah
    go_meet
    exact ⟨1, k1 + 1, ex, by omega, by decide, by decide, c3, c2, c4, c1, c6⟩
   | false =>
    rw [hb3] at ag
    have c7 := hb3
    clear hb3
    go_wp2_with fail
    refine ag.out.mono ?_
    rintro e wa3 ⟨rfl, HGa3, HVa3⟩
    simp only [Bool.false_eq_true, if_false] at HVa3
    have au := hI (grown_tr cy.out HGa3.out)
    have av := hI (cz.out.grown HGa3.out p.out)
    have Z := hI (a8.out.grown HGa3.out o.out)
    have aw := hI (ina_mv c0.out (fun b hb e => by injection e with e; omega) HGa3.out)
    have ai := hI (pAccept HVa3.out (by omega) ⟨#[102, 97, 108, 108, 115]⟩)
    rw [show kwP (⟨#[102, 97, 108, 108, 115]⟩ : ByteArray).data.toList = true by decide, show (⟨#[102, 97, 108, 108, 115]⟩ : ByteArray).data.toList = kFalls from rfl] at ai
    cases hb5 : isS true ts k1 kFalls with
    | true =>
     have hm := isS_lt hb5
     rw [hb5] at ai
     have ez := hI (show m = (wantP ts true kGoto (k1 + 1)).bind fun _ k3 => (nmR nameP ts k3).bind fun n k4 => (withP nameP ts k4).bind fun rs k5 => (wantP ts false [59] k5).bind fun _ k6 => .ok ⟨g1, 2, n, rs⟩ k6 by rw [a7.out]; unfold dirP; rw [c7, hb5]; rfl)
     clear hb5
     go_wp2_with fail
     refine ai.out.mono ?_
     rintro e wa5 ⟨rfl, HGa5, HVa5⟩
     simp only [if_true] at HVa5
     have ba := hI (grown_tr au.out HGa5.out)
     have c8 := hI (av.out.grown HGa5.out p.out)
     have aj := hI (Z.out.grown HGa5.out o.out)
     have da := hI (ina_mv aw.out (fun b hb e => by injection e with e; omega) HGa5.out)
     obtain ⟨y, z, B, C, D, E, F, G, H, I, J, L, M, N, O, P, Q, R⟩ := aj.out.all9
     go_wp2_with fail
     have ah := (show wa5.setCell ⟨i, 6, none⟩ (.int .i64 2) = putB wa5 i 81 #[.int .i64 v.h.kind, .int .i64 v.h.n, .int .i64 v.h.d, .string v.h.name, .int .i64 v.h.k, .slice v.A v.len v.cap, .int .i64 2, .string ⟨#[]⟩, .slice none 0 0] from aj.out.setCell_eq 6 _)
     clear y z B C D E F G H I J L M N O P Q R
     obtain ⟨y, z, B, C, D, E, F, G, H, I, J, L, M, N, O, P, Q, R⟩ := aj.out.all9
     rw [ah]
     have db := hI (aj.out.put #[.int .i64 v.h.kind, .int .i64 v.h.n, .int .i64 v.h.d, .string v.h.name, .int .i64 v.h.k, .slice v.A v.len v.cap, .int .i64 2, .string ⟨#[]⟩, .slice none 0 0])
     have dc := hI (grown_new ba.out (Nat.le_of_lt W) 81 #[.int .i64 v.h.kind, .int .i64 v.h.n, .int .i64 v.h.d, .string v.h.name, .int .i64 v.h.k, .slice v.A v.len v.cap, .int .i64 2, .string ⟨#[]⟩, .slice none 0 0])
     have dd := hI (HVa5.out.far (r := i) (fun e => o.out (by rw [e])) (Nat.le_trans Y (Nat.le_of_lt W)) 81 #[.int .i64 v.h.kind, .int .i64 v.h.n, .int .i64 v.h.d, .string v.h.name, .int .i64 v.h.k, .slice v.A v.len v.cap, .int .i64 2, .string ⟨#[]⟩, .slice none 0 0])
     have de := hI (c8.out.far (g' := i) (t' := 81) (by omega) #[.int .i64 v.h.kind, .int .i64 v.h.n, .int .i64 v.h.d, .string v.h.name, .int .i64 v.h.k, .slice v.A v.len v.cap, .int .i64 2, .string ⟨#[]⟩, .slice none 0 0])
     have df := hI (da.out.far (r := i) (by omega) 81 #[.int .i64 v.h.kind, .int .i64 v.h.n, .int .i64 v.h.d, .string v.h.name, .int .i64 v.h.k, .slice v.A v.len v.cap, .int .i64 2, .string ⟨#[]⟩, .slice none 0 0])
     obtain ⟨e0, l⟩ := eX (putB wa5 i 81 #[.int .i64 v.h.kind, .int .i64 v.h.n, .int .i64 v.h.d, .string v.h.name, .int .i64 v.h.k, .slice v.A v.len v.cap, .int .i64 2, .string ⟨#[]⟩, .slice none 0 0])
     have hn : wa5.heap.size ≤ e0.heap.size := by rw [l, putB_size]; exact Nat.le_refl _
     rw [← l] at dc dd de db df ⊢
     clear l y z B C D E F G H I J L M N O P Q R
     clear ah
     go_meet
     exact ⟨2, k1 + 1, ez, by omega, by decide, by decide, dd, dc, de, db, df⟩
    | false =>
     rw [hb5] at ai
     have q := hI (show m = unex ts k1 by rw [a7.out]; unfold dirP; rw [c7, hb5]; exact unex_bind _ trivial)
     clear hb5
     go_wp2_with fail
     refine ai.out.mono ?_
     rintro e wa5 ⟨rfl, HGa5, HVa5⟩
     simp only [Bool.false_eq_true, if_false] at HVa5
     have ba := hI (grown_tr au.out HGa5.out)
     have c8 := hI (av.out.grown HGa5.out p.out)
     have aj := hI (Z.out.grown HGa5.out o.out)
     have da := hI (ina_mv aw.out (fun b hb e => by injection e with e; omega) HGa5.out)
     go_wp2_with fail
     refine HVa5.out.unx.mono ?_
     rintro e w9 ⟨he, HB9⟩
     obtain ⟨S, bb⟩ := panU_pan ts k1
     have HC := hI bb
     rw [bb] at he
     subst he
     clear bb
     go_wp2_with fail
     rw [q.out]
     exact ⟨rfl, prp_unex HC.out.symm (hI (grown_tr ba.out (grown_of _ HB9.out)))⟩
  case rest =>
   obtain ⟨d, k2, HD, ho, hp, hq, dh, bc, di, dj, dk⟩ := hcut
   obtain ⟨w3, hw⟩ := eX (wc)
   rw [← hw] at dh bc di dj dk ⊢
   clear hw
   have c := hI (pWant dh.out (by omega) kGoto true (by decide))
   cases hn41 : wantP ts true kGoto k2 with
   | out =>
    rw [hn41] at c
    clear hn41
    go_wp2_with fail
    refine c.out.mono ?_
    rintro e w9 j
    exact j.elim
   | bad ln co er =>
    rw [hn41] at c
    have q := hI (show m = .bad ln co er by rw [HD.out, hn41] <;> rfl)
    clear hn41
    go_wp2_with fail
    refine c.out.mono ?_
    rintro e w9 ⟨rfl, s⟩
    go_wp2_with fail
    rw [q.out]
    exact ⟨rfl, prp_bad (hI (grown_tr bc.out s.out))⟩
   | ok u3 k3 =>
    rw [hn41] at c
    have ht := (want_fw (ts := ts) true kGoto k2) _ _ hn41
    have dm := hI (show m = (nmR nameP ts k3).bind fun n k4 => (withP nameP ts k4).bind fun rs k5 => (wantP ts false [59] k5).bind fun _ k6 => .ok ⟨g1, d, n, rs⟩ k6 by rw [HD.out, hn41] <;> rfl)
    clear hn41
    go_wp2_with fail
    refine c.out.mono ?_
    rintro e wq41 ⟨j, HGq41, HVq41⟩
    cases j
    have dn := hI (grown_tr bc.out HGq41.out)
    have e3 := hI (di.out.grown HGq41.out p.out)
    have e4 := hI (dj.out.grown HGq41.out o.out)
    have e5 := hI (ina_mv dk.out (fun b hb e => by injection e with e; omega) HGq41.out)
    have c := hI (pNm HVq41.out (by omega))
    cases hn42 : nmR nameP ts k3 with
    | out =>
     rw [hn42] at c
     clear hn42
     go_wp2_with fail
     refine c.out.mono ?_
     rintro e w9 j
     exact j.elim
    | bad ln co er =>
     rw [hn42] at c
     have q := hI (show m = .bad ln co er by rw [dm.out, hn42] <;> rfl)
     clear hn42
     go_wp2_with fail
     refine c.out.mono ?_
     rintro e w9 ⟨rfl, s⟩
     go_wp2_with fail
     rw [q.out]
     exact ⟨rfl, prp_bad (hI (grown_tr dn.out s.out))⟩
    | ok n k4 =>
     rw [hn42] at c
     have hu := (nmR_fw (nm := nameP) (ts := ts) k3) _ _ hn42
     have dp := hI (show m = (withP nameP ts k4).bind fun rs k5 => (wantP ts false [59] k5).bind fun _ k6 => .ok ⟨g1, d, n, rs⟩ k6 by rw [dm.out, hn42] <;> rfl)
     have hv := nmR_len hn42
     clear hn42
     go_wp2_with fail
     refine c.out.mono ?_
     rintro e wq42 ⟨j, HGq42, HVq42⟩
     cases j
     have e6 := hI (grown_tr dn.out HGq42.out)
     have e7 := hI (e3.out.grown HGq42.out p.out)
     have bd := hI (e4.out.grown HGq42.out o.out)
     have e8 := hI (ina_mv e5.out (fun b hb e => by injection e with e; omega) HGq42.out)
     obtain ⟨y, z, B, C, D, E, F, G, H, I, J, L, M, N, O, P, Q, R⟩ := bd.out.all9
     go_upto_region 9 with (fail)
     rw [(show wq42.setCell ⟨i, 7, none⟩ (.string ⟨n.toArray⟩) = putB wq42 i 81 #[.int .i64 v.h.kind, .int .i64 v.h.n, .int .i64 v.h.d, .string v.h.name, .int .i64 v.h.k, .slice v.A v.len v.cap, .int .i64 d, .string ⟨n.toArray⟩, .slice none 0 0] from bd.out.setCell_eq 7 _)]
     have be := hI (bd.out.put #[.int .i64 v.h.kind, .int .i64 v.h.n, .int .i64 v.h.d, .string v.h.name, .int .i64 v.h.k, .slice v.A v.len v.cap, .int .i64 d, .string ⟨n.toArray⟩, .slice none 0 0])
     have bf := hI (grown_new e6.out (Nat.le_of_lt W) 81 #[.int .i64 v.h.kind, .int .i64 v.h.n, .int .i64 v.h.d, .string v.h.name, .int .i64 v.h.k, .slice v.A v.len v.cap, .int .i64 d, .string ⟨n.toArray⟩, .slice none 0 0])
     have dq := hI (HVq42.out.far (r := i) (fun e => o.out (by rw [e])) (Nat.le_trans Y (Nat.le_of_lt W)) 81 #[.int .i64 v.h.kind, .int .i64 v.h.n, .int .i64 v.h.d, .string v.h.name, .int .i64 v.h.k, .slice v.A v.len v.cap, .int .i64 d, .string ⟨n.toArray⟩, .slice none 0 0])
     have bg := hI (e7.out.far (g' := i) (t' := 81) (by omega) #[.int .i64 v.h.kind, .int .i64 v.h.n, .int .i64 v.h.d, .string v.h.name, .int .i64 v.h.k, .slice v.A v.len v.cap, .int .i64 d, .string ⟨n.toArray⟩, .slice none 0 0])
     have bh := hI (e8.out.far (r := i) (by omega) 81 #[.int .i64 v.h.kind, .int .i64 v.h.n, .int .i64 v.h.d, .string v.h.name, .int .i64 v.h.k, .slice v.A v.len v.cap, .int .i64 d, .string ⟨n.toArray⟩, .slice none 0 0])
     obtain ⟨e9, l⟩ := eX (putB wq42 i 81 #[.int .i64 v.h.kind, .int .i64 v.h.n, .int .i64 v.h.d, .string v.h.name, .int .i64 v.h.k, .slice v.A v.len v.cap, .int .i64 d, .string ⟨n.toArray⟩, .slice none 0 0])
     have hy : wq42.heap.size ≤ e9.heap.size := by rw [l, putB_size]; exact Nat.le_refl _
     rw [← l] at bf dq bg be bh ⊢
     clear l y z B C D E F G H I J L M N O P Q R
     have ak := hI (pAccept dq.out (by omega) ⟨#[119, 105, 116, 104]⟩)
     rw [show kwP (⟨#[119, 105, 116, 104]⟩ : ByteArray).data.toList = true by decide, show (⟨#[119, 105, 116, 104]⟩ : ByteArray).data.toList = kWith from rfl] at ak
     cases hb44 : isS true ts k4 kWith with
     | true =>
      have hz := isS_lt hb44
      rw [hb44] at ak
      have ax := hI (show m = (resP nameP ts (ts.length + 1) (k4 + 1) []).bind fun rs k5 => (wantP ts false [59] k5).bind fun _ k6 => .ok ⟨g1, d, n, rs⟩ k6 by rw [dp.out]; unfold withP; rw [hb44]; rfl)
      clear hb44
      go_wp2_with fail
      refine ak.out.mono ?_
      rintro e wa44 ⟨rfl, HGa44, HVa44⟩
      simp only [if_true] at HVa44
      have ay := hI (grown_tr bf.out HGa44.out)
      have bi := hI (bg.out.grown HGa44.out p.out)
      have az := hI (be.out.grown HGa44.out o.out)
      have bj := hI (ina_mv bh.out (fun b hb e => by injection e with e; omega) HGa44.out)
      go_wp2_with fail
      have h0 : i + 1 ≤ wa44.heap.size := az.out.lt
      have h1 : g < i := by have := ev; omega
      go_loopg [] (ts.length + 1) (fun fu wr => ∃ (k5 : Nat) (x : List EqN) (rv : Value), Hid (m = (resP nameP ts fu k5 (x.map EqN.pl)).bind fun rs k5 => (wantP ts false [59] k5).bind fun _ k6 => .ok ⟨g1, d, n, rs⟩ k6) ∧ k5 ≤ ts.length ∧ ts.length < fu + k5 ∧ x.length ≤ k5 ∧ Hid (Env w0 g A len cap ts k5 0 wr) ∧ Hid (w.grownBy wr (some g)) ∧ Hid (Blk wr w.heap.size 81 #[.int .i64 0, .int .i64 0, .int .i64 0, .string ⟨#[]⟩, .int .i64 0, .slice none 0 0, .int .i64 0, .string ⟨#[]⟩, .slice none 0 0]) ∧ Hid (Blk wr i 81 #[.int .i64 v.h.kind, .int .i64 v.h.n, .int .i64 v.h.d, .string v.h.name, .int .i64 v.h.k, .slice v.A v.len v.cap, .int .i64 d, .string ⟨n.toArray⟩, rv]) ∧ Hid (InA (fun b => lo ≤ b ∧ b < hi) wr g1 v) ∧ Hid (Mk 82 7 EqN.cells PzQ (i + 1) wr rv x))
      case atStart => exact ⟨k4 + 1, [], .slice none 0 0, ax, by omega, by omega, by simp, HVa44, ay, bi, az, bj, hI (Mk.nil _ _ _ _ _ _)⟩
      case round =>
       obtain ⟨k5, x, rv, HQ, h2, h3, h4, fb, dr, fc, ds, fd, dt⟩ := hrel
       cases gk with
       | zero => exfalso; omega
       | succ fu =>
        have du := hI (show m = (nmR nameP ts k5).bind fun n2 k7 => (wantP ts false [61] k7).bind fun _ k8 => (sumE nameP ts k8).bind fun e2 k9 => (if isS false ts k9 [44] then resP nameP ts fu (k9 + 1) (x.map EqN.pl ++ [⟨n2, e2⟩]) else .ok (x.map EqN.pl ++ [⟨n2, e2⟩]) k9).bind fun rs k5 => (wantP ts false [59] k5).bind fun _ k6 => .ok ⟨g1, d, n, rs⟩ k6 by rw [HQ.out, resP]; simp only [bind_assoc'])
        have fe := hI (World.grownBy.refl wr (some g))
        have h7 : i < wr.heap.size := ds.out.lt
        have dv : ∀ kb, rv.ownBlock = some kb → i + 1 ≤ kb ∧ kb < wr.heap.size := fun kb h => dt.out.own.lt kb h
        have c := hI (pNm fb.out (by omega))
        cases hn61 : nmR nameP ts k5 with
        | out =>
         rw [hn61] at c
         clear hn61
         go_wp2_with fail
         refine c.out.mono ?_
         rintro e w9 j
         exact j.elim
        | bad ln co er =>
         rw [hn61] at c
         have q := hI (show m = .bad ln co er by rw [du.out, hn61] <;> rfl)
         clear hn61
         go_wp2_with fail
         refine c.out.mono ?_
         rintro e w9 ⟨rfl, s⟩
         go_wp2_with fail
         rw [q.out]
         exact ⟨rfl, prp_bad (hI (grown_tr dr.out s.out))⟩
        | ok n2 k7 =>
         rw [hn61] at c
         have h8 := (nmR_fw (nm := nameP) (ts := ts) k5) _ _ hn61
         have dw := hI (show m = (wantP ts false [61] k7).bind fun _ k8 => (sumE nameP ts k8).bind fun e2 k9 => (if isS false ts k9 [44] then resP nameP ts fu (k9 + 1) (x.map EqN.pl ++ [⟨n2, e2⟩]) else .ok (x.map EqN.pl ++ [⟨n2, e2⟩]) k9).bind fun rs k5 => (wantP ts false [59] k5).bind fun _ k6 => .ok ⟨g1, d, n, rs⟩ k6 by rw [du.out, hn61] <;> rfl)
         have h9 := nmR_len hn61
         clear hn61
         go_wp2_with fail
         refine c.out.mono ?_
         rintro e wq61 ⟨j, HGq61, HVq61⟩
         cases j
         have ff := hI (grown_tr dr.out HGq61.out)
         have dx := hI (fc.out.grown HGq61.out p.out)
         have dy := hI (ds.out.grown HGq61.out o.out)
         have fg := hI (ina_mv fd.out (fun b hb e => by injection e with e; omega) HGq61.out)
         have fh := hI (grown_tr fe.out HGq61.out)
         go_upto_region 11 with (fail)
         obtain ⟨dz, l⟩ := eX (wq61.alloc (Obj.cells #[.string ⟨n2.toArray⟩, .int .i64 0, .int .i64 0, .int .i64 0, .string ⟨#[]⟩, .int .i64 0, .slice none 0 0] 82))
         have ae := hI (show Below wq61.heap.size wq61 dz by rw [l]; exact below_box _ _)
         have d0 := hI (show Blk dz wq61.heap.size 82 #[.string ⟨n2.toArray⟩, .int .i64 0, .int .i64 0, .int .i64 0, .string ⟨#[]⟩, .int .i64 0, .slice none 0 0] by rw [l]; exact Blk.new _ _ _)
         rw [← l]
         clear l
         obtain ⟨T, al⟩ := eX (wq61.heap.size)
         have bk := hI (show some T ≠ some g from fun e => by have := HVq61.out.gl; injection e with e; omega)
         have d1 : w.heap.size < T := by rw [al]; exact dx.out.lt
         rw [← al] at d0 ⊢
         have ia : wr.heap.size ≤ T := by rw [al]; exact HGq61.out.size
         have ib : i < T := by rw [al]; exact dy.out.lt
         have ic : hi ≤ T := by omega
         clear al
         have fi := hI (HVq61.out.belowW ae.out)
         have d2 := hI (grown_tr ff.out (grown_of (some g) ae.out))
         have fj := hI (dx.out.belowW ae.out)
         have fk := hI (dy.out.belowW ae.out)
         have fl := hI (fg.out.belowW ae.out)
         have fm := hI (grown_tr fh.out (grown_of (some g) ae.out))
         have c := hI (pWant fi.out (by omega) [61] false (by decide))
         cases hn63 : wantP ts false [61] k7 with
         | out =>
          rw [hn63] at c
          clear hn63
          go_wp2_with fail
          refine c.out.mono ?_
          rintro e w9 j
          exact j.elim
         | bad ln co er =>
          rw [hn63] at c
          have q := hI (show m = .bad ln co er by rw [dw.out, hn63] <;> rfl)
          clear hn63
          go_wp2_with fail
          refine c.out.mono ?_
          rintro e w9 ⟨rfl, s⟩
          go_wp2_with fail
          rw [q.out]
          exact ⟨rfl, prp_bad (hI (grown_tr d2.out s.out))⟩
         | ok u4 k8 =>
          rw [hn63] at c
          have id := (want_fw (ts := ts) false [61] k7) _ _ hn63
          have d3 := hI (show m = (sumE nameP ts k8).bind fun e2 k9 => (if isS false ts k9 [44] then resP nameP ts fu (k9 + 1) (x.map EqN.pl ++ [⟨n2, e2⟩]) else .ok (x.map EqN.pl ++ [⟨n2, e2⟩]) k9).bind fun rs k5 => (wantP ts false [59] k5).bind fun _ k6 => .ok ⟨g1, d, n, rs⟩ k6 by rw [dw.out, hn63] <;> rfl)
          clear hn63
          go_wp2_with fail
          refine c.out.mono ?_
          rintro e wq63 ⟨j, HGq63, HVq63⟩
          cases j
          have d4 := hI (grown_tr d2.out HGq63.out)
          have fn := hI (fj.out.grown HGq63.out p.out)
          have fo := hI (fk.out.grown HGq63.out o.out)
          have d5 := hI (d0.out.grown HGq63.out bk.out)
          have fp := hI (ina_mv fl.out (fun b hb e => by injection e with e; omega) HGq63.out)
          have fq := hI (grown_tr fm.out HGq63.out)
          have c := hI (pSumE HVq63.out (by omega) hR hX hD)
          cases hn64 : sumE nameP ts k8 with
          | out =>
           rw [hn64] at c
           clear hn64
           go_wp2_with fail
           refine c.out.mono ?_
           rintro e w9 j
           exact j.elim
          | bad ln co er =>
           rw [hn64] at c
           have q := hI (show m = .bad ln co er by rw [d3.out, hn64] <;> rfl)
           clear hn64
           go_wp2_with fail
           refine c.out.mono ?_
           rintro e w9 ⟨rfl, s⟩
           go_wp2_with fail
           rw [q.out]
           exact ⟨rfl, prp_bad (hI (grown_tr d4.out s.out))⟩
          | ok e2 k9 =>
           rw [hn64] at c
           have ie := (sumE_fw (nm := nameP) (ts := ts) k8) _ _ hn64
           have d6 := hI (show m = (if isS false ts k9 [44] then resP nameP ts fu (k9 + 1) (x.map EqN.pl ++ [⟨n2, e2⟩]) else .ok (x.map EqN.pl ++ [⟨n2, e2⟩]) k9).bind fun rs k5 => (wantP ts false [59] k5).bind fun _ k6 => .ok ⟨g1, d, n, rs⟩ k6 by rw [d3.out, hn64] <;> rfl)
           clear hn64
           go_wp2_with fail
           refine c.out.mono ?_
           rintro e wq64 ⟨j, HGq64, HVq64⟩
           obtain ⟨a, j, fr⟩ := j
           cases j
           obtain ⟨a0, a1⟩ := eX (wq63.heap.size)
           obtain ⟨d7, d8⟩ := eX (wq64.heap.size)
           have ig : g < a0 := by rw [a1]; exact HVq63.out.gl
           have ii : T < a0 := by rw [a1]; exact d5.out.lt
           have ij : a0 ≤ d7 := by rw [a1, d8]; exact HGq64.out.size
           have fs := hI (show InA (fun b => a0 ≤ b ∧ b < d7) wq64 e2 a by rw [a1, d8]; exact InA.lt fr.out)
           have ft := hI (grown_tr d4.out HGq64.out)
           have fv := hI (fn.out.grown HGq64.out p.out)
           have fw := hI (fo.out.grown HGq64.out o.out)
           have bl := hI (d5.out.grown HGq64.out bk.out)
           have fx := hI (ina_mv fp.out (fun b hb e => by injection e with e; omega) HGq64.out)
           have fy := hI (grown_tr fq.out HGq64.out)
           obtain ⟨bm, bn, bo, bp, bq, br, bs, bt, bu, bv, bw, bx, bz, b0⟩ := bl.out.all7
           go_upto_region 13 with (fail)
           rw [pst16 bl.out]
           have d9 := hI (bl.out.put #[.string ⟨n2.toArray⟩, .int .i64 a.h.kind, .int .i64 a.h.n, .int .i64 a.h.d, .string a.h.name, .int .i64 a.h.k, .slice a.A a.len a.cap])
           have ea := hI (grown_new ft.out (Nat.le_of_lt d1) 82 #[.string ⟨n2.toArray⟩, .int .i64 a.h.kind, .int .i64 a.h.n, .int .i64 a.h.d, .string a.h.name, .int .i64 a.h.k, .slice a.A a.len a.cap])
           have eb := hI (HVq64.out.far (r := T) (fun e => bk.out (by rw [e])) (Nat.le_trans Y (Nat.le_of_lt d1)) 82 #[.string ⟨n2.toArray⟩, .int .i64 a.h.kind, .int .i64 a.h.n, .int .i64 a.h.d, .string a.h.name, .int .i64 a.h.k, .slice a.A a.len a.cap])
           have ec := hI (fv.out.far (g' := T) (t' := 82) (by omega) #[.string ⟨n2.toArray⟩, .int .i64 a.h.kind, .int .i64 a.h.n, .int .i64 a.h.d, .string a.h.name, .int .i64 a.h.k, .slice a.A a.len a.cap])
           have b1 := hI (fw.out.far (g' := T) (t' := 82) (by omega) #[.string ⟨n2.toArray⟩, .int .i64 a.h.kind, .int .i64 a.h.n, .int .i64 a.h.d, .string a.h.name, .int .i64 a.h.k, .slice a.A a.len a.cap])
           have ed := hI (fx.out.far (r := T) (by omega) 82 #[.string ⟨n2.toArray⟩, .int .i64 a.h.kind, .int .i64 a.h.n, .int .i64 a.h.d, .string a.h.name, .int .i64 a.h.k, .slice a.A a.len a.cap])
           have ee := hI (fs.out.far (r := T) (by omega) 82 #[.string ⟨n2.toArray⟩, .int .i64 a.h.kind, .int .i64 a.h.n, .int .i64 a.h.d, .string a.h.name, .int .i64 a.h.k, .slice a.A a.len a.cap])
           have ef := hI (grown_new (r := T) fy.out (by omega) 82 #[.string ⟨n2.toArray⟩, .int .i64 a.h.kind, .int .i64 a.h.n, .int .i64 a.h.d, .string a.h.name, .int .i64 a.h.k, .slice a.A a.len a.cap])
           obtain ⟨X, l⟩ := eX (putB wq64 T 82 #[.string ⟨n2.toArray⟩, .int .i64 a.h.kind, .int .i64 a.h.n, .int .i64 a.h.d, .string a.h.name, .int .i64 a.h.k, .slice a.A a.len a.cap])
           have ik : wq64.heap.size ≤ X.heap.size := by rw [l, putB_size]; exact Nat.le_refl _
           rw [← l] at ea eb ec b1 d9 ed ee ef ⊢
           clear l bm bn bo bp bq br bs bt bu bv bw bx bz b0
           have fz : (⟨n2.toArray⟩ : ByteArray).size ≤ maxLen := by
            show n2.toArray.size ≤ _
            rw [List.size_toArray]
            unfold maxLen
            omega
           have aa := hI (below_box X (Obj.cells #[.string ⟨n2.toArray⟩, .int .i64 a.h.kind, .int .i64 a.h.n, .int .i64 a.h.d, .string a.h.name, .int .i64 a.h.k, .slice a.A a.len a.cap] 82))
           have f0 := hI ((dt.out.moved pzQ (.inr ⟨g, rfl, by omega⟩) ef.out).belowW pzQ aa.out)
           have f1 := hI (show PzQ (fun b => i + 1 ≤ b ∧ b < (X.alloc (Obj.cells #[.string ⟨n2.toArray⟩, .int .i64 a.h.kind, .int .i64 a.h.n, .int .i64 a.h.d, .string a.h.name, .int .i64 a.h.k, .slice a.A a.len a.cap] 82)).heap.size ∧ some b ≠ rv.ownBlock) (X.alloc (Obj.cells #[.string ⟨n2.toArray⟩, .int .i64 a.h.kind, .int .i64 a.h.n, .int .i64 a.h.d, .string a.h.name, .int .i64 a.h.k, .slice a.A a.len a.cap] 82)) ⟨⟨n2.toArray⟩, a, e2⟩ from ⟨(ee.out.belowW aa.out).weaken (fun b hb => ⟨by omega, by rw [World.size_alloc]; omega, fun e => by have := dv b e.symm; omega⟩), fz⟩)
           have f2 : ∀ u ∈ EqN.cells (⟨⟨n2.toArray⟩, a, e2⟩ : EqN), u.oneCell' = true := by simp [EqN.cells, Value.oneCell']
           have f3 : i + 1 ≤ (X.alloc (Obj.cells #[.string ⟨n2.toArray⟩, .int .i64 a.h.kind, .int .i64 a.h.n, .int .i64 a.h.d, .string a.h.name, .int .i64 a.h.k, .slice a.A a.len a.cap] 82)).heap.size := by rw [World.size_alloc]; omega
           have f4 := hI (show Blk (X.alloc (Obj.cells #[.string ⟨n2.toArray⟩, .int .i64 a.h.kind, .int .i64 a.h.n, .int .i64 a.h.d, .string a.h.name, .int .i64 a.h.k, .slice a.A a.len a.cap] 82)) X.heap.size 82 (EqN.cells (⟨⟨n2.toArray⟩, a, e2⟩ : EqN)).toArray from Blk.new _ _ _)
           obtain ⟨y, z, B, C, D, E, F, G, H, I, J, L, M, N, O, P, Q, R⟩ := b1.out.all9
           obtain ⟨bm, bn, bo, bp, bq, br, bs, bt, bu, bv, bw, bx, bz, b0⟩ := d9.out.all7
           obtain ⟨i0, ti, eh, ei, ej⟩ := info_parts Tryz.infoReset
           go_wp2_with (at_builtin; refine wpList_append_mk rfl _ _ _ rfl pzQ EqN.len7 rfl f0.out f1.out i0 _ 88 Tryz.underlying79 ti eh ei ej rfl (by omega) (by omega) (by omega) X.heap.size _ rfl f4.out f2 f3 ?_)
           intro v9 w9 hmk hgr hob
           have ek := hI hmk
           have am := hI hgr
           clear hmk hgr hob ti eh ei ej y z B C D E F G H I J L M N O P Q R bm bn bo bp bq br bs bt bu bv bw bx bz b0
           obtain ⟨U, S, el, _⟩ := ek.out.lies pzQ
           obtain ⟨V, em⟩ := eX ((x ++ [(⟨⟨n2.toArray⟩, a, e2⟩ : EqN)]).length)
           rw [← em] at el
           clear em
           subst el
           have an : ∀ b, rv.ownBlock = some b → i + 1 ≤ b := fun b h => (dv b h).1
           have f6 := hI (env_row (eb.out.belowW aa.out) am.out (fun b h => by have := an b h; omega))
           have s := hI (grown_row (grown_tr ea.out (grown_of (some g) aa.out)) am.out (fun b h => by have := an b h; omega))
           have f7 := hI ((ec.out.belowW aa.out).grown am.out (fun e => by have := an _ e.symm; omega))
           have b2 := hI ((b1.out.belowW aa.out).grown am.out (fun e => by have := an _ e.symm; omega))
           have f8 := hI (ina_mv (ed.out.belowW aa.out) (fun b hb e => by have := an b e.symm; omega) am.out)
           have a2 := hI (ek.out.moved pzQ (.inr ⟨i, rfl, Nat.lt_succ_self _⟩) (putB_grown w9 i 81 #[.int .i64 v.h.kind, .int .i64 v.h.n, .int .i64 v.h.d, .string v.h.name, .int .i64 v.h.k, .slice v.A v.len v.cap, .int .i64 d, .string ⟨n.toArray⟩, .slice U V S]))
           obtain ⟨y, z, B, C, D, E, F, G, H, I, J, L, M, N, O, P, Q, R⟩ := b2.out.all9
           go_upto_region 14 with (fail)
           rw [(show w9.setCell ⟨i, 8, none⟩ (.slice U V S) = putB w9 i 81 #[.int .i64 v.h.kind, .int .i64 v.h.n, .int .i64 v.h.d, .string v.h.name, .int .i64 v.h.k, .slice v.A v.len v.cap, .int .i64 d, .string ⟨n.toArray⟩, .slice U V S] from b2.out.setCell_eq 8 _)]
           have b3 := hI (b2.out.put #[.int .i64 v.h.kind, .int .i64 v.h.n, .int .i64 v.h.d, .string v.h.name, .int .i64 v.h.k, .slice v.A v.len v.cap, .int .i64 d, .string ⟨n.toArray⟩, .slice U V S])
           have b4 := hI (grown_new s.out (Nat.le_of_lt W) 81 #[.int .i64 v.h.kind, .int .i64 v.h.n, .int .i64 v.h.d, .string v.h.name, .int .i64 v.h.k, .slice v.A v.len v.cap, .int .i64 d, .string ⟨n.toArray⟩, .slice U V S])
           have en := hI (f6.out.far (r := i) (fun e => o.out (by rw [e])) (Nat.le_trans Y (Nat.le_of_lt W)) 81 #[.int .i64 v.h.kind, .int .i64 v.h.n, .int .i64 v.h.d, .string v.h.name, .int .i64 v.h.k, .slice v.A v.len v.cap, .int .i64 d, .string ⟨n.toArray⟩, .slice U V S])
           have b5 := hI (f7.out.far (g' := i) (t' := 81) (by omega) #[.int .i64 v.h.kind, .int .i64 v.h.n, .int .i64 v.h.d, .string v.h.name, .int .i64 v.h.k, .slice v.A v.len v.cap, .int .i64 d, .string ⟨n.toArray⟩, .slice U V S])
           have b6 := hI (f8.out.far (r := i) (by omega) 81 #[.int .i64 v.h.kind, .int .i64 v.h.n, .int .i64 v.h.d, .string v.h.name, .int .i64 v.h.k, .slice v.A v.len v.cap, .int .i64 d, .string ⟨n.toArray⟩, .slice U V S])
           obtain ⟨f9, l⟩ := eX (putB w9 i 81 #[.int .i64 v.h.kind, .int .i64 v.h.n, .int .i64 v.h.d, .string v.h.name, .int .i64 v.h.k, .slice v.A v.len v.cap, .int .i64 d, .string ⟨n.toArray⟩, .slice U V S])
           have il : w9.heap.size ≤ f9.heap.size := by rw [l, putB_size]; exact Nat.le_refl _
           rw [← l] at b4 en b5 b3 b6 a2 ⊢
           clear l y z B C D E F G H I J L M N O P Q R
           have ao := hI (pAccept en.out (by omega) ⟨#[44]⟩)
           rw [show kwP (⟨#[44]⟩ : ByteArray).data.toList = false by decide, show (⟨#[44]⟩ : ByteArray).data.toList = [44] from rfl] at ao
           cases hb68 : isS false ts k9 [44] with
           | true =>
            have im := isS_lt hb68
            rw [hb68] at ao
            have ga := hI (show m = (resP nameP ts fu (k9 + 1) ((x ++ [(⟨⟨n2.toArray⟩, a, e2⟩ : EqN)]).map EqN.pl)).bind fun rs k5 => (wantP ts false [59] k5).bind fun _ k6 => .ok ⟨g1, d, n, rs⟩ k6 by rw [d6.out, hb68, if_pos rfl, List.map_append]; rfl)
            clear hb68
            go_wp2_with fail
            refine ao.out.mono ?_
            rintro e wa68 ⟨rfl, HGa68, HVa68⟩
            simp only [if_true] at HVa68
            have a3 := hI (grown_tr b4.out HGa68.out)
            have b7 := hI (b5.out.grown HGa68.out p.out)
            have b8 := hI (b3.out.grown HGa68.out o.out)
            have b9 := hI (ina_mv b6.out (fun b hb e => by injection e with e; omega) HGa68.out)
            have a4 := hI (a2.out.moved pzQ (.inr ⟨g, rfl, by omega⟩) HGa68.out)
            go_wp2_with fail
            go_roundg fu
            case measure => omega
            case rel => exact ⟨k9 + 1, x ++ [(⟨⟨n2.toArray⟩, a, e2⟩ : EqN)], .slice U V S, ga, by omega, by omega, by rw [List.length_append]; show x.length + 1 ≤ _; omega, HVa68, a3, b7, b8, b9, a4⟩
           | false =>
            rw [hb68] at ao
            obtain ⟨af, ca⟩ := eX (x ++ [(⟨⟨n2.toArray⟩, a, e2⟩ : EqN)])
            have eo := hI (show m = (wantP ts false [59] k9).bind fun _ k6 => .ok ⟨g1, d, n, af.map EqN.pl⟩ k6 by rw [d6.out, hb68, if_neg (by decide), ca, List.map_append]; rfl)
            rw [← ca] at a2
            clear ca
            clear hb68
            go_wp2_with fail
            refine ao.out.mono ?_
            rintro e wa68 ⟨rfl, HGa68, HVa68⟩
            simp only [Bool.false_eq_true, if_false] at HVa68
            have a3 := hI (grown_tr b4.out HGa68.out)
            have b7 := hI (b5.out.grown HGa68.out p.out)
            have b8 := hI (b3.out.grown HGa68.out o.out)
            have b9 := hI (ina_mv b6.out (fun b hb e => by injection e with e; omega) HGa68.out)
            have a4 := hI (a2.out.moved pzQ (.inr ⟨g, rfl, by omega⟩) HGa68.out)
            have io := a4
            have c := hI (pWant HVa68.out (by omega) [59] false (by decide))
            cases hn70 : wantP ts false [59] k9 with
            | out =>
             rw [hn70] at c
             clear hn70
             go_wp2_with fail
             refine c.out.mono ?_
             rintro e w9 j
             exact j.elim
            | bad ln co er =>
             rw [hn70] at c
             have q := hI (show m = .bad ln co er by rw [eo.out, hn70] <;> rfl)
             clear hn70
             go_wp2_with fail
             refine c.out.mono ?_
             rintro e w9 ⟨rfl, s⟩
             go_wp2_with fail
             rw [q.out]
             exact ⟨rfl, prp_bad (hI (grown_tr a3.out s.out))⟩
            | ok u6 k6 =>
             rw [hn70] at c
             have ip := (want_fw (ts := ts) false [59] k9) _ _ hn70
             have gb := hI (show m = .ok ⟨g1, d, n, (af).map EqN.pl⟩ k6 by rw [eo.out, hn70] <;> rfl)
             clear hn70
             go_wp2_with fail
             refine c.out.mono ?_
             rintro e wq70 ⟨j, HGq70, HVq70⟩
             cases j
             have gc := hI (grown_tr a3.out HGq70.out)
             have cb := hI (b7.out.grown HGq70.out p.out)
             have gd := hI (b8.out.grown HGq70.out o.out)
             have ge := hI (ina_mv b9.out (fun b hb e => by injection e with e; omega) HGq70.out)
             have gf := hI (a4.out.moved pzQ (.inr ⟨g, rfl, by omega⟩) HGq70.out)
             obtain ⟨A5, c5, gg, ep⟩ := gf.out.lies pzQ
             have gh := hI ep
             clear ep
             injection gg with h5 hl h6
             subst h5 hl h6
             have cc : (⟨n.toArray⟩ : ByteArray).size ≤ maxLen := by
              show n.toArray.size ≤ _
              rw [List.size_toArray]
              unfold maxLen
              omega
             obtain ⟨gi, gj, gm, gn, go, gp, gq, gr, gs, gt, gu, gv, gw, gz, g0, g2, g3, g4⟩ := cb.out.all9
             obtain ⟨y, z, B, C, D, E, F, G, H, I, J, L, M, N, O, P, Q, R⟩ := gd.out.all9
             go_wp2_with fail
             rw [pst9 cb.out]
             have FZ := hI (cb.out.put #[.int .i64 v.h.kind, .int .i64 v.h.n, .int .i64 v.h.d, .string v.h.name, .int .i64 v.h.k, .slice v.A v.len v.cap, .int .i64 d, .string ⟨n.toArray⟩, .slice U af.length S])
             obtain ⟨z0, _, z1, _, z2, _, z3, _, z4, _, z5, _, z6, _, z7, _, z8, _⟩ := FZ.out.all9
             refine bodyPost_ret (v := .agg #[.int .i64 v.h.kind, .int .i64 v.h.n, .int .i64 v.h.d, .string v.h.name, .int .i64 v.h.k, .slice v.A v.len v.cap, .int .i64 d, .string ⟨n.toArray⟩, .slice U af.length S]) (by simp [results, Tryz.results143, go_sem, z0, z1, z2, z3, z4, z5, z6, z7, z8]) rfl ?_
             rw [gb.out]
             exact ⟨⟨⟨v, g1, d, ⟨n.toArray⟩, U, af.length, S, af⟩, rfl, rfl, hI ⟨(InA.far ge.out (r := w.heap.size) (by omega) _ _).weaken (fun b hb => by omega), (by show -9223372036854775808 ≤ d; omega), (by show d ≤ 9223372036854775807; omega), cc, ((gh.out.mv pzQ (r := some w.heap.size) (fun b hb e => by injection e with e; omega) (putB_grown _ _ _ _)).weaken pzQ (fun b hb => by omega))⟩⟩, hI (grown_new gc.out (Nat.le_refl _) _ _), hI (HVq70.out.far cr Y _ _)⟩
     | false =>
      rw [hb44] at ak
      have ax := hI (show m = (wantP ts false [59] k4).bind fun _ k6 => .ok ⟨g1, d, n, ([] : List EqN).map EqN.pl⟩ k6 by rw [dp.out]; unfold withP; rw [hb44]; rfl)
      clear hb44
      go_wp2_with fail
      refine ak.out.mono ?_
      rintro e wa44 ⟨rfl, HGa44, HVa44⟩
      simp only [Bool.false_eq_true, if_false] at HVa44
      have ay := hI (grown_tr bf.out HGa44.out)
      have bi := hI (bg.out.grown HGa44.out p.out)
      have az := hI (be.out.grown HGa44.out o.out)
      have bj := hI (ina_mv bh.out (fun b hb e => by injection e with e; omega) HGa44.out)
      have c := hI (pWant HVa44.out (by omega) [59] false (by decide))
      cases hn46 : wantP ts false [59] k4 with
      | out =>
       rw [hn46] at c
       clear hn46
       go_wp2_with fail
       refine c.out.mono ?_
       rintro e w9 j
       exact j.elim
      | bad ln co er =>
       rw [hn46] at c
       have q := hI (show m = .bad ln co er by rw [ax.out, hn46] <;> rfl)
       clear hn46
       go_wp2_with fail
       refine c.out.mono ?_
       rintro e w9 ⟨rfl, s⟩
       go_wp2_with fail
       rw [q.out]
       exact ⟨rfl, prp_bad (hI (grown_tr ay.out s.out))⟩
      | ok u6 k6 =>
       rw [hn46] at c
       have is := (want_fw (ts := ts) false [59] k4) _ _ hn46
       have g5 := hI (show m = .ok ⟨g1, d, n, ([]).map EqN.pl⟩ k6 by rw [ax.out, hn46] <;> rfl)
       clear hn46
       go_wp2_with fail
       refine c.out.mono ?_
       rintro e wq46 ⟨j, HGq46, HVq46⟩
       cases j
       have g6 := hI (grown_tr ay.out HGq46.out)
       have cn := hI (bi.out.grown HGq46.out p.out)
       have g7 := hI (az.out.grown HGq46.out o.out)
       have g8 := hI (ina_mv bj.out (fun b hb e => by injection e with e; omega) HGq46.out)
       have cc : (⟨n.toArray⟩ : ByteArray).size ≤ maxLen := by
        show n.toArray.size ≤ _
        rw [List.size_toArray]
        unfold maxLen
        omega
       obtain ⟨gi, gj, gm, gn, go, gp, gq, gr, gs, gt, gu, gv, gw, gz, g0, g2, g3, g4⟩ := cn.out.all9
       obtain ⟨y, z, B, C, D, E, F, G, H, I, J, L, M, N, O, P, Q, R⟩ := g7.out.all9
       go_wp2_with fail
       rw [pst9 cn.out]
       have FZ := hI (cn.out.put #[.int .i64 v.h.kind, .int .i64 v.h.n, .int .i64 v.h.d, .string v.h.name, .int .i64 v.h.k, .slice v.A v.len v.cap, .int .i64 d, .string ⟨n.toArray⟩, .slice none 0 0])
       obtain ⟨z0, _, z1, _, z2, _, z3, _, z4, _, z5, _, z6, _, z7, _, z8, _⟩ := FZ.out.all9
       refine bodyPost_ret (v := .agg #[.int .i64 v.h.kind, .int .i64 v.h.n, .int .i64 v.h.d, .string v.h.name, .int .i64 v.h.k, .slice v.A v.len v.cap, .int .i64 d, .string ⟨n.toArray⟩, .slice none 0 0]) (by simp [results, Tryz.results143, go_sem, z0, z1, z2, z3, z4, z5, z6, z7, z8]) rfl ?_
       rw [g5.out]
       exact ⟨⟨⟨v, g1, d, ⟨n.toArray⟩, none, 0, 0, []⟩, rfl, rfl, hI ⟨(InA.far g8.out (r := w.heap.size) (by omega) _ _).weaken (fun b hb => by omega), (by show -9223372036854775808 ≤ d; omega), (by show d ≤ 9223372036854775807; omega), cc, lil_nil _ _⟩⟩, hI (grown_new g6.out (Nat.le_refl _) _ _), hI (HVq46.out.far cr Y _ _)⟩
end Go.Proofs.YtkjoohnndobjeaaGreatDoor
