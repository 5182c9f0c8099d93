/-
  Expressions that the parser has made, and the walk of the parser's step into a nesting.
  The walks of the parser's sums in parentheses, and of the beginning of a term.
  The walk of the beginning of a term.
  The walk of the parser's names; the map of the functions.
-/
import Derived.Test.YtkjoohnndobjeaaGreatDoorQI
set_option linter.unusedVariables false
namespace Go.Proofs.YtkjoohnndobjeaaGreatDoor
open Go.RowKit Go.Fl Go.Fl.Lx Go.Fl.Nm Go.Fl.Fm Go.Fl.Rt Go.Fl.Pa
/-- An expression lies at a node, all of it in blocks that P allows. -/
inductive InA (P : Nat → Prop) (w : World) : TE → Nd → Prop where
  | mk (h : Hd) (l : List TE) (A : Option Addr) (len cap : Nat) (vs : List Nd) (ok : HdOk h) (hl : l.length = len) (hc : len ≤ cap) (hm : cap ≤ maxLen) (hv : vs.length = len) (hr : Rd w 6 A len (ndsCells vs)) (hg : 0 < len → ∀ b o, A = some ⟨b, o, none⟩ → P b)
      (hi : ∀ (i : Nat) T v, l[i]? = some T → vs[i]? = some v → InA P w T v) : InA P w (.mk h l) ⟨h, A, len, cap⟩
theorem InA.toE {P : Nat → Prop} {w : World} {T : TE} {v : Nd} (h : InA P w T v) : InE w T v := by
  induction h with
  | mk h l A len cap vs ok hl hc hm hv hr hg hi ih => exact .mk h l A len cap vs ok hl hc hm hv hr ih
theorem InA.mv {P : Nat → Prop} {g : Nat} {w w' : World} {T : TE} {v : Nd} (h : InA P w T v) (hgP : ¬ P g) (hb : w.grownBy w' (some g)) : InA P w' T v := by
  induction h with
  | mk h l A len cap vs ok hl hc hm hv hr hg hi ih =>
    refine .mk h l A len cap vs ok hl hc hm hv ⟨hr.1, fun hn => ?_⟩ hg ih
    obtain ⟨b, off, hA, hlt, hcell⟩ := hr.2 hn
    refine ⟨b, off, hA, Nat.lt_of_lt_of_le hlt hb.size, fun j u hu => ?_⟩
    have h1 := hcell j u hu
    have h2 := hb.block b hlt (fun e => by have := hg hn b off hA; injection e with e; rw [e] at this; exact hgP this)
    unfold World.cell? at h1 ⊢
    rw [h2]
    exact h1
theorem InA.belowW {P : Nat → Prop} {w w' : World} {T : TE} {v : Nd} (h : InA P w T v) (hb : Below w.heap.size w w') : InA P w' T v := by
  induction h with
  | mk h l A len cap vs ok hl hc hm hv hr hg hi ih => exact .mk h l A len cap vs ok hl hc hm hv (hr.below hb) hg ih
theorem InA.far {P : Nat → Prop} {r : Nat} {w : World} {T : TE} {v : Nd} (h : InA P w T v) (hr : ¬ P r) (t : TypeId) (V : Array Value) : InA P (putB w r t V) T v := h.mv hr (putB_grown w r t V)
theorem InA.weaken {P Q : Nat → Prop} {w : World} {T : TE} {v : Nd} (h : InA P w T v) (hC : ∀ b, P b → Q b) : InA Q w T v := by
  induction h with
  | mk h l A len cap vs ok hl hc hm hv hr hg hi ih => exact .mk h l A len cap vs ok hl hc hm hv hr (fun hn b o e => hC b (hg hn b o e)) ih
theorem InA.lt {P : Nat → Prop} {w : World} {T : TE} {v : Nd} (h : InA P w T v) : InA (fun b => P b ∧ b < w.heap.size) w T v := by
  induction h with
  | mk h l A len cap vs ok hl hc hm hv hr hg hi ih =>
    refine .mk h l A len cap vs ok hl hc hm hv hr (fun hn b o e => ⟨hg hn b o e, ?_⟩) ih
    obtain ⟨b', off, hA, hlt, _⟩ := hr.2 hn
    rw [e] at hA
    injection hA with hA
    injection hA with hA
    rw [hA]
    exact hlt
theorem InA.ok {P : Nat → Prop} {w : World} {T : TE} {v : Nd} (h : InA P w T v) : HdOk v.h := h.toE.ok
theorem ina_leaf (P : Nat → Prop) (w : World) (h : Hd) (ok : HdOk h) : InA P w (.mk h []) ⟨h, none, 0, 0⟩ :=
  .mk h [] none 0 0 [] ok rfl (Nat.le_refl _) (Nat.zero_le _) rfl (Rd.none_ _ _) (fun hn => absurd hn (Nat.lt_irrefl 0)) (fun i T v h => by cases h)
theorem ina_new1 {P : Nat → Prop} (w : World) (hd : Hd) (ok : HdOk hd) (a : TE) (x : Nd) (t : TypeId) (hB : P w.heap.size) (ha : InA P w a x) :
    InA P (w.alloc (.cells x.cells.toArray t)) (.mk hd [a]) ⟨hd, some ⟨w.heap.size, 0, none⟩, 1, 1⟩ :=
  .mk _ [a] _ 1 1 [x] ok rfl (Nat.le_refl _) (by decide) rfl
    (by
      refine ⟨rfl, fun _ => ⟨w.heap.size, 0, rfl, by simp, fun j u hu => ?_⟩⟩
      have h := (Blk.new w t x.cells.toArray).cell j
      rw [Nat.zero_add, h, List.getElem?_toArray]
      have e : ndsCells [x] = x.cells := by show x.cells ++ [] = _; rw [List.append_nil]
      rw [e] at hu
      exact hu)
    (fun _ b o e => by injection e with e; injection e with e; rw [← e]; exact hB)
    (fun i T v h1 h2 => by
      match i with
      | 0 => injection h1 with h1; injection h2 with h2; subst h1 h2; exact ha.belowW (below_box w _)
      | i + 1 => cases h1)
theorem ina_new2 {P : Nat → Prop} (w : World) (hd : Hd) (ok : HdOk hd) (a b : TE) (x y : Nd) (t : TypeId) (hB : P w.heap.size) (ha : InA P w a x) (hb : InA P w b y) :
    InA P (w.alloc (.cells (x.cells ++ y.cells).toArray t)) (.mk hd [a, b]) ⟨hd, some ⟨w.heap.size, 0, none⟩, 2, 2⟩ :=
  .mk _ [a, b] _ 2 2 [x, y] ok rfl (Nat.le_refl _) (by decide) rfl
    (by
      refine ⟨rfl, fun _ => ⟨w.heap.size, 0, rfl, by simp, fun j u hu => ?_⟩⟩
      have h := (Blk.new w t (x.cells ++ y.cells).toArray).cell j
      rw [Nat.zero_add, h, List.getElem?_toArray]
      exact hu)
    (fun _ b o e => by injection e with e; injection e with e; rw [← e]; exact hB)
    (fun i T v h1 h2 => by
      match i with
      | 0 => injection h1 with h1; injection h2 with h2; subst h1 h2; exact ha.belowW (below_box w _)
      | 1 => injection h1 with h1; injection h2 with h2; subst h1 h2; exact hb.belowW (below_box w _)
      | i + 2 => cases h1)
/-- An expression lies at a node, all of it from block B on. -/
def InX (B : Nat) (w : World) (T : TE) (v : Nd) : Prop := InA (fun b => B ≤ b) w T v
theorem InX.toE {B : Nat} {w : World} {T : TE} {v : Nd} (h : InX B w T v) : InE w T v := InA.toE h
theorem InX.mv {B g : Nat} {w w' : World} {T : TE} {v : Nd} (h : InX B w T v) (hgB : g < B) (hb : w.grownBy w' (some g)) : InX B w' T v := InA.mv h (fun e => absurd hgB (Nat.not_lt_of_le e)) hb
theorem InX.belowW {B : Nat} {w w' : World} {T : TE} {v : Nd} (h : InX B w T v) (hb : Below w.heap.size w w') : InX B w' T v := InA.belowW h hb
theorem InX.far {B r : Nat} {w : World} {T : TE} {v : Nd} (h : InX B w T v) (hr : r < B) (t : TypeId) (V : Array Value) : InX B (putB w r t V) T v := h.mv hr (putB_grown w r t V)
theorem InX.weaken {B C : Nat} {w : World} {T : TE} {v : Nd} (h : InX B w T v) (hC : C ≤ B) : InX C w T v := InA.weaken h (fun b hb => Nat.le_trans hC hb)
theorem InX.ok {B : Nat} {w : World} {T : TE} {v : Nd} (h : InX B w T v) : HdOk v.h := h.toE.ok
/-- A number, a variable: nodes without elements. -/
theorem inx_leaf (B : Nat) (w : World) (h : Hd) (ok : HdOk h) : InX B w (.mk h []) ⟨h, none, 0, 0⟩ := ina_leaf _ w h ok
theorem inx_new1 {B : Nat} (w : World) (hd : Hd) (ok : HdOk hd) (a : TE) (x : Nd) (t : TypeId) (hB : B ≤ w.heap.size) (ha : InX B w a x) :
    InX B (w.alloc (.cells x.cells.toArray t)) (.mk hd [a]) ⟨hd, some ⟨w.heap.size, 0, none⟩, 1, 1⟩ := ina_new1 w hd ok a x t hB ha
/-- What a rule for expressions answers. -/
def ExR (w0 : World) (g : Nat) (A : Option Addr) (len cap : Nat) (ts : List Tok) (m : Nat) (r : PR TE) (w : World) (e : Ending) (w' : World) : Prop :=
  match r with
  | .ok T k1 => ∃ v : Nd, e = .returned v.val ∧ Hid (InX w.heap.size w' T v) ∧ Hid (w.grownBy w' (some g)) ∧ Hid (Env w0 g A len cap ts k1 m w')
  | .bad ln co er => e = pan ln co er ∧ Hid (w.grownBy w' (some g))
  | .out => True
section
variable {w0 : World} {g : Nat} {A : Option Addr} {len cap : Nat} {ts : List Tok} {m : Nat}
theorem exr_bad {ln co er : Nat} {w w' : World} (hg : Hid (w.grownBy w' (some g))) : ExR w0 g A len cap ts m (.bad ln co er) w (pan ln co er) w' := ⟨rfl, hg⟩
theorem exr_unex {k : Nat} {w w' : World} {e : Ending} (he : e = panU ts k) (hg : Hid (w.grownBy w' (some g))) : ExR w0 g A len cap ts m (unex ts k) w e w' := by
  unfold unex failP
  unfold panU at he
  split
  · rename_i h
    rw [if_pos h] at he
    exact ⟨he, hg⟩
  · rename_i h
    rw [if_neg h] at he
    exact ⟨he, hg⟩
theorem exr_fail {k er : Nat} {w w' : World} (hg : Hid (w.grownBy w' (some g))) : ExR w0 g A len cap ts m (failP ts k er) w (pan (tk ts k).line (tk ts k).col er) w' := ⟨rfl, hg⟩
end

set_option maxHeartbeats 4000000 in
set_option maxRecDepth 100000 in
theorem deeper_factor {w0 w : World} {g : Nat} {A : Option Addr} {len cap : Nat} {ts : List Tok} {k m : Nat} (h : Env w0 g A len cap ts k m w) (hk : k ≤ 120000) (hm : m ≤ 100) (r : PR TE) (hr : r ≠ .out)
    (KF : m ≠ 100 → ∀ w', Env w0 g A len cap ts (k + 1) (m + 1) w' → Calls Tryz.prog 126 #[.pointer (some ⟨g, 0, none⟩)] w' (ExR w0 g A len cap ts (m + 1) r w')) :
    Calls Tryz.prog 157 #[.pointer (some ⟨g, 0, none⟩), .func (.func 126) #[.pointer (some ⟨g, 0, none⟩)] #[]] w (ExR w0 g A len cap ts m (if m = 100 then failP ts k 5 else r) w) := by
  have HKF := Lib.hid KF
  have HHH := Lib.hid h
  obtain ⟨RR, hRR⟩ : ∃ RR, RR = (if m = 100 then failP ts k 5 else r) := ⟨_, rfl⟩
  have HRR := Lib.hid hRR
  rw [← hRR]
  clear KF hRR
  go_enter Tryz.func157, Tryz.ntmps157
  go_upto_region 1 with (fail)
  obtain ⟨w1, hw1⟩ : ∃ z9 : World, z9 = w.alloc (Obj.cells #[.int .i64 0, .int .i64 0, .int .i64 0, .string ⟨#[]⟩, .int .i64 0, .slice none 0 0] 29) := ⟨_, rfl⟩
  have O1 := Lib.hid (show Below w.heap.size w w1 by rw [hw1]; exact below_box _ _)
  have F1 := Lib.hid (show Blk w1 w.heap.size 29 #[.int .i64 0, .int .i64 0, .int .i64 0, .string ⟨#[]⟩, .int .i64 0, .slice none 0 0] by rw [hw1]; exact Blk.new _ _ _)
  rw [← hw1]
  clear hw1
  have HNE := Lib.hid (show some w.heap.size ≠ some g from fun e => by have := h.gl; injection e with e; omega)
  have hwr : w.heap.size ≠ g := fun e => HNE.out (by rw [e])
  have hlr : w0.heap.size ≤ w.heap.size := h.b.size
  have HV1 := Lib.hid (h.belowW O1.out)
  have HG1 := Lib.hid (grown_of (some g) O1.out)
  clear h
  have HP := Lib.hid (show Blk w1 g 140 #[.slice A len cap, .int .i64 (k : Nat), .int .i64 (m : Nat)] from HV1.out.p)
  by_cases hmm : m = 100
  · have HE := Lib.hid (show RR = failP ts k 5 from HRR.out.trans (if_pos hmm))
    have d1 : ((m : Int) == 100) = true := by rw [hmm]; rfl
    have p2 : w1.cell? ⟨g, 2, none⟩ = some (.int .i64 (m : Nat)) := HP.out.cell 2
    clear hmm
    go_wp2_with fail
    refine (HV1.out.fail 5).mono ?_
    rintro e w2 ⟨rfl, HB⟩
    go_wp2_with fail
    rw [HE.out]
    exact ⟨rfl, exr_fail (Lib.hid (grown_tr HG1.out (grown_of _ HB.out)))⟩
  have HE := Lib.hid (show RR = r from HRR.out.trans (if_neg hmm))
  have d1 : ((m : Int) == 100) = false := by rw [beq_eq_false_iff_ne]; omega
  have HKF := Lib.hid (HKF.out hmm)
  clear hmm HRR
  have e1 : IntKind.i64.wrap ((k : Int) + 1) = (k : Int) + 1 := by rw [IntKind.wrap_i64]; omega
  have e2 : IntKind.i64.wrap ((m : Int) + 1) = (m : Int) + 1 := by rw [IntKind.wrap_i64]; omega
  have e3 : IntKind.i64.wrap ((m : Int) + 1 - 1) = (m : Int) := by rw [IntKind.wrap_i64]; omega
  obtain ⟨p0, f0, p1, f1, p2, f2⟩ := HP.out.all3
  go_upto_region 4 with (fail)
  rw [HP.out.setCell_eq]
  have P2 := Lib.hid (show Blk (putB w1 g 140 ((#[.slice A len cap, .int .i64 (k : Nat), .int .i64 (m : Nat)] : Array Value).setIfInBounds 1 (.int .i64 ((k : Int) + 1)))) g 140 #[.slice A len cap, .int .i64 ((k : Int) + 1), .int .i64 (m : Nat)] from HP.out.put _)
  have HG2 := Lib.hid (grown_tr HG1.out (putB_grown w1 g 140 ((#[.slice A len cap, .int .i64 (k : Nat), .int .i64 (m : Nat)] : Array Value).setIfInBounds 1 (.int .i64 ((k : Int) + 1)))))
  have F2 := Lib.hid (F1.out.far (t' := 140) hwr ((#[.slice A len cap, .int .i64 (k : Nat), .int .i64 (m : Nat)] : Array Value).setIfInBounds 1 (.int .i64 ((k : Int) + 1))))
  clear p0 f0 p1 f1 p2 f2
  obtain ⟨w2, hw2⟩ : ∃ z9 : World, z9 = putB w1 g 140 ((#[.slice A len cap, .int .i64 (k : Nat), .int .i64 (m : Nat)] : Array Value).setIfInBounds 1 (.int .i64 ((k : Int) + 1))) := ⟨_, rfl⟩
  rw [← hw2] at P2 HG2 F2 ⊢
  clear hw2
  obtain ⟨p0, f0, p1, f1, p2, f2⟩ := P2.out.all3
  go_upto_region 5 with (fail)
  rw [P2.out.setCell_eq]
  have P3 := Lib.hid (show Blk (putB w2 g 140 ((#[.slice A len cap, .int .i64 ((k : Int) + 1), .int .i64 (m : Nat)] : Array Value).setIfInBounds 2 (.int .i64 ((m : Int) + 1)))) g 140 #[.slice A len cap, .int .i64 ((k : Int) + 1), .int .i64 ((m : Int) + 1)] from P2.out.put _)
  have HG3 := Lib.hid (grown_tr HG2.out (putB_grown w2 g 140 ((#[.slice A len cap, .int .i64 ((k : Int) + 1), .int .i64 (m : Nat)] : Array Value).setIfInBounds 2 (.int .i64 ((m : Int) + 1)))))
  have F3 := Lib.hid (F2.out.far (t' := 140) hwr ((#[.slice A len cap, .int .i64 ((k : Int) + 1), .int .i64 (m : Nat)] : Array Value).setIfInBounds 2 (.int .i64 ((m : Int) + 1))))
  clear p0 f0 p1 f1 p2 f2
  obtain ⟨w3, hw3⟩ : ∃ z9 : World, z9 = putB w2 g 140 ((#[.slice A len cap, .int .i64 ((k : Int) + 1), .int .i64 (m : Nat)] : Array Value).setIfInBounds 2 (.int .i64 ((m : Int) + 1))) := ⟨_, rfl⟩
  rw [← hw3] at P3 HG3 F3 ⊢
  clear hw3
  have HV3 := Lib.hid (show Env w0 g A len cap ts (k + 1) (m + 1) w3 from HHH.out.moved HG3.out P3.out (by omega))
  have KC := Lib.hid (HKF.out w3 HV3.out)
  cases r with
  | out => exact (hr rfl).elim
  | bad ln co er =>
    go_wp2_with fail
    refine KC.out.mono ?_
    rintro e w4 ⟨rfl, HG4⟩
    go_wp2_with fail
    rw [HE.out]
    exact ⟨rfl, exr_bad (Lib.hid (grown_tr HG3.out HG4.out))⟩
  | ok T k1 =>
    go_wp2_with fail
    refine KC.out.mono ?_
    rintro e w4 ⟨v, rfl, HX4, HG4, HV4⟩
    have F4 := Lib.hid (F3.out.grown HG4.out HNE.out)
    have hsz : w.heap.size ≤ w4.heap.size := Nat.le_of_lt F4.out.lt
    go_upto_region 6 with (fail)
    obtain ⟨w5, hw5⟩ : ∃ z9 : World, z9 = w4.alloc (Obj.cells #[.int .i64 v.h.kind, .int .i64 v.h.n, .int .i64 v.h.d, .string v.h.name, .int .i64 v.h.k, .slice v.A v.len v.cap] 29) := ⟨_, rfl⟩
    have HB5 := Lib.hid (show Below w4.heap.size w4 w5 by rw [hw5]; exact below_box _ _)
    have E5 := Lib.hid (show Blk w5 w4.heap.size 29 #[.int .i64 v.h.kind, .int .i64 v.h.n, .int .i64 v.h.d, .string v.h.name, .int .i64 v.h.k, .slice v.A v.len v.cap] by rw [hw5]; exact Blk.new _ _ _)
    rw [← hw5]
    clear hw5
    have HV5 := Lib.hid (HV4.out.belowW HB5.out)
    have HG5 := Lib.hid (grown_tr HG3.out (grown_tr HG4.out (grown_of (some g) HB5.out)))
    have F5 := Lib.hid (F4.out.belowW HB5.out)
    have HX5 := Lib.hid (HX4.out.belowW HB5.out)
    have heg : w4.heap.size ≠ g := Nat.ne_of_gt HV4.out.gl
    have her : w.heap.size ≠ w4.heap.size := Nat.ne_of_lt F4.out.lt
    have P5 := Lib.hid (show Blk w5 g 140 #[.slice A len cap, .int .i64 (k1 : Nat), .int .i64 ((m : Int) + 1)] from HV5.out.p)
    obtain ⟨p0, f0, p1, f1, p2, f2⟩ := P5.out.all3
    go_upto_region 7 with (fail)
    rw [P5.out.setCell_eq]
    have HV6 := Lib.hid (HV5.out.put k1 m HV5.out.kk)
    have E6 := Lib.hid (E5.out.far (t' := 140) heg #[.slice A len cap, .int .i64 (k1 : Nat), .int .i64 (m : Nat)])
    have F6 := Lib.hid (F5.out.far (t' := 140) hwr #[.slice A len cap, .int .i64 (k1 : Nat), .int .i64 (m : Nat)])
    have HM6 := Lib.hid (putB_grown w5 g 140 #[.slice A len cap, .int .i64 (k1 : Nat), .int .i64 (m : Nat)])
    clear p0 f0 p1 f1 p2 f2
    obtain ⟨w6, hw6⟩ : ∃ z9 : World, z9 = putB w5 g 140 #[.slice A len cap, .int .i64 (k1 : Nat), .int .i64 (m : Nat)] := ⟨_, rfl⟩
    have hw6' : putB w5 g 140 ((#[.slice A len cap, .int .i64 (k1 : Nat), .int .i64 ((m : Int) + 1)] : Array Value).setIfInBounds 2 (.int .i64 (m : Nat))) = w6 := by rw [hw6]; rfl
    rw [← hw6] at HV6 E6 F6 HM6
    rw [hw6']
    clear hw6 hw6'
    have HG6 := Lib.hid (grown_tr HG5.out HM6.out)
    have HX6 := Lib.hid (HX5.out.mv HV3.out.gl HM6.out)
    obtain ⟨a0, b0, a1, b1, a2, b2, a3, b3, a4, b4, a5, b5⟩ := E6.out.all6
    obtain ⟨r0, h0, r1, h1, r2, h2, r3, h3, r4, h4, r5, h5⟩ := F6.out.all6
    go_wp2_with fail
    rw [pst6 F6.out]
    have FZ := Lib.hid (F6.out.put #[.int .i64 v.h.kind, .int .i64 v.h.n, .int .i64 v.h.d, .string v.h.name, .int .i64 v.h.k, .slice v.A v.len v.cap])
    obtain ⟨z0, _, z1, _, z2, _, z3, _, z4, _, z5, _⟩ := FZ.out.all6
    refine bodyPost_ret (v := .agg #[.int .i64 v.h.kind, .int .i64 v.h.n, .int .i64 v.h.d, .string v.h.name, .int .i64 v.h.k, .slice v.A v.len v.cap]) (by simp [results, Tryz.results157, go_sem, z0, z1, z2, z3, z4, z5]) rfl ?_
    rw [HE.out]
    exact ⟨v, rfl, Lib.hid ((HX6.out.far F3.out.lt _ _).weaken (Nat.le_of_lt F3.out.lt)), Lib.hid (grown_new HG6.out (Nat.le_refl _) _ _), Lib.hid (HV6.out.far hwr hlr _ _)⟩

set_option maxHeartbeats 4000000 in
set_option maxRecDepth 100000 in
theorem deeper_sum {w0 w : World} {g : Nat} {A : Option Addr} {len cap : Nat} {ts : List Tok} {k m : Nat} (h : Env w0 g A len cap ts k m w) (hk : k ≤ 120000) (hm : m ≤ 100) (r : PR TE) (hr : r ≠ .out)
    (KF : m ≠ 100 → ∀ w', Env w0 g A len cap ts (k + 1) (m + 1) w' → Calls Tryz.prog 48 #[.pointer (some ⟨g, 0, none⟩)] w' (ExR w0 g A len cap ts (m + 1) r w')) :
    Calls Tryz.prog 157 #[.pointer (some ⟨g, 0, none⟩), .func (.func 48) #[.pointer (some ⟨g, 0, none⟩)] #[]] w (ExR w0 g A len cap ts m (if m = 100 then failP ts k 5 else r) w) := by
  have HKF := Lib.hid KF
  have HHH := Lib.hid h
  obtain ⟨RR, hRR⟩ : ∃ RR, RR = (if m = 100 then failP ts k 5 else r) := ⟨_, rfl⟩
  have HRR := Lib.hid hRR
  rw [← hRR]
  clear KF hRR
  go_enter Tryz.func157, Tryz.ntmps157
  go_upto_region 1 with (fail)
  obtain ⟨w1, hw1⟩ : ∃ z9 : World, z9 = w.alloc (Obj.cells #[.int .i64 0, .int .i64 0, .int .i64 0, .string ⟨#[]⟩, .int .i64 0, .slice none 0 0] 29) := ⟨_, rfl⟩
  have O1 := Lib.hid (show Below w.heap.size w w1 by rw [hw1]; exact below_box _ _)
  have F1 := Lib.hid (show Blk w1 w.heap.size 29 #[.int .i64 0, .int .i64 0, .int .i64 0, .string ⟨#[]⟩, .int .i64 0, .slice none 0 0] by rw [hw1]; exact Blk.new _ _ _)
  rw [← hw1]
  clear hw1
  have HNE := Lib.hid (show some w.heap.size ≠ some g from fun e => by have := h.gl; injection e with e; omega)
  have hwr : w.heap.size ≠ g := fun e => HNE.out (by rw [e])
  have hlr : w0.heap.size ≤ w.heap.size := h.b.size
  have HV1 := Lib.hid (h.belowW O1.out)
  have HG1 := Lib.hid (grown_of (some g) O1.out)
  clear h
  have HP := Lib.hid (show Blk w1 g 140 #[.slice A len cap, .int .i64 (k : Nat), .int .i64 (m : Nat)] from HV1.out.p)
  by_cases hmm : m = 100
  · have HE := Lib.hid (show RR = failP ts k 5 from HRR.out.trans (if_pos hmm))
    have d1 : ((m : Int) == 100) = true := by rw [hmm]; rfl
    have p2 : w1.cell? ⟨g, 2, none⟩ = some (.int .i64 (m : Nat)) := HP.out.cell 2
    clear hmm
    go_wp2_with fail
    refine (HV1.out.fail 5).mono ?_
    rintro e w2 ⟨rfl, HB⟩
    go_wp2_with fail
    rw [HE.out]
    exact ⟨rfl, exr_fail (Lib.hid (grown_tr HG1.out (grown_of _ HB.out)))⟩
  have HE := Lib.hid (show RR = r from HRR.out.trans (if_neg hmm))
  have d1 : ((m : Int) == 100) = false := by rw [beq_eq_false_iff_ne]; omega
  have HKF := Lib.hid (HKF.out hmm)
  clear hmm HRR
  have e1 : IntKind.i64.wrap ((k : Int) + 1) = (k : Int) + 1 := by rw [IntKind.wrap_i64]; omega
  have e2 : IntKind.i64.wrap ((m : Int) + 1) = (m : Int) + 1 := by rw [IntKind.wrap_i64]; omega
  have e3 : IntKind.i64.wrap ((m : Int) + 1 - 1) = (m : Int) := by rw [IntKind.wrap_i64]; omega
  obtain ⟨p0, f0, p1, f1, p2, f2⟩ := HP.out.all3
  go_upto_region 4 with (fail)
  rw [HP.out.setCell_eq]
  have P2 := Lib.hid (show Blk (putB w1 g 140 ((#[.slice A len cap, .int .i64 (k : Nat), .int .i64 (m : Nat)] : Array Value).setIfInBounds 1 (.int .i64 ((k : Int) + 1)))) g 140 #[.slice A len cap, .int .i64 ((k : Int) + 1), .int .i64 (m : Nat)] from HP.out.put _)
  have HG2 := Lib.hid (grown_tr HG1.out (putB_grown w1 g 140 ((#[.slice A len cap, .int .i64 (k : Nat), .int .i64 (m : Nat)] : Array Value).setIfInBounds 1 (.int .i64 ((k : Int) + 1)))))
  have F2 := Lib.hid (F1.out.far (t' := 140) hwr ((#[.slice A len cap, .int .i64 (k : Nat), .int .i64 (m : Nat)] : Array Value).setIfInBounds 1 (.int .i64 ((k : Int) + 1))))
  clear p0 f0 p1 f1 p2 f2
  obtain ⟨w2, hw2⟩ : ∃ z9 : World, z9 = putB w1 g 140 ((#[.slice A len cap, .int .i64 (k : Nat), .int .i64 (m : Nat)] : Array Value).setIfInBounds 1 (.int .i64 ((k : Int) + 1))) := ⟨_, rfl⟩
  rw [← hw2] at P2 HG2 F2 ⊢
  clear hw2
  obtain ⟨p0, f0, p1, f1, p2, f2⟩ := P2.out.all3
  go_upto_region 5 with (fail)
  rw [P2.out.setCell_eq]
  have P3 := Lib.hid (show Blk (putB w2 g 140 ((#[.slice A len cap, .int .i64 ((k : Int) + 1), .int .i64 (m : Nat)] : Array Value).setIfInBounds 2 (.int .i64 ((m : Int) + 1)))) g 140 #[.slice A len cap, .int .i64 ((k : Int) + 1), .int .i64 ((m : Int) + 1)] from P2.out.put _)
  have HG3 := Lib.hid (grown_tr HG2.out (putB_grown w2 g 140 ((#[.slice A len cap, .int .i64 ((k : Int) + 1), .int .i64 (m : Nat)] : Array Value).setIfInBounds 2 (.int .i64 ((m : Int) + 1)))))
  have F3 := Lib.hid (F2.out.far (t' := 140) hwr ((#[.slice A len cap, .int .i64 ((k : Int) + 1), .int .i64 (m : Nat)] : Array Value).setIfInBounds 2 (.int .i64 ((m : Int) + 1))))
  clear p0 f0 p1 f1 p2 f2
  obtain ⟨w3, hw3⟩ : ∃ z9 : World, z9 = putB w2 g 140 ((#[.slice A len cap, .int .i64 ((k : Int) + 1), .int .i64 (m : Nat)] : Array Value).setIfInBounds 2 (.int .i64 ((m : Int) + 1))) := ⟨_, rfl⟩
  rw [← hw3] at P3 HG3 F3 ⊢
  clear hw3
  have HV3 := Lib.hid (show Env w0 g A len cap ts (k + 1) (m + 1) w3 from HHH.out.moved HG3.out P3.out (by omega))
  have KC := Lib.hid (HKF.out w3 HV3.out)
  cases r with
  | out => exact (hr rfl).elim
  | bad ln co er =>
    go_wp2_with fail
    refine KC.out.mono ?_
    rintro e w4 ⟨rfl, HG4⟩
    go_wp2_with fail
    rw [HE.out]
    exact ⟨rfl, exr_bad (Lib.hid (grown_tr HG3.out HG4.out))⟩
  | ok T k1 =>
    go_wp2_with fail
    refine KC.out.mono ?_
    rintro e w4 ⟨v, rfl, HX4, HG4, HV4⟩
    have F4 := Lib.hid (F3.out.grown HG4.out HNE.out)
    have hsz : w.heap.size ≤ w4.heap.size := Nat.le_of_lt F4.out.lt
    go_upto_region 6 with (fail)
    obtain ⟨w5, hw5⟩ : ∃ z9 : World, z9 = w4.alloc (Obj.cells #[.int .i64 v.h.kind, .int .i64 v.h.n, .int .i64 v.h.d, .string v.h.name, .int .i64 v.h.k, .slice v.A v.len v.cap] 29) := ⟨_, rfl⟩
    have HB5 := Lib.hid (show Below w4.heap.size w4 w5 by rw [hw5]; exact below_box _ _)
    have E5 := Lib.hid (show Blk w5 w4.heap.size 29 #[.int .i64 v.h.kind, .int .i64 v.h.n, .int .i64 v.h.d, .string v.h.name, .int .i64 v.h.k, .slice v.A v.len v.cap] by rw [hw5]; exact Blk.new _ _ _)
    rw [← hw5]
    clear hw5
    have HV5 := Lib.hid (HV4.out.belowW HB5.out)
    have HG5 := Lib.hid (grown_tr HG3.out (grown_tr HG4.out (grown_of (some g) HB5.out)))
    have F5 := Lib.hid (F4.out.belowW HB5.out)
    have HX5 := Lib.hid (HX4.out.belowW HB5.out)
    have heg : w4.heap.size ≠ g := Nat.ne_of_gt HV4.out.gl
    have her : w.heap.size ≠ w4.heap.size := Nat.ne_of_lt F4.out.lt
    have P5 := Lib.hid (show Blk w5 g 140 #[.slice A len cap, .int .i64 (k1 : Nat), .int .i64 ((m : Int) + 1)] from HV5.out.p)
    obtain ⟨p0, f0, p1, f1, p2, f2⟩ := P5.out.all3
    go_upto_region 7 with (fail)
    rw [P5.out.setCell_eq]
    have HV6 := Lib.hid (HV5.out.put k1 m HV5.out.kk)
    have E6 := Lib.hid (E5.out.far (t' := 140) heg #[.slice A len cap, .int .i64 (k1 : Nat), .int .i64 (m : Nat)])
    have F6 := Lib.hid (F5.out.far (t' := 140) hwr #[.slice A len cap, .int .i64 (k1 : Nat), .int .i64 (m : Nat)])
    have HM6 := Lib.hid (putB_grown w5 g 140 #[.slice A len cap, .int .i64 (k1 : Nat), .int .i64 (m : Nat)])
    clear p0 f0 p1 f1 p2 f2
    obtain ⟨w6, hw6⟩ : ∃ z9 : World, z9 = putB w5 g 140 #[.slice A len cap, .int .i64 (k1 : Nat), .int .i64 (m : Nat)] := ⟨_, rfl⟩
    have hw6' : putB w5 g 140 ((#[.slice A len cap, .int .i64 (k1 : Nat), .int .i64 ((m : Int) + 1)] : Array Value).setIfInBounds 2 (.int .i64 (m : Nat))) = w6 := by rw [hw6]; rfl
    rw [← hw6] at HV6 E6 F6 HM6
    rw [hw6']
    clear hw6 hw6'
    have HG6 := Lib.hid (grown_tr HG5.out HM6.out)
    have HX6 := Lib.hid (HX5.out.mv HV3.out.gl HM6.out)
    obtain ⟨a0, b0, a1, b1, a2, b2, a3, b3, a4, b4, a5, b5⟩ := E6.out.all6
    obtain ⟨r0, h0, r1, h1, r2, h2, r3, h3, r4, h4, r5, h5⟩ := F6.out.all6
    go_wp2_with fail
    rw [pst6 F6.out]
    have FZ := Lib.hid (F6.out.put #[.int .i64 v.h.kind, .int .i64 v.h.n, .int .i64 v.h.d, .string v.h.name, .int .i64 v.h.k, .slice v.A v.len v.cap])
    obtain ⟨z0, _, z1, _, z2, _, z3, _, z4, _, z5, _⟩ := FZ.out.all6
    refine bodyPost_ret (v := .agg #[.int .i64 v.h.kind, .int .i64 v.h.n, .int .i64 v.h.d, .string v.h.name, .int .i64 v.h.k, .slice v.A v.len v.cap]) (by simp [results, Tryz.results157, go_sem, z0, z1, z2, z3, z4, z5]) rfl ?_
    rw [HE.out]
    exact ⟨v, rfl, Lib.hid ((HX6.out.far F3.out.lt _ _).weaken (Nat.le_of_lt F3.out.lt)), Lib.hid (grown_new HG6.out (Nat.le_refl _) _ _), Lib.hid (HV6.out.far hwr hlr _ _)⟩
end Go.Proofs.YtkjoohnndobjeaaGreatDoor
namespace Go.Proofs.YtkjoohnndobjeaaGreatDoor
open Go.RowKit Go.Fl Go.Fl.Lx Go.Fl.Nm Go.Fl.Fm Go.Fl.Rt Go.Fl.Pa
/-- What a sum in parentheses comes to, with what the sum comes to. -/
def encR (ts : List Tok) (k m : Nat) (r : PR TE) : PR TE :=
  if isS false ts k [40] then
    if m = 100 then failP ts k 5
    else
      match r with
      | .ok e k1 => if isS false ts k1 [41] then .ok e (k1 + 1) else unex ts k1
      | r => r
  else unex ts k
theorem encP_eq (nm : List UInt8 → Bool) (ts : List Tok) (f k m : Nat) : encP nm ts (f + 1) k m = encR ts k m (sumP nm ts f (k + 1) (m + 1)) := by
  rw [encP.eq_def]
  rfl

set_option maxHeartbeats 4000000 in
set_option maxRecDepth 100000 in
theorem pEnclosed {w0 w : World} {g : Nat} {A : Option Addr} {len cap : Nat} {ts : List Tok} {k m : Nat} (h : Env w0 g A len cap ts k m w) (hk : k ≤ 110000) (hm : m ≤ 100) (r : PR TE) (hr : isS false ts k [40] = true → r ≠ .out) (hrk : ∀ T k1, r = .ok T k1 → k1 ≤ 110000)
    (KF : isS false ts k [40] = true → m ≠ 100 → ∀ w', Env w0 g A len cap ts (k + 1) (m + 1) w' → Calls Tryz.prog 48 #[.pointer (some ⟨g, 0, none⟩)] w' (ExR w0 g A len cap ts (m + 1) r w')) :
    Calls Tryz.prog 176 #[.pointer (some ⟨g, 0, none⟩)] w (ExR w0 g A len cap ts m (encR ts k m r) w) := by
  obtain ⟨RR, hRR⟩ : ∃ RR, RR = encR ts k m r := ⟨_, rfl⟩
  have HRR := Lib.hid hRR
  have HKF := Lib.hid KF
  have HRK := Lib.hid hrk
  rw [← hRR]
  clear KF hRR hrk
  go_enter Tryz.func176, Tryz.ntmps176
  go_upto_region 1 with (fail)
  obtain ⟨w1, hw1⟩ : ∃ z9 : World, z9 = w.alloc (Obj.cells #[.int .i64 0, .int .i64 0, .int .i64 0, .string ⟨#[]⟩, .int .i64 0, .slice none 0 0] 29) := ⟨_, rfl⟩
  have O1 := Lib.hid (show Below w.heap.size w w1 by rw [hw1]; exact below_box _ _)
  have F1 := Lib.hid (show Blk w1 w.heap.size 29 #[.int .i64 0, .int .i64 0, .int .i64 0, .string ⟨#[]⟩, .int .i64 0, .slice none 0 0] by rw [hw1]; exact Blk.new _ _ _)
  rw [← hw1]
  clear hw1
  have HNE := Lib.hid (show some w.heap.size ≠ some g from fun e => by have := h.gl; injection e with e; omega)
  have hwr : w.heap.size ≠ g := fun e => HNE.out (by rw [e])
  have hlr : w0.heap.size ≤ w.heap.size := h.b.size
  have hgl : g < w.heap.size := h.gl
  have HV1 := Lib.hid (h.belowW O1.out)
  have HG1 := Lib.hid (grown_of (some g) O1.out)
  have hr1 : w.heap.size < w1.heap.size := F1.out.lt
  clear h
  have KI := Lib.hid (pIs HV1.out 0 (by omega) ⟨#[40]⟩)
  rw [Nat.add_zero, show kwP (⟨#[40]⟩ : ByteArray).data.toList = false by decide, show (⟨#[40]⟩ : ByteArray).data.toList = [40] from rfl] at KI
  cases hb : isS false ts k [40] with
  | false =>
    have HE := Lib.hid (show RR = unex ts k by rw [HRR.out]; unfold encR; rw [hb]; rfl)
    rw [hb] at KI
    clear hb HRR
    go_wp2_with fail
    refine KI.out.mono ?_
    rintro e w2 ⟨rfl, HB⟩
    go_wp2_with fail
    refine ((HV1.out.belowW HB.out).unx).mono ?_
    rintro e w3 ⟨he, HB3⟩
    obtain ⟨c, hc⟩ := panU_pan ts k
    have HC := Lib.hid hc
    rw [hc] at he
    subst he
    clear hc
    go_wp2_with fail
    rw [HE.out]
    exact ⟨rfl, exr_unex HC.out.symm (Lib.hid (grown_tr HG1.out (grown_tr (grown_of _ HB.out) (grown_of _ HB3.out))))⟩
  | true =>
    have hr := hr hb
    have HKF := Lib.hid (HKF.out hb)
    rw [hb] at KI
    have HE := Lib.hid (show RR = (if m = 100 then failP ts k 5 else match r with
      | .ok e k1 => if isS false ts k1 [41] then .ok e (k1 + 1) else unex ts k1
      | r => r) by rw [HRR.out]; unfold encR; rw [hb]; rfl)
    clear hb HRR
    have KD := Lib.hid (fun (w2 : World) (hb : Below w1.heap.size w1 w2) => deeper_sum (HV1.out.belowW hb) (by omega) hm r hr HKF.out)
    obtain ⟨r2, hr2⟩ : ∃ r2, r2 = (if m = 100 then failP ts k 5 else r) := ⟨_, rfl⟩
    rw [← hr2] at KD
    have HR2 := Lib.hid hr2
    clear hr2
    cases r2 with
    | out =>
      exfalso
      have h9 := HR2.out
      split at h9
      · exact fail_out h9.symm
      · exact hr h9.symm
    | bad ln co er =>
      have HE2 := Lib.hid (show RR = .bad ln co er by
        have h9 := HR2.out
        rw [HE.out]
        split at h9
        · rename_i h8
          rw [if_pos h8, h9]
        · rename_i h8
          rw [if_neg h8, ← h9])
      clear HE HR2
      go_wp2_with fail
      refine KI.out.mono ?_
      rintro e w2 ⟨rfl, HB⟩
      go_wp2_with fail
      refine (KD.out w2 HB.out).mono ?_
      rintro e w3 ⟨rfl, HG3⟩
      go_wp2_with fail
      rw [HE2.out]
      exact ⟨rfl, exr_bad (Lib.hid (grown_tr HG1.out (grown_tr (grown_of _ HB.out) HG3.out)))⟩
    | ok T k1 =>
      have hk1 : k1 ≤ 110000 := by
        have h9 := HR2.out
        split at h9
        · exact (fail_ok h9.symm).elim
        · exact HRK.out T k1 h9.symm
      have HE2 := Lib.hid (show RR = (if isS false ts k1 [41] then .ok T (k1 + 1) else unex ts k1) by
        have h9 := HR2.out
        rw [HE.out]
        split at h9
        · exact (fail_ok h9.symm).elim
        · rename_i h8
          rw [if_neg h8, ← h9])
      clear HE HR2
      go_wp2_with fail
      refine KI.out.mono ?_
      rintro e w2 ⟨rfl, HB⟩
      have F2 := Lib.hid (F1.out.belowW HB.out)
      have hs2 := HB.out.size
      go_wp2_with fail
      refine (KD.out w2 HB.out).mono ?_
      rintro e w3 ⟨v, rfl, HX3, HG3, HV3⟩
      have F3 := Lib.hid (F2.out.grown HG3.out HNE.out)
      go_upto_region 4 with (fail)
      obtain ⟨w4, hw4⟩ : ∃ z9 : World, z9 = w3.alloc (Obj.cells #[.int .i64 v.h.kind, .int .i64 v.h.n, .int .i64 v.h.d, .string v.h.name, .int .i64 v.h.k, .slice v.A v.len v.cap] 29) := ⟨_, rfl⟩
      have HB4 := Lib.hid (show Below w3.heap.size w3 w4 by rw [hw4]; exact below_box _ _)
      have E4 := Lib.hid (show Blk w4 w3.heap.size 29 #[.int .i64 v.h.kind, .int .i64 v.h.n, .int .i64 v.h.d, .string v.h.name, .int .i64 v.h.k, .slice v.A v.len v.cap] by rw [hw4]; exact Blk.new _ _ _)
      rw [← hw4]
      clear hw4
      have HV4 := Lib.hid (HV3.out.belowW HB4.out)
      have F4 := Lib.hid (F3.out.belowW HB4.out)
      have HX4 := Lib.hid (HX3.out.belowW HB4.out)
      have HG4 := Lib.hid (grown_tr HG1.out (grown_tr (grown_of _ HB.out) (grown_tr HG3.out (grown_of (some g) HB4.out))))
      have heg : w3.heap.size ≠ g := Nat.ne_of_gt HV3.out.gl
      have HNE4 := Lib.hid (show some w3.heap.size ≠ some g from fun e => heg (Option.some.inj e))
      have hx2 : w.heap.size < w2.heap.size := Nat.lt_of_lt_of_le hr1 hs2
      have hg2 : g < w2.heap.size := Nat.lt_trans hgl hx2
      cases hc : isS false ts k1 [41] with
      | false =>
        have HE3 := Lib.hid (show RR = unex ts k1 by rw [HE2.out, hc]; rfl)
        have KW := Lib.hid (pWantN HV4.out (by omega) ⟨#[41]⟩ (by rw [show kwP (⟨#[41]⟩ : ByteArray).data.toList = false by decide]; exact hc))
        clear hc HE2
        go_wp2_with fail
        refine KW.out.mono ?_
        rintro e w5 ⟨he, HG5⟩
        obtain ⟨c, hc⟩ := panU_pan ts k1
        have HC := Lib.hid hc
        rw [hc] at he
        subst he
        clear hc
        go_wp2_with fail
        rw [HE3.out]
        exact ⟨rfl, exr_unex HC.out.symm (Lib.hid (grown_tr HG4.out HG5.out))⟩
      | true =>
        have HE3 := Lib.hid (show RR = .ok T (k1 + 1) by rw [HE2.out, hc]; rfl)
        have KW := Lib.hid (pWantY HV4.out (by omega) ⟨#[41]⟩ (by rw [show kwP (⟨#[41]⟩ : ByteArray).data.toList = false by decide]; exact hc))
        clear hc HE2
        go_wp2_with fail
        refine KW.out.mono ?_
        rintro e w5 ⟨rfl, HG5, HV5⟩
        have F5 := Lib.hid (F4.out.grown HG5.out HNE.out)
        have E5 := Lib.hid (E4.out.grown HG5.out HNE4.out)
        have HX5 := Lib.hid (HX4.out.mv hg2 HG5.out)
        have HG6 := Lib.hid (grown_tr HG4.out HG5.out)
        obtain ⟨a0, b0, a1, b1, a2, b2, a3, b3, a4, b4, a5, b5⟩ := E5.out.all6
        obtain ⟨r0, h0, r1, h1, r2, h2, r3, h3, r4, h4, r5, h5⟩ := F5.out.all6
        go_wp2_with fail
        rw [pst6 F5.out]
        have FZ := Lib.hid (F5.out.put #[.int .i64 v.h.kind, .int .i64 v.h.n, .int .i64 v.h.d, .string v.h.name, .int .i64 v.h.k, .slice v.A v.len v.cap])
        obtain ⟨z0, _, z1, _, z2, _, z3, _, z4, _, z5, _⟩ := FZ.out.all6
        refine bodyPost_ret (v := .agg #[.int .i64 v.h.kind, .int .i64 v.h.n, .int .i64 v.h.d, .string v.h.name, .int .i64 v.h.k, .slice v.A v.len v.cap]) (by simp [results, Tryz.results176, go_sem, z0, z1, z2, z3, z4, z5]) rfl ?_
        rw [HE3.out]
        exact ⟨v, rfl, Lib.hid ((HX5.out.far hx2 _ _).weaken (Nat.le_of_lt hx2)), Lib.hid (grown_new HG6.out (Nat.le_refl _) _ _), Lib.hid (HV5.out.far hwr hlr _ _)⟩
end Go.Proofs.YtkjoohnndobjeaaGreatDoor
namespace Go.Proofs.YtkjoohnndobjeaaGreatDoor
open Go.RowKit Go.Fl Go.Fl.Lx Go.Fl.Nm Go.Fl.Fm Go.Fl.Rt Go.Fl.Pa
theorem quotP_small {ts : List Tok} {k k1 : Nat} {a : Int × Int} (h : quotP ts k = .ok a k1) : -4611686018427387904 ≤ a.1 ∧ a.1 ≤ 4611686018427387904 ∧ -4611686018427387904 ≤ a.2 ∧ a.2 ≤ 4611686018427387904 := by
  unfold quotP at h
  cases hn : numP ts k with
  | ok b k2 =>
    rw [hn] at h
    simp only [PR.bind] at h
    split at h
    · exact (unex_ok h).elim
    · split at h
      · exact (fail_ok h).elim
      · split at h
        · exact (fail_ok h).elim
        · have hm := make_small b.1 (read1 (tk ts (k2 + 1)).text).1
          injection h with h1 h2
          rw [← h1]
          exact ⟨hm.1, hm.2.1, hm.2.2.1, hm.2.2.2.1⟩
  | bad l c e => rw [hn] at h; cases h
  | out => rw [hn] at h; cases h
theorem numP_small2 {ts : List Tok} {k k1 : Nat} {a : Int × Int} (h : numP ts k = .ok a k1) : -4611686018427387904 ≤ a.1 ∧ a.1 ≤ 4611686018427387904 ∧ -4611686018427387904 ≤ a.2 ∧ a.2 ≤ 4611686018427387904 := by
  have h0 := numP_small h
  unfold numP at h
  split at h
  · exact (unex_ok h).elim
  · split at h
    · exact (fail_ok h).elim
    · have hs := read1_small (tk ts (k + signP ts k)).text
      injection h with h1 h2
      rw [← h1] at h0 ⊢
      exact ⟨h0.1, h0.2, hs.2.2.1, hs.2.2.2.1⟩
theorem hd_num {a : Int × Int} (h : -4611686018427387904 ≤ a.1 ∧ a.1 ≤ 4611686018427387904 ∧ -4611686018427387904 ≤ a.2 ∧ a.2 ≤ 4611686018427387904) : HdOk ⟨1, a.1, a.2, ⟨#[]⟩, 0⟩ := by
  refine ⟨?_, ?_, ?_, ?_, ?_, ?_, ?_, ?_, Nat.zero_le _⟩ <;> simp only <;> omega
/-- What the beginning of a term comes to, with what a factor comes to. -/
def firstR (ts : List Tok) (k : Nat) (r : PR TE) : PR TE := if fracP ts k && !isS false ts (k + signP ts k + 3) [94] then (quotP ts k).map numE else r
theorem firstP_eq (nm : List UInt8 → Bool) (ts : List Tok) (f k m : Nat) : firstP nm ts (f + 1) k m = firstR ts k (factorP nm ts f k m) := by
  rw [firstP.eq_def]
  rfl

set_option maxHeartbeats 4000000 in
set_option maxRecDepth 100000 in
theorem pFirst {w0 w : World} {g : Nat} {A : Option Addr} {len cap : Nat} {ts : List Tok} {k m : Nat} (h : Env w0 g A len cap ts k m w) (hk : k ≤ 110000) (hR : RX w0) (r : PR TE) (hr : r ≠ .out)
    (KF : ∀ w', Env w0 g A len cap ts k m w' → Calls Tryz.prog 126 #[.pointer (some ⟨g, 0, none⟩)] w' (ExR w0 g A len cap ts m r w')) :
    Calls Tryz.prog 125 #[.pointer (some ⟨g, 0, none⟩)] w (ExR w0 g A len cap ts m (firstR ts k r) w) := by
  obtain ⟨RR, hRR⟩ : ∃ RR, RR = firstR ts k r := ⟨_, rfl⟩
  have HRR := Lib.hid hRR
  have HKF := Lib.hid KF
  rw [← hRR]
  clear KF hRR
  go_enter Tryz.func125, Tryz.ntmps125
  go_upto_region 1 with (fail)
  obtain ⟨w1, hw1⟩ : ∃ z9 : World, z9 = w.alloc (Obj.cells #[.int .i64 0, .int .i64 0, .int .i64 0, .string ⟨#[]⟩, .int .i64 0, .slice none 0 0] 29) := ⟨_, rfl⟩
  have O1 := Lib.hid (show Below w.heap.size w w1 by rw [hw1]; exact below_box _ _)
  have F1 := Lib.hid (show Blk w1 w.heap.size 29 #[.int .i64 0, .int .i64 0, .int .i64 0, .string ⟨#[]⟩, .int .i64 0, .slice none 0 0] by rw [hw1]; exact Blk.new _ _ _)
  rw [← hw1]
  clear hw1
  have HNE := Lib.hid (show some w.heap.size ≠ some g from fun e => by have := h.gl; injection e with e; omega)
  have hwr : w.heap.size ≠ g := fun e => HNE.out (by rw [e])
  have hlr : w0.heap.size ≤ w.heap.size := h.b.size
  have hgl : g < w.heap.size := h.gl
  have HV1 := Lib.hid (h.belowW O1.out)
  have HG1 := Lib.hid (grown_of (some g) O1.out)
  have hr1 : w.heap.size < w1.heap.size := F1.out.lt
  clear h
  have KI := Lib.hid (pFraction HV1.out (by omega))
  cases hb : fracP ts k with
  | false =>
    have HE := Lib.hid (show RR = r by rw [HRR.out]; unfold firstR; rw [hb]; rfl)
    rw [hb] at KI
    clear hb HRR
    go_wp2_with fail
    refine KI.out.mono ?_
    rintro e w2 ⟨rfl, HB⟩
    have HV2 := Lib.hid (HV1.out.belowW HB.out)
    have F2 := Lib.hid (F1.out.belowW HB.out)
    have HG2 := Lib.hid (grown_tr HG1.out (grown_of (some g) HB.out))
    have KC := Lib.hid (HKF.out w2 HV2.out)
    have hgw : g < w2.heap.size := HV2.out.gl
    have hrw : w.heap.size < w2.heap.size := F2.out.lt
    cases r with
    | out => exact (hr rfl).elim
    | bad ln co er =>
      go_wp2_with fail
      refine KC.out.mono ?_
      rintro e w7 ⟨rfl, HG7⟩
      go_wp2_with fail
      rw [HE.out]
      exact ⟨rfl, exr_bad (Lib.hid (grown_tr HG2.out HG7.out))⟩
    | ok T k1 =>
      go_wp2_with fail
      refine KC.out.mono ?_
      rintro e w7 ⟨v, rfl, HX7, HG7, HV7⟩
      have F7 := Lib.hid (F2.out.grown HG7.out HNE.out)
      obtain ⟨r0, h0, r1, h1, r2, h2, r3, h3, r4, h4, r5, h5⟩ := F7.out.all6
      go_wp2_with fail
      rw [pst6 F7.out]
      have FZ := Lib.hid (F7.out.put #[.int .i64 v.h.kind, .int .i64 v.h.n, .int .i64 v.h.d, .string v.h.name, .int .i64 v.h.k, .slice v.A v.len v.cap])
      obtain ⟨z0, _, z1, _, z2, _, z3, _, z4, _, z5, _⟩ := FZ.out.all6
      refine bodyPost_ret (v := .agg #[.int .i64 v.h.kind, .int .i64 v.h.n, .int .i64 v.h.d, .string v.h.name, .int .i64 v.h.k, .slice v.A v.len v.cap]) (by simp [results, Tryz.results125, go_sem, z0, z1, z2, z3, z4, z5]) rfl ?_
      rw [HE.out]
      exact ⟨v, rfl, Lib.hid ((HX7.out.far hrw _ _).weaken (Nat.le_of_lt hrw)), Lib.hid (grown_new (grown_tr HG2.out HG7.out) (Nat.le_refl _) _ _), Lib.hid (HV7.out.far hwr hlr _ _)⟩
  | true =>
    rw [hb] at KI
    have hs := signP_le ts k
    obtain ⟨s, hss⟩ : ∃ s, s = signP ts k := ⟨_, rfl⟩
    have e1 : IntKind.i64.wrap ((s : Int) + 3) = (s : Int) + 3 := by rw [IntKind.wrap_i64]; omega
    obtain ⟨c, hc⟩ : ∃ c, isS false ts (k + (s + 3)) [94] = c := ⟨_, rfl⟩
    have HE0 := Lib.hid (show RR = if (!c) = true then (quotP ts k).map numE else r by
      rw [HRR.out]
      unfold firstR
      rw [hb, ← hss, Nat.add_assoc, hc]
      rfl)
    have KS := Lib.hid (fun (w2 : World) (hb : Below w1.heap.size w1 w2) => pSign (HV1.out.belowW hb))
    have KU := Lib.hid (fun (w2 : World) (hb : Below w1.heap.size w1 w2) => pIs (HV1.out.belowW hb) (s + 3) (by omega) ⟨#[94]⟩)
    rw [show kwP (⟨#[94]⟩ : ByteArray).data.toList = false by decide, show (⟨#[94]⟩ : ByteArray).data.toList = [94] from rfl, hc] at KU
    rw [← hss] at KS hs
    clear hb HRR hss hc
    go_wp2_with fail
    refine KI.out.mono ?_
    rintro e w2 ⟨rfl, HB2⟩
    go_wp2_with fail
    refine (KS.out w2 HB2.out).mono ?_
    rintro e w3 ⟨rfl, HB3⟩
    have HB13 := Lib.hid (HB2.out.trans (HB3.out.mono HB2.out.size))
    go_wp2_with fail
    refine (KU.out w3 HB13.out).mono ?_
    rintro e w4 ⟨rfl, HB4⟩
    have HB14 := Lib.hid (HB13.out.trans (HB4.out.mono HB13.out.size))
    have HV4 := Lib.hid (HV1.out.belowW HB14.out)
    have F4 := Lib.hid (F1.out.belowW HB14.out)
    have HG4 := Lib.hid (grown_tr HG1.out (grown_of (some g) HB14.out))
    cases c with
    | true =>
      have HE := Lib.hid (show RR = r by rw [HE0.out]; rfl)
      clear HE0
      have KC := Lib.hid (HKF.out w4 HV4.out)
      have hgw : g < w4.heap.size := HV4.out.gl
      have hrw : w.heap.size < w4.heap.size := F4.out.lt
      cases r with
      | out => exact (hr rfl).elim
      | bad ln co er =>
        go_wp2_with fail
        refine KC.out.mono ?_
        rintro e w7 ⟨rfl, HG7⟩
        go_wp2_with fail
        rw [HE.out]
        exact ⟨rfl, exr_bad (Lib.hid (grown_tr HG4.out HG7.out))⟩
      | ok T k1 =>
        go_wp2_with fail
        refine KC.out.mono ?_
        rintro e w7 ⟨v, rfl, HX7, HG7, HV7⟩
        have F7 := Lib.hid (F4.out.grown HG7.out HNE.out)
        obtain ⟨r0, h0, r1, h1, r2, h2, r3, h3, r4, h4, r5, h5⟩ := F7.out.all6
        go_wp2_with fail
        rw [pst6 F7.out]
        have FZ := Lib.hid (F7.out.put #[.int .i64 v.h.kind, .int .i64 v.h.n, .int .i64 v.h.d, .string v.h.name, .int .i64 v.h.k, .slice v.A v.len v.cap])
        obtain ⟨z0, _, z1, _, z2, _, z3, _, z4, _, z5, _⟩ := FZ.out.all6
        refine bodyPost_ret (v := .agg #[.int .i64 v.h.kind, .int .i64 v.h.n, .int .i64 v.h.d, .string v.h.name, .int .i64 v.h.k, .slice v.A v.len v.cap]) (by simp [results, Tryz.results125, go_sem, z0, z1, z2, z3, z4, z5]) rfl ?_
        rw [HE.out]
        exact ⟨v, rfl, Lib.hid ((HX7.out.far hrw _ _).weaken (Nat.le_of_lt hrw)), Lib.hid (grown_new (grown_tr HG4.out HG7.out) (Nat.le_refl _) _ _), Lib.hid (HV7.out.far hwr hlr _ _)⟩
    | false =>
      have HE1 := Lib.hid (show RR = (quotP ts k).map numE by rw [HE0.out]; rfl)
      clear HE0
      have KQ := Lib.hid (pQuotient HV4.out (by omega) hR)
      have hrw : w.heap.size < w4.heap.size := F4.out.lt
      cases hq : quotP ts k with
      | out => exact (quotP_out hq).elim
      | bad ln co er =>
        have HE := Lib.hid (show RR = .bad ln co er by rw [HE1.out, hq]; rfl)
        rw [hq] at KQ
        clear hq HE1
        go_wp2_with fail
        refine KQ.out.mono ?_
        rintro e w5 ⟨rfl, HG5⟩
        go_wp2_with fail
        rw [HE.out]
        exact ⟨rfl, exr_bad (Lib.hid (grown_tr HG4.out HG5.out))⟩
      | ok a k1 =>
        have HE := Lib.hid (show RR = .ok (numE a) k1 by rw [HE1.out, hq]; rfl)
        have hsm := hd_num (quotP_small hq)
        rw [hq] at KQ
        clear hq HE1
        obtain ⟨n, d⟩ := a
        go_wp2_with fail
        refine KQ.out.mono ?_
        rintro e w5 ⟨rfl, HG5, HV5⟩
        have F5 := Lib.hid (F4.out.grown HG5.out HNE.out)
        go_wp2_with fail
        refine (pNum (n, d) w5).mono ?_
        rintro e w6 ⟨rfl, HB6⟩
        have F6 := Lib.hid (F5.out.belowW HB6.out)
        have HV6 := Lib.hid (HV5.out.belowW HB6.out)
        have HG6 := Lib.hid (grown_tr HG4.out (grown_tr HG5.out (grown_of (some g) HB6.out)))
        simp only [ndR, Nd.val]
        obtain ⟨r0, h0, r1, h1, r2, h2, r3, h3, r4, h4, r5, h5⟩ := F6.out.all6
        go_wp2_with fail
        rw [pst6 F6.out]
        have FZ := Lib.hid (F6.out.put #[.int .i64 1, .int .i64 n, .int .i64 d, .string ⟨#[]⟩, .int .i64 0, .slice none 0 0])
        obtain ⟨z0, _, z1, _, z2, _, z3, _, z4, _, z5, _⟩ := FZ.out.all6
        refine bodyPost_ret (v := .agg #[.int .i64 1, .int .i64 n, .int .i64 d, .string ⟨#[]⟩, .int .i64 0, .slice none 0 0]) (by simp [results, Tryz.results125, go_sem, z0, z1, z2, z3, z4, z5]) rfl ?_
        rw [HE.out]
        exact ⟨ndR (n, d), rfl, Lib.hid (inx_leaf _ _ _ hsm), Lib.hid (grown_new HG6.out (Nat.le_refl _) _ _), Lib.hid (HV6.out.far hwr hlr _ _)⟩
end Go.Proofs.YtkjoohnndobjeaaGreatDoor
namespace Go.Proofs.YtkjoohnndobjeaaGreatDoor
open Go.RowKit Go.Fl Go.Fl.Lx Go.Fl.Nm Go.Fl.Fm Go.Fl.Rt Go.Fl.Pa
/-- The map of the functions' kinds, as it lies. -/
structure FxAt (w : World) (bm : Nat) (es : Array MapEntry) (clock : Nat) : Prop where
  cell : w.cell? ⟨1, 0, none⟩ = some (.map (some bm))
  gl : 1 < w.heap.size
  heap : w.heap[bm]? = some (.map es clock)
theorem FxAt.lt {w : World} {bm : Nat} {es : Array MapEntry} {clock : Nat} (h : FxAt w bm es clock) : bm < w.heap.size := (Array.getElem?_eq_some_iff.1 h.heap).1
theorem FxAt.belowW {w w' : World} {bm : Nat} {es : Array MapEntry} {clock : Nat} (h : FxAt w bm es clock) (hb : Below w.heap.size w w') : FxAt w' bm es clock :=
  ⟨by have h1 := h.cell; unfold World.cell? at h1 ⊢; rw [hb.block _ h.gl]; exact h1, Nat.lt_of_lt_of_le h.gl hb.size, (hb.block _ h.lt).trans h.heap⟩
/-- What the map's entries answer. -/
def FxLook (bm : Nat) (es : Array MapEntry) (clock : Nat) : Prop := ∀ (w : World) (l : List UInt8), l.length ≤ 100 → w.heap[bm]? = some (.map es clock) →
  (Instr.lookup 142 (.map (some bm)) (.string ⟨l.toArray⟩) false).run Tryz.prog w = .ok (.int .i64 (funK l)) w
def FX (w : World) : Prop := ∃ bm es clock, FxAt w bm es clock ∧ FxLook bm es clock
/-- What a name comes to. -/
def nameR (ts : List Tok) (k : Nat) : PR (List UInt8) := if (tk ts k).kind = 1 ∧ nameP (tk ts k).text = true then .ok (tk ts k).text (k + 1) else unex ts k
/-- What a rule for names answers. -/
def StP (w0 : World) (g : Nat) (A : Option Addr) (len cap : Nat) (ts : List Tok) (m : Nat) (r : PR (List UInt8)) (w : World) (e : Ending) (w' : World) : Prop :=
  match r with
  | .ok s k1 => e = .returned (.string ⟨s.toArray⟩) ∧ Hid (w.grownBy w' (some g)) ∧ Hid (Env w0 g A len cap ts k1 m w')
  | .bad ln co er => e = pan ln co er ∧ Hid (w.grownBy w' (some g))
  | .out => False
theorem stp_unex {w0 : World} {g : Nat} {A : Option Addr} {len cap : Nat} {ts : List Tok} {m k : Nat} {w w' : World} {e : Ending} (he : e = panU ts k) (hg : Hid (w.grownBy w' (some g))) : StP w0 g A len cap ts m (unex ts k) w e w' := by
  unfold unex failP
  unfold panU at he
  split
  · rename_i h
    rw [if_pos h] at he
    exact ⟨he, hg⟩
  · rename_i h
    rw [if_neg h] at he
    exact ⟨he, hg⟩
theorem nameP_len {l : List UInt8} (h : nameP l = true) : l.length ≤ 20 := by
  unfold nameP at h
  rw [Bool.and_eq_true, Bool.and_eq_true] at h
  exact of_decide_eq_true h.1.2

set_option maxHeartbeats 4000000 in
set_option maxRecDepth 100000 in
theorem pName {w0 w : World} {g : Nat} {A : Option Addr} {len cap : Nat} {ts : List Tok} {k m : Nat} (h : Env w0 g A len cap ts k m w) (hk : k ≤ 110000) : Calls Tryz.prog 142 #[.pointer (some ⟨g, 0, none⟩)] w (StP w0 g A len cap ts m (nameR ts k) w) := by
  have HHV := Lib.hid h
  have KT := Lib.hid (h.tok 0 (by omega))
  rw [Nat.add_zero] at KT
  have hsz : ((⟨(tk ts k).text.toArray⟩ : ByteArray)).size ≤ maxLen := Nat.le_trans (show (tk ts k).text.toArray.size ≤ 100 by rw [List.size_toArray]; exact (h.t.tk k).1) (by decide)
  have HRR := Lib.hid (show nameR ts k = if (tk ts k).kind = 1 ∧ nameP (tk ts k).text = true then .ok (tk ts k).text (k + 1) else unex ts k from rfl)
  obtain ⟨RR, hRR⟩ : ∃ RR, RR = nameR ts k := ⟨_, rfl⟩
  rw [← hRR] at HRR ⊢
  obtain ⟨T, hTT⟩ : ∃ t, t = tk ts k := ⟨_, rfl⟩
  rw [← hTT] at KT HRR hsz
  obtain ⟨c, hc⟩ : ∃ b, ((T.kind : Int) == 1) = b := ⟨_, rfl⟩
  obtain ⟨n, hn⟩ : ∃ b, nameP T.text = b := ⟨_, rfl⟩
  have hc' : (T.kind = 1) ↔ c = true := by rw [← hc, beq_iff_eq]; omega
  have HE0 := Lib.hid (show RR = if c = true ∧ n = true then .ok T.text (k + 1) else unex ts k by rw [HRR.out, hn]; exact ite_congr (propext ⟨fun h => ⟨hc'.1 h.1, h.2⟩, fun h => ⟨hc'.2 h.1, h.2⟩⟩) (fun _ => rfl) (fun _ => rfl))
  have KN := Lib.hid (fun w' => name_any ⟨T.text.toArray⟩ w' hsz)
  have hl : (⟨T.text.toArray⟩ : ByteArray).data.toList = T.text := rfl
  rw [hl, hn] at KN
  clear h hRR HRR hTT hn hc' hl hsz
  go_enter Tryz.func142, Tryz.ntmps142
  go_wp2_with fail
  refine KT.out.mono ?_
  rintro e w1 ⟨rfl, HB1⟩
  go_upto_region 2 with (fail)
  obtain ⟨w2, hw2⟩ : ∃ z9 : World, z9 = w1.alloc (Obj.cells #[.int .i64 T.kind, .string ⟨T.text.toArray⟩, .int .i64 T.line, .int .i64 T.col] 58) := ⟨_, rfl⟩
  have HB2 := Lib.hid (show Below w1.heap.size w1 w2 by rw [hw2]; exact below_box _ _)
  have F2 := Lib.hid (show Blk w2 w1.heap.size 58 #[.int .i64 T.kind, .string ⟨T.text.toArray⟩, .int .i64 T.line, .int .i64 T.col] by rw [hw2]; exact Blk.new _ _ _)
  rw [← hw2]
  clear hw2
  have HG2 := Lib.hid (grown_tr (grown_of (some g) HB1.out) (grown_of (some g) HB2.out))
  have HV2 := Lib.hid ((HHV.out.belowW HB1.out).belowW HB2.out)
  have q0 := F2.out.cell 0
  have q1 := F2.out.cell 1
  simp only [List.getElem?_toArray, List.getElem?_cons_zero, List.getElem?_cons_succ] at q0 q1
  cases c with
  | false =>
    have HE := Lib.hid (show RR = unex ts k by rw [HE0.out, if_neg (fun h => by cases h.1)])
    clear HE0
    have hd : ((T.kind : Int) != 1) = true := by rw [bne, hc]; rfl
    go_wp2_with fail
    refine HV2.out.unx.mono ?_
    rintro e w9 ⟨he, HB9⟩
    obtain ⟨c, hc⟩ := panU_pan ts k
    have HC := Lib.hid hc
    rw [hc] at he
    subst he
    clear hc
    go_wp2_with fail
    rw [HE.out]
    exact ⟨rfl, stp_unex HC.out.symm (Lib.hid (grown_tr HG2.out (grown_of _ HB9.out)))⟩
  | true =>
    have hd : ((T.kind : Int) != 1) = false := by rw [bne, hc]; rfl
    cases n with
    | false =>
      have HE := Lib.hid (show RR = unex ts k by rw [HE0.out, if_neg (fun h => by cases h.2)])
      clear HE0
      go_wp2_with fail
      refine (KN.out _).mono ?_
      rintro e w3 ⟨rfl, rfl⟩
      go_wp2_with fail
      refine HV2.out.unx.mono ?_
      rintro e w9 ⟨he, HB9⟩
      obtain ⟨c, hc⟩ := panU_pan ts k
      have HC := Lib.hid hc
      rw [hc] at he
      subst he
      clear hc
      go_wp2_with fail
      rw [HE.out]
      exact ⟨rfl, stp_unex HC.out.symm (Lib.hid (grown_tr HG2.out (grown_of _ HB9.out)))⟩
    | true =>
      have HE := Lib.hid (show RR = .ok T.text (k + 1) by rw [HE0.out, if_pos ⟨rfl, rfl⟩])
      clear HE0
      have e1 : IntKind.i64.wrap ((k : Int) + 1) = (k : Int) + 1 := by rw [IntKind.wrap_i64]; omega
      go_wp2_with fail
      refine (KN.out _).mono ?_
      rintro e w3 ⟨rfl, rfl⟩
      have HP := Lib.hid (show Blk w2 g 140 #[.slice A len cap, .int .i64 (k : Nat), .int .i64 (m : Nat)] from HV2.out.p)
      obtain ⟨p0, f0, p1, f1, p2, f2⟩ := HP.out.all3
      go_upto_region 5 with (fail)
      rw [HP.out.setCell_eq]
      have HNE := Lib.hid (show w1.heap.size ≠ g from fun e => by have := (HHV.out.belowW HB1.out).gl; omega)
      have HV3 := Lib.hid (HV2.out.put (k + 1) m (by omega))
      have F3 := Lib.hid (F2.out.far (t' := 140) HNE.out #[.slice A len cap, .int .i64 ((k + 1 : Nat) : Int), .int .i64 (m : Nat)])
      have HM3 := Lib.hid (putB_grown w2 g 140 #[.slice A len cap, .int .i64 ((k + 1 : Nat) : Int), .int .i64 (m : Nat)])
      obtain ⟨w3, hw3⟩ : ∃ z9 : World, z9 = putB w2 g 140 #[.slice A len cap, .int .i64 ((k + 1 : Nat) : Int), .int .i64 (m : Nat)] := ⟨_, rfl⟩
      have hw3' : putB w2 g 140 ((#[.slice A len cap, .int .i64 (k : Nat), .int .i64 (m : Nat)] : Array Value).setIfInBounds 1 (.int .i64 ((k : Int) + 1))) = w3 := by rw [hw3]; rfl
      rw [← hw3] at HV3 F3 HM3
      rw [hw3']
      clear hw3 hw3' p0 f0 p1 f1 p2 f2 q0 q1
      have q1 := F3.out.cell 1
      simp only [List.getElem?_toArray, List.getElem?_cons_zero, List.getElem?_cons_succ] at q1
      go_wp2_with fail
      go_ret
      rw [HE.out]
      exact ⟨rfl, Lib.hid (grown_tr HG2.out HM3.out), HV3⟩
end Go.Proofs.YtkjoohnndobjeaaGreatDoor
