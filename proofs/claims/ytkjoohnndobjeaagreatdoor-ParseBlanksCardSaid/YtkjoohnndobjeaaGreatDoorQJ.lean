/-
  Expressions that the parser has made, and the walk of the parser's step into a nesting.
  The walks of the parser's sums in parentheses, and of the beginning of a term.
  The walk of the beginning of a term.
  The walk of the parser's names; the map of the functions.
-/
import Derived.Test.YtkjoohnndobjeaaGreatDoorQI
set_option linter.unusedVariables false
set_option maxHeartbeats 4000000
set_option maxRecDepth 100000
namespace Go.Proofs.YtkjoohnndobjeaaGreatDoor
open Go.RowKit Go.Fl Go.Fl.Lx Go.Fl.Nm Go.Fl.Fm Go.Fl.Rt Go.Fl.Pa
/-- An expression lies at a node, all of it in blocks that P allows. -/
inductive InA (P : Nat → Prop) (w : World) : TE → Nd → Prop where
  | mk (h : Hd) (l : List TE) (A : Option Addr) (len cap : Nat) (vs : List Nd) (ok : HdOk h) (hl : l.length = len) (hc : len ≤ cap) (hm : cap ≤ maxLen) (hv : vs.length = len) (hr : Rd w 6 A len (ndsCells vs)) (hg : 0 < len → ∀ b o, A = some ⟨b, o, none⟩ → P b)
      (hi : ∀ (i : Nat) T v, l[i]? = some T → vs[i]? = some v → InA P w T v) : InA P w (.mk h l) ⟨h, A, len, cap⟩
theorem InA.toE {P : Nat → Prop} {w : World} {T : TE} {v : Nd} (h : InA P w T v) : InE w T v := by
 induction h with
 | mk h l A len cap vs ok hl hc hm hv hr hg hi ih => exact .mk h l A len cap vs ok hl hc hm hv hr ih
theorem InA.mv {P : Nat → Prop} {g : Nat} {w w' : World} {T : TE} {v : Nd} (h : InA P w T v) (hgP : ¬ P g) (hb : w.grownBy w' (some g)) : InA P w' T v := by
 induction h with
 | mk h l A len cap vs ok hl hc hm hv hr hg hi ih =>
  refine .mk h l A len cap vs ok hl hc hm hv ⟨hr.1, fun hn => ?_⟩ hg ih
  obtain ⟨b, off, hA, hlt, hcell⟩ := hr.2 hn
  refine ⟨b, off, hA, Nat.lt_of_lt_of_le hlt hb.size, fun j u hu => ?_⟩
  have h1 := hcell j u hu
  have h2 := hb.block b hlt (fun e => by have := hg hn b off hA; injection e with e; rw [e] at this; exact hgP this)
  unfold World.cell? at h1 ⊢
  rw [h2]
  exact h1
theorem InA.belowW {P : Nat → Prop} {w w' : World} {T : TE} {v : Nd} (h : InA P w T v) (hb : Below w.heap.size w w') : InA P w' T v := by
 induction h with
 | mk h l A len cap vs ok hl hc hm hv hr hg hi ih => exact .mk h l A len cap vs ok hl hc hm hv (hr.below hb) hg ih
theorem InA.b9 {P : Nat → Prop} {w w' : World} {T : TE} {v : Nd} (h : InA P w T v) (hb : Go.RowKit.Hid (Go.RowKit.Below w.heap.size w w')) : Go.RowKit.Hid (InA P w' T v) := hI (InA.belowW h hb.out)
theorem InA.far {P : Nat → Prop} {r : Nat} {w : World} {T : TE} {v : Nd} (h : InA P w T v) (hr : ¬ P r) (t : TypeId) (V : Array Value) : InA P (putB w r t V) T v := h.mv hr (putB_grown w r t V)
theorem InA.weaken {P Q : Nat → Prop} {w : World} {T : TE} {v : Nd} (h : InA P w T v) (hC : ∀ b, P b → Q b) : InA Q w T v := by
 induction h with
 | mk h l A len cap vs ok hl hc hm hv hr hg hi ih => exact .mk h l A len cap vs ok hl hc hm hv hr (fun hn b o e => hC b (hg hn b o e)) ih
theorem InA.lt {P : Nat → Prop} {w : World} {T : TE} {v : Nd} (h : InA P w T v) : InA (fun b => P b ∧ b < w.heap.size) w T v := by
 induction h with
 | mk h l A len cap vs ok hl hc hm hv hr hg hi ih =>
  refine .mk h l A len cap vs ok hl hc hm hv hr (fun hn b o e => ⟨hg hn b o e, ?_⟩) ih
  obtain ⟨b', off, hA, hlt, _⟩ := hr.2 hn
  rw [e] at hA
  injection hA with hA
  injection hA with hA
  rw [hA]
  exact hlt
theorem InA.ok {P : Nat → Prop} {w : World} {T : TE} {v : Nd} (h : InA P w T v) : HdOk v.h := h.toE.ok
theorem ina_leaf (P : Nat → Prop) (w : World) (h : Hd) (ok : HdOk h) : InA P w (.mk h []) ⟨h, none, 0, 0⟩ :=
 .mk h [] none 0 0 [] ok rfl (Nat.le_refl _) (Nat.zero_le _) rfl (Rd.none_ _ _) (fun hn => absurd hn (Nat.lt_irrefl 0)) (fun i T v h => by cases h)
theorem ina_new1 {P : Nat → Prop} (w : World) (hd : Hd) (ok : HdOk hd) (a : TE) (x : Nd) (t : TypeId) (hB : P w.heap.size) (ha : InA P w a x) :
    InA P (w.alloc (.cells x.cells.toArray t)) (.mk hd [a]) ⟨hd, some ⟨w.heap.size, 0, none⟩, 1, 1⟩ :=
  .mk _ [a] _ 1 1 [x] ok rfl (Nat.le_refl _) (by decide) rfl
    (by
      refine ⟨rfl, fun _ => ⟨w.heap.size, 0, rfl, by simp, fun j u hu => ?_⟩⟩
      have h := (Blk.new w t x.cells.toArray).cell j
      rw [Nat.zero_add, h, List.getElem?_toArray]
      have e : ndsCells [x] = x.cells := by show x.cells ++ [] = _; rw [List.append_nil]
      rw [e] at hu
      exact hu)
    (fun _ b o e => by injection e with e; injection e with e; rw [← e]; exact hB)
    (fun i T v h1 h2 => by
      match i with
      | 0 => injection h1 with h1; injection h2 with h2; subst h1 h2; exact ha.belowW (below_box w _)
      | i + 1 => cases h1)
theorem ina_new2 {P : Nat → Prop} (w : World) (hd : Hd) (ok : HdOk hd) (a b : TE) (x y : Nd) (t : TypeId) (hB : P w.heap.size) (ha : InA P w a x) (hb : InA P w b y) :
    InA P (w.alloc (.cells (x.cells ++ y.cells).toArray t)) (.mk hd [a, b]) ⟨hd, some ⟨w.heap.size, 0, none⟩, 2, 2⟩ :=
  .mk _ [a, b] _ 2 2 [x, y] ok rfl (Nat.le_refl _) (by decide) rfl
    (by
      refine ⟨rfl, fun _ => ⟨w.heap.size, 0, rfl, by simp, fun j u hu => ?_⟩⟩
      have h := (Blk.new w t (x.cells ++ y.cells).toArray).cell j
      rw [Nat.zero_add, h, List.getElem?_toArray]
      exact hu)
    (fun _ b o e => by injection e with e; injection e with e; rw [← e]; exact hB)
    (fun i T v h1 h2 => by
      match i with
      | 0 => injection h1 with h1; injection h2 with h2; subst h1 h2; exact ha.belowW (below_box w _)
      | 1 => injection h1 with h1; injection h2 with h2; subst h1 h2; exact hb.belowW (below_box w _)
      | i + 2 => cases h1)
/-- An expression lies at a node, all of it from block B on. -/
def InX (B : Nat) (w : World) (T : TE) (v : Nd) : Prop := InA (fun b => B ≤ b) w T v
theorem InX.toE {B : Nat} {w : World} {T : TE} {v : Nd} (h : InX B w T v) : InE w T v := InA.toE h
theorem InX.mv {B g : Nat} {w w' : World} {T : TE} {v : Nd} (h : InX B w T v) (hgB : g < B) (hb : w.grownBy w' (some g)) : InX B w' T v := InA.mv h (fun e => absurd hgB (Nat.not_lt_of_le e)) hb
theorem InX.belowW {B : Nat} {w w' : World} {T : TE} {v : Nd} (h : InX B w T v) (hb : Below w.heap.size w w') : InX B w' T v := InA.belowW h hb
theorem InX.b9 {B : Nat} {w w' : World} {T : TE} {v : Nd} (h : InX B w T v) (hb : Go.RowKit.Hid (Go.RowKit.Below w.heap.size w w')) : Go.RowKit.Hid (InX B w' T v) := hI (InX.belowW h hb.out)
theorem InX.far {B r : Nat} {w : World} {T : TE} {v : Nd} (h : InX B w T v) (hr : r < B) (t : TypeId) (V : Array Value) : InX B (putB w r t V) T v := h.mv hr (putB_grown w r t V)
theorem InX.weaken {B C : Nat} {w : World} {T : TE} {v : Nd} (h : InX B w T v) (hC : C ≤ B) : InX C w T v := InA.weaken h (fun b hb => Nat.le_trans hC hb)
theorem InX.ok {B : Nat} {w : World} {T : TE} {v : Nd} (h : InX B w T v) : HdOk v.h := h.toE.ok
/-- A number, a variable: nodes without elements. -/
theorem inx_leaf (B : Nat) (w : World) (h : Hd) (ok : HdOk h) : InX B w (.mk h []) ⟨h, none, 0, 0⟩ := ina_leaf _ w h ok
theorem inx_new1 {B : Nat} (w : World) (hd : Hd) (ok : HdOk hd) (a : TE) (x : Nd) (t : TypeId) (hB : B ≤ w.heap.size) (ha : InX B w a x) :
 InX B (w.alloc (.cells x.cells.toArray t)) (.mk hd [a]) ⟨hd, some ⟨w.heap.size, 0, none⟩, 1, 1⟩ := ina_new1 w hd ok a x t hB ha
/-- What a rule for expressions answers. -/
def ExR (w0 : World) (g : Nat) (A : Option Addr) (len cap : Nat) (ts : List Tok) (m : Nat) (r : PR TE) (w : World) (e : Ending) (w' : World) : Prop :=
  match r with
  | .ok T k1 => ∃ v : Nd, e = .returned v.val ∧ Hid (InX w.heap.size w' T v) ∧ Hid (w.grownBy w' (some g)) ∧ Hid (Env w0 g A len cap ts k1 m w')
  | .bad ln co er => e = pan ln co er ∧ Hid (w.grownBy w' (some g))
  | .out => True
section
variable {w0 : World} {g : Nat} {A : Option Addr} {len cap : Nat} {ts : List Tok} {m : Nat}
theorem exr_bad {ln co er : Nat} {w w' : World} (hg : Hid (w.grownBy w' (some g))) : ExR w0 g A len cap ts m (.bad ln co er) w (pan ln co er) w' := ⟨rfl, hg⟩
theorem exr_unex {k : Nat} {w w' : World} {e : Ending} (he : e = panU ts k) (hg : Hid (w.grownBy w' (some g))) : ExR w0 g A len cap ts m (unex ts k) w e w' := by
 unfold unex failP
 unfold panU at he
 split
 ·
  rename_i h
  rw [if_pos h] at he
  exact ⟨he, hg⟩
 rename_i h
 rw [if_neg h] at he
 exact ⟨he, hg⟩
theorem exr_fail {k er : Nat} {w w' : World} (hg : Hid (w.grownBy w' (some g))) : ExR w0 g A len cap ts m (failP ts k er) w (pan (tk ts k).line (tk ts k).col er) w' := ⟨rfl, hg⟩
end

theorem deeper_factor {w0 w : World} {g : Nat} {A : Option Addr} {len cap : Nat} {ts : List Tok} {k m : Nat} (h : Env w0 g A len cap ts k m w) (hk : k ≤ 120000) (hm : m ≤ 100) (r : PR TE) (hr : r ≠ .out)
 (KF : m ≠ 100 → ∀ w', Env w0 g A len cap ts (k + 1) (m + 1) w' → Calls Tryz.prog 126 #[.pointer (some ⟨g, 0, none⟩)] w' (ExR w0 g A len cap ts (m + 1) r w')) :
 Calls Tryz.prog 157 #[.pointer (some ⟨g, 0, none⟩), .func (.func 126) #[.pointer (some ⟨g, 0, none⟩)] #[]] w (ExR w0 g A len cap ts m (if m = 100 then failP ts k 5 else r) w) := by
 have H := hI KF
 have ak := hI h
 obtain ⟨P, I⟩ := eX ((if m = 100 then failP ts k 5 else r))
 have J := hI I
 rw [← I]
 clear KF I
 go_enter Tryz.func157, Tryz.ntmps157
 go_upto_region 1 with (fail)
 obtain ⟨c, Q, R, F1⟩ := aX w 29 #[.int .i64 0, .int .i64 0, .int .i64 0, .string ⟨#[]⟩, .int .i64 0, .slice none 0 0]
 rw [← Q]
 clear Q
 have S := hI (show some w.heap.size ≠ some g from fun e => by have := h.gl; injection e with e; omega)
 have s : w.heap.size ≠ g := fun e => S.out (by rw [e])
 have am : w0.heap.size ≤ w.heap.size := h.b.size
 have U := hI (h.belowW R.out)
 have V := hI (grown_of (some g) R.out)
 clear h
 have u := hI (show Blk c g 140 #[.slice A len cap, .int .i64 (k : Nat), .int .i64 (m : Nat)] from U.out.p)
 by_cases hmm : m = 100
 ·
  have x := hI (show P = failP ts k 5 from J.out.trans (if_pos hmm)); have d1 : ((m : Int) == 100) = true := (by rw [hmm]; rfl); have a : c.cell? ⟨g, 2, none⟩ = some (.int .i64 (m : Nat)) := u.out.cell 2; clear hmm
  go_wp2_with fail
  refine (U.out.fail 5).mono ?_
  rintro e y ⟨rfl, HB⟩
  go_wp2_with fail
  rw [x.out]
  exact ⟨rfl, exr_fail (hI (grown_tr V.out (grown_of _ HB.out)))⟩
 have x := hI (show P = r from J.out.trans (if_neg hmm))
 have d1 : ((m : Int) == 100) = false := by rw [beq_eq_false_iff_ne]; omega
 have H := hI (H.out hmm)
 clear hmm J
 have e1 : IntKind.i64.wrap ((k : Int) + 1) = (k : Int) + 1 := by rw [IntKind.wrap_i64]; omega
 have e2 : IntKind.i64.wrap ((m : Int) + 1) = (m : Int) + 1 := by rw [IntKind.wrap_i64]; omega
 have e3 : IntKind.i64.wrap ((m : Int) + 1 - 1) = (m : Int) := by rw [IntKind.wrap_i64]; omega
 obtain ⟨i, j, l, o, a, q⟩ := u.out.all3
 go_upto_region 4 with (fail)
 rw [u.out.setCell_eq]
 have z := hI (show Blk (putB c g 140 ((#[.slice A len cap, .int .i64 (k : Nat), .int .i64 (m : Nat)] : Array Value).setIfInBounds 1 (.int .i64 ((k : Int) + 1)))) g 140 #[.slice A len cap, .int .i64 ((k : Int) + 1), .int .i64 (m : Nat)] from u.out.put _)
 have W := hI (grown_tr V.out (putB_grown c g 140 ((#[.slice A len cap, .int .i64 (k : Nat), .int .i64 (m : Nat)] : Array Value).setIfInBounds 1 (.int .i64 ((k : Int) + 1)))))
 have X := hI (F1.out.far (t' := 140) s ((#[.slice A len cap, .int .i64 (k : Nat), .int .i64 (m : Nat)] : Array Value).setIfInBounds 1 (.int .i64 ((k : Int) + 1))))
 clear i j l o a q
 obtain ⟨y, Y⟩ := eX (putB c g 140 ((#[.slice A len cap, .int .i64 (k : Nat), .int .i64 (m : Nat)] : Array Value).setIfInBounds 1 (.int .i64 ((k : Int) + 1))))
 rw [← Y] at z W X ⊢
 clear Y
 obtain ⟨i, j, l, o, a, q⟩ := z.out.all3
 go_upto_region 5 with (fail)
 rw [z.out.setCell_eq]
 have Z := hI (show Blk (putB y g 140 ((#[.slice A len cap, .int .i64 ((k : Int) + 1), .int .i64 (m : Nat)] : Array Value).setIfInBounds 2 (.int .i64 ((m : Int) + 1)))) g 140 #[.slice A len cap, .int .i64 ((k : Int) + 1), .int .i64 ((m : Int) + 1)] from z.out.put _)
 have B := hI (grown_tr W.out (putB_grown y g 140 ((#[.slice A len cap, .int .i64 ((k : Int) + 1), .int .i64 (m : Nat)] : Array Value).setIfInBounds 2 (.int .i64 ((m : Int) + 1)))))
 have C := hI (X.out.far (t' := 140) s ((#[.slice A len cap, .int .i64 ((k : Int) + 1), .int .i64 (m : Nat)] : Array Value).setIfInBounds 2 (.int .i64 ((m : Int) + 1))))
 clear i j l o a q
 obtain ⟨w3, ab⟩ := eX (putB y g 140 ((#[.slice A len cap, .int .i64 ((k : Int) + 1), .int .i64 (m : Nat)] : Array Value).setIfInBounds 2 (.int .i64 ((m : Int) + 1))))
 rw [← ab] at Z B C ⊢
 clear ab
 have ac := hI (show Env w0 g A len cap ts (k + 1) (m + 1) w3 from ak.out.moved B.out Z.out (by omega))
 have KC := hI (H.out w3 ac.out)
 cases r with
 | out => exact (hr rfl).elim
 | bad ln co er =>
  go_wp2_with fail
  refine KC.out.mono ?_
  rintro e w4 ⟨rfl, D⟩
  go_wp2_with fail
  rw [x.out]
  exact ⟨rfl, exr_bad (hI (grown_tr B.out D.out))⟩
 | ok T k1 =>
  go_wp2_with fail
  refine KC.out.mono ?_
  rintro e w4 ⟨v, rfl, ap, D, ae⟩; have L := hI (C.out.grown D.out S.out); have ba : w.heap.size ≤ w4.heap.size := Nat.le_of_lt L.out.lt
  go_upto_region 6 with (fail)
  obtain ⟨E, af, F, E5⟩ := aX w4 29 #[.int .i64 v.h.kind, .int .i64 v.h.n, .int .i64 v.h.d, .string v.h.name, .int .i64 v.h.k, .slice v.A v.len v.cap]; rw [← af]; clear af; have M := ae.out.b9 F; have ar : w4.heap.size ≠ g := Nat.ne_of_gt ae.out.gl; have bb : w.heap.size ≠ w4.heap.size := Nat.ne_of_lt L.out.lt; have P5 := hI (show Blk E g 140 #[.slice A len cap, .int .i64 (k1 : Nat), .int .i64 ((m : Int) + 1)] from M.out.p); obtain ⟨i, j, l, o, a, q⟩ := P5.out.all3
  go_upto_region 7 with (fail)
  rw [P5.out.setCell_eq]; have ah := hI (M.out.put k1 m M.out.kk); have E6 := hI (E5.out.far (t' := 140) ar #[.slice A len cap, .int .i64 (k1 : Nat), .int .i64 (m : Nat)]); have G := hI ((L.out.belowW F.out).far (t' := 140) s #[.slice A len cap, .int .i64 (k1 : Nat), .int .i64 (m : Nat)]); have N := hI (putB_grown E g 140 #[.slice A len cap, .int .i64 (k1 : Nat), .int .i64 (m : Nat)]); clear i j l o a q; obtain ⟨w6, O⟩ := eX (putB E g 140 #[.slice A len cap, .int .i64 (k1 : Nat), .int .i64 (m : Nat)]); have aj : putB E g 140 ((#[.slice A len cap, .int .i64 (k1 : Nat), .int .i64 ((m : Int) + 1)] : Array Value).setIfInBounds 2 (.int .i64 (m : Nat))) = w6 := (by rw [O]; rfl); rw [← O] at ah E6 G N; rw [aj]; clear O aj; obtain ⟨a0, b0, a1, b1, a2, b2, a3, b3, a4, b4, a5, b5⟩ := E6.out.all6; obtain ⟨r0, h0, r1, h1, r2, h2, r3, h3, r4, h4, r5, h5⟩ := G.out.all6
  go_wp2_with fail
  rw [pst6 G.out]; obtain ⟨z0, _, z1, _, z2, _, z3, _, z4, _, z5, _⟩ := (G.out.put #[.int .i64 v.h.kind, .int .i64 v.h.n, .int .i64 v.h.d, .string v.h.name, .int .i64 v.h.k, .slice v.A v.len v.cap]).all6
  refine bodyPost_ret (v := .agg #[.int .i64 v.h.kind, .int .i64 v.h.n, .int .i64 v.h.d, .string v.h.name, .int .i64 v.h.k, .slice v.A v.len v.cap]) (by simp [results, Tryz.results157, go_sem, z0, z1, z2, z3, z4, z5]) rfl ?_
  rw [x.out]
  exact ⟨v, rfl, hI ((((ap.out.belowW F.out).mv ac.out.gl N.out).far C.out.lt _ _).weaken (Nat.le_of_lt C.out.lt)), hI (grown_new (grown_tr (grown_tr B.out (grown_tr D.out (grown_of (some g) F.out))) N.out) (Nat.le_refl _) _ _), hI (ah.out.far s am _ _)⟩

theorem deeper_sum {w0 w : World} {g : Nat} {A : Option Addr} {len cap : Nat} {ts : List Tok} {k m : Nat} (h : Env w0 g A len cap ts k m w) (hk : k ≤ 120000) (hm : m ≤ 100) (r : PR TE) (hr : r ≠ .out)
 (KF : m ≠ 100 → ∀ w', Env w0 g A len cap ts (k + 1) (m + 1) w' → Calls Tryz.prog 48 #[.pointer (some ⟨g, 0, none⟩)] w' (ExR w0 g A len cap ts (m + 1) r w')) :
 Calls Tryz.prog 157 #[.pointer (some ⟨g, 0, none⟩), .func (.func 48) #[.pointer (some ⟨g, 0, none⟩)] #[]] w (ExR w0 g A len cap ts m (if m = 100 then failP ts k 5 else r) w) := by
 have H := hI KF
 have ak := hI h
 obtain ⟨P, I⟩ := eX ((if m = 100 then failP ts k 5 else r))
 have J := hI I
 rw [← I]
 clear KF I
 go_enter Tryz.func157, Tryz.ntmps157
 go_upto_region 1 with (fail)
 obtain ⟨c, Q, R, F1⟩ := aX w 29 #[.int .i64 0, .int .i64 0, .int .i64 0, .string ⟨#[]⟩, .int .i64 0, .slice none 0 0]
 rw [← Q]
 clear Q
 have S := hI (show some w.heap.size ≠ some g from fun e => by have := h.gl; injection e with e; omega)
 have s : w.heap.size ≠ g := fun e => S.out (by rw [e])
 have am : w0.heap.size ≤ w.heap.size := h.b.size
 have U := hI (h.belowW R.out)
 have V := hI (grown_of (some g) R.out)
 clear h
 have u := hI (show Blk c g 140 #[.slice A len cap, .int .i64 (k : Nat), .int .i64 (m : Nat)] from U.out.p)
 by_cases hmm : m = 100
 ·
  have x := hI (show P = failP ts k 5 from J.out.trans (if_pos hmm)); have d1 : ((m : Int) == 100) = true := (by rw [hmm]; rfl); have a : c.cell? ⟨g, 2, none⟩ = some (.int .i64 (m : Nat)) := u.out.cell 2; clear hmm
  go_wp2_with fail
  refine (U.out.fail 5).mono ?_
  rintro e y ⟨rfl, HB⟩
  go_wp2_with fail
  rw [x.out]
  exact ⟨rfl, exr_fail (hI (grown_tr V.out (grown_of _ HB.out)))⟩
 have x := hI (show P = r from J.out.trans (if_neg hmm))
 have d1 : ((m : Int) == 100) = false := by rw [beq_eq_false_iff_ne]; omega
 have H := hI (H.out hmm)
 clear hmm J
 have e1 : IntKind.i64.wrap ((k : Int) + 1) = (k : Int) + 1 := by rw [IntKind.wrap_i64]; omega
 have e2 : IntKind.i64.wrap ((m : Int) + 1) = (m : Int) + 1 := by rw [IntKind.wrap_i64]; omega
 have e3 : IntKind.i64.wrap ((m : Int) + 1 - 1) = (m : Int) := by rw [IntKind.wrap_i64]; omega
 obtain ⟨i, j, l, o, a, q⟩ := u.out.all3
 go_upto_region 4 with (fail)
 rw [u.out.setCell_eq]
 have z := hI (show Blk (putB c g 140 ((#[.slice A len cap, .int .i64 (k : Nat), .int .i64 (m : Nat)] : Array Value).setIfInBounds 1 (.int .i64 ((k : Int) + 1)))) g 140 #[.slice A len cap, .int .i64 ((k : Int) + 1), .int .i64 (m : Nat)] from u.out.put _)
 have W := hI (grown_tr V.out (putB_grown c g 140 ((#[.slice A len cap, .int .i64 (k : Nat), .int .i64 (m : Nat)] : Array Value).setIfInBounds 1 (.int .i64 ((k : Int) + 1)))))
 have X := hI (F1.out.far (t' := 140) s ((#[.slice A len cap, .int .i64 (k : Nat), .int .i64 (m : Nat)] : Array Value).setIfInBounds 1 (.int .i64 ((k : Int) + 1))))
 clear i j l o a q
 obtain ⟨y, Y⟩ := eX (putB c g 140 ((#[.slice A len cap, .int .i64 (k : Nat), .int .i64 (m : Nat)] : Array Value).setIfInBounds 1 (.int .i64 ((k : Int) + 1))))
 rw [← Y] at z W X ⊢
 clear Y
 obtain ⟨i, j, l, o, a, q⟩ := z.out.all3
 go_upto_region 5 with (fail)
 rw [z.out.setCell_eq]
 have Z := hI (show Blk (putB y g 140 ((#[.slice A len cap, .int .i64 ((k : Int) + 1), .int .i64 (m : Nat)] : Array Value).setIfInBounds 2 (.int .i64 ((m : Int) + 1)))) g 140 #[.slice A len cap, .int .i64 ((k : Int) + 1), .int .i64 ((m : Int) + 1)] from z.out.put _)
 have B := hI (grown_tr W.out (putB_grown y g 140 ((#[.slice A len cap, .int .i64 ((k : Int) + 1), .int .i64 (m : Nat)] : Array Value).setIfInBounds 2 (.int .i64 ((m : Int) + 1)))))
 have C := hI (X.out.far (t' := 140) s ((#[.slice A len cap, .int .i64 ((k : Int) + 1), .int .i64 (m : Nat)] : Array Value).setIfInBounds 2 (.int .i64 ((m : Int) + 1))))
 clear i j l o a q
 obtain ⟨w3, ab⟩ := eX (putB y g 140 ((#[.slice A len cap, .int .i64 ((k : Int) + 1), .int .i64 (m : Nat)] : Array Value).setIfInBounds 2 (.int .i64 ((m : Int) + 1))))
 rw [← ab] at Z B C ⊢
 clear ab
 have ac := hI (show Env w0 g A len cap ts (k + 1) (m + 1) w3 from ak.out.moved B.out Z.out (by omega))
 have KC := hI (H.out w3 ac.out)
 cases r with
 | out => exact (hr rfl).elim
 | bad ln co er =>
  go_wp2_with fail
  refine KC.out.mono ?_
  rintro e w4 ⟨rfl, D⟩
  go_wp2_with fail
  rw [x.out]
  exact ⟨rfl, exr_bad (hI (grown_tr B.out D.out))⟩
 | ok T k1 =>
  go_wp2_with fail
  refine KC.out.mono ?_
  rintro e w4 ⟨v, rfl, ap, D, ae⟩; have L := hI (C.out.grown D.out S.out); have ba : w.heap.size ≤ w4.heap.size := Nat.le_of_lt L.out.lt
  go_upto_region 6 with (fail)
  obtain ⟨E, af, F, E5⟩ := aX w4 29 #[.int .i64 v.h.kind, .int .i64 v.h.n, .int .i64 v.h.d, .string v.h.name, .int .i64 v.h.k, .slice v.A v.len v.cap]; rw [← af]; clear af; have M := ae.out.b9 F; have ar : w4.heap.size ≠ g := Nat.ne_of_gt ae.out.gl; have bb : w.heap.size ≠ w4.heap.size := Nat.ne_of_lt L.out.lt; have P5 := hI (show Blk E g 140 #[.slice A len cap, .int .i64 (k1 : Nat), .int .i64 ((m : Int) + 1)] from M.out.p); obtain ⟨i, j, l, o, a, q⟩ := P5.out.all3
  go_upto_region 7 with (fail)
  rw [P5.out.setCell_eq]; have ah := hI (M.out.put k1 m M.out.kk); have E6 := hI (E5.out.far (t' := 140) ar #[.slice A len cap, .int .i64 (k1 : Nat), .int .i64 (m : Nat)]); have G := hI ((L.out.belowW F.out).far (t' := 140) s #[.slice A len cap, .int .i64 (k1 : Nat), .int .i64 (m : Nat)]); have N := hI (putB_grown E g 140 #[.slice A len cap, .int .i64 (k1 : Nat), .int .i64 (m : Nat)]); clear i j l o a q; obtain ⟨w6, O⟩ := eX (putB E g 140 #[.slice A len cap, .int .i64 (k1 : Nat), .int .i64 (m : Nat)]); have aj : putB E g 140 ((#[.slice A len cap, .int .i64 (k1 : Nat), .int .i64 ((m : Int) + 1)] : Array Value).setIfInBounds 2 (.int .i64 (m : Nat))) = w6 := (by rw [O]; rfl); rw [← O] at ah E6 G N; rw [aj]; clear O aj; obtain ⟨a0, b0, a1, b1, a2, b2, a3, b3, a4, b4, a5, b5⟩ := E6.out.all6; obtain ⟨r0, h0, r1, h1, r2, h2, r3, h3, r4, h4, r5, h5⟩ := G.out.all6
  go_wp2_with fail
  rw [pst6 G.out]; obtain ⟨z0, _, z1, _, z2, _, z3, _, z4, _, z5, _⟩ := (G.out.put #[.int .i64 v.h.kind, .int .i64 v.h.n, .int .i64 v.h.d, .string v.h.name, .int .i64 v.h.k, .slice v.A v.len v.cap]).all6
  refine bodyPost_ret (v := .agg #[.int .i64 v.h.kind, .int .i64 v.h.n, .int .i64 v.h.d, .string v.h.name, .int .i64 v.h.k, .slice v.A v.len v.cap]) (by simp [results, Tryz.results157, go_sem, z0, z1, z2, z3, z4, z5]) rfl ?_
  rw [x.out]
  exact ⟨v, rfl, hI ((((ap.out.belowW F.out).mv ac.out.gl N.out).far C.out.lt _ _).weaken (Nat.le_of_lt C.out.lt)), hI (grown_new (grown_tr (grown_tr B.out (grown_tr D.out (grown_of (some g) F.out))) N.out) (Nat.le_refl _) _ _), hI (ah.out.far s am _ _)⟩
end Go.Proofs.YtkjoohnndobjeaaGreatDoor
namespace Go.Proofs.YtkjoohnndobjeaaGreatDoor
open Go.RowKit Go.Fl Go.Fl.Lx Go.Fl.Nm Go.Fl.Fm Go.Fl.Rt Go.Fl.Pa
/-- What a sum in parentheses comes to, with what the sum comes to. -/
def encR (ts : List Tok) (k m : Nat) (r : PR TE) : PR TE :=
  if isS false ts k [40] then
    if m = 100 then failP ts k 5
    else
      match r with
      | .ok e k1 => if isS false ts k1 [41] then .ok e (k1 + 1) else unex ts k1
      | r => r
  else unex ts k
theorem encP_eq (nm : List UInt8 → Bool) (ts : List Tok) (f k m : Nat) : encP nm ts (f + 1) k m = encR ts k m (sumP nm ts f (k + 1) (m + 1)) := by
 rw [encP.eq_def]
 rfl

theorem pEnclosed {w0 w : World} {g : Nat} {A : Option Addr} {len cap : Nat} {ts : List Tok} {k m : Nat} (h : Env w0 g A len cap ts k m w) (hk : k ≤ 110000) (hm : m ≤ 100) (r : PR TE) (hr : isS false ts k [40] = true → r ≠ .out) (hrk : ∀ T k1, r = .ok T k1 → k1 ≤ 110000)
 (KF : isS false ts k [40] = true → m ≠ 100 → ∀ w', Env w0 g A len cap ts (k + 1) (m + 1) w' → Calls Tryz.prog 48 #[.pointer (some ⟨g, 0, none⟩)] w' (ExR w0 g A len cap ts (m + 1) r w')) :
 Calls Tryz.prog 176 #[.pointer (some ⟨g, 0, none⟩)] w (ExR w0 g A len cap ts m (encR ts k m r) w) := by
 obtain ⟨j, B⟩ := eX (encR ts k m r)
 have x := hI B
 have C := hI KF
 have Y := hI hrk
 rw [← B]
 clear KF B hrk
 go_enter Tryz.func176, Tryz.ntmps176
 go_upto_region 1 with (fail)
 obtain ⟨D, P, Q, R⟩ := aX w 29 #[.int .i64 0, .int .i64 0, .int .i64 0, .string ⟨#[]⟩, .int .i64 0, .slice none 0 0]
 rw [← P]
 clear P
 have E := hI (show some w.heap.size ≠ some g from fun e => by have := h.gl; injection e with e; omega)
 have Z : w.heap.size ≠ g := fun e => E.out (by rw [e])
 have aa : w0.heap.size ≤ w.heap.size := h.b.size
 have ab : g < w.heap.size := h.gl
 have F := hI (h.belowW Q.out)
 have G := hI (grown_of (some g) Q.out)
 have ac : w.heap.size < D.heap.size := R.out.lt
 clear h
 have l := hI (pIs F.out 0 (by omega) ⟨#[40]⟩)
 rw [Nat.add_zero, show kwP (⟨#[40]⟩ : ByteArray).data.toList = false by decide, show (⟨#[40]⟩ : ByteArray).data.toList = [40] from rfl] at l
 cases hb : isS false ts k [40] with
 | false =>
  have o := hI (show j = unex ts k by rw [x.out]; unfold encR; rw [hb]; rfl); rw [hb] at l; clear hb x
  go_wp2_with fail
  refine l.out.mono ?_
  rintro e w2 ⟨rfl, i⟩
  go_wp2_with fail
  refine ((F.out.belowW i.out).unx).mono ?_
  rintro e w3 ⟨u, ad⟩; obtain ⟨c, hc⟩ := panU_pan ts k; have H := hI hc; rw [hc] at u; subst u; clear hc
  go_wp2_with fail
  rw [o.out]
  exact ⟨rfl, exr_unex H.out.symm (hI (grown_tr G.out (grown_tr (grown_of _ i.out) (grown_of _ ad.out))))⟩
 | true =>
  have hr := hr hb; have C := hI (C.out hb); rw [hb] at l
  have o := hI (show j = (if m = 100 then failP ts k 5 else match r with
   | .ok e k1 => if isS false ts k1 [41] then .ok e (k1 + 1) else unex ts k1
   | r => r) by rw [x.out]; unfold encR; rw [hb]; rfl)
  clear hb x; have I := hI (fun (w2 : World) (hb : Below D.heap.size D w2) => deeper_sum (F.out.belowW hb) (by omega) hm r hr C.out); obtain ⟨S, J⟩ := eX ((if m = 100 then failP ts k 5 else r)); rw [← J] at I; have p := hI J; clear J
  cases S with
  | out =>
   exfalso
   have a := p.out
   split at a
   ·
    exact fail_out a.symm
   exact hr a.symm
  | bad ln co er =>
   have q := hI (show j = .bad ln co er by
    have a := p.out; rw [o.out]
    split at a
    ·
     rename_i h8
     rw [if_pos h8, a]
    rename_i h8
    rw [if_neg h8, ← a])
   clear o p
   go_wp2_with fail
   refine l.out.mono ?_
   rintro e w2 ⟨rfl, i⟩
   go_wp2_with fail
   refine (I.out w2 i.out).mono ?_
   rintro e w3 ⟨rfl, y⟩
   go_wp2_with fail
   rw [q.out]
   exact ⟨rfl, exr_bad (hI (grown_tr G.out (grown_tr (grown_of _ i.out) y.out)))⟩
  | ok T k1 =>
   have ar : k1 ≤ 110000 := by
    have a := p.out
    split at a
    ·
     exact (fail_ok a.symm).elim
    exact Y.out T k1 a.symm
   have q := hI (show j = (if isS false ts k1 [41] then .ok T (k1 + 1) else unex ts k1) by
    have a := p.out; rw [o.out]
    split at a
    ·
     exact (fail_ok a.symm).elim
    rename_i h8
    rw [if_neg h8, ← a])
   clear o p
   go_wp2_with fail
   refine l.out.mono ?_
   rintro e w2 ⟨rfl, i⟩; have ae := i.out.size
   go_wp2_with fail
   refine (I.out w2 i.out).mono ?_
   rintro e w3 ⟨v, rfl, af, y, U⟩
   go_upto_region 4 with (fail)
   obtain ⟨w4, V, z, E4⟩ := aX w3 29 #[.int .i64 v.h.kind, .int .i64 v.h.n, .int .i64 v.h.d, .string v.h.name, .int .i64 v.h.k, .slice v.A v.len v.cap]; rw [← V]; clear V; have W := U.out.b9 z; have X := hI (grown_tr G.out (grown_tr (grown_of _ i.out) (grown_tr y.out (grown_of (some g) z.out)))); have ah : w3.heap.size ≠ g := Nat.ne_of_gt U.out.gl; have ai := hI (show some w3.heap.size ≠ some g from fun e => ah (Option.some.inj e)); have L : w.heap.size < w2.heap.size := Nat.lt_of_lt_of_le ac ae; have aj : g < w2.heap.size := Nat.lt_trans ab L
   cases hc : isS false ts k1 [41] with
   | false =>
    have M := hI (show j = unex ts k1 by rw [q.out, hc]; rfl); have N := hI (pWantN W.out (by omega) ⟨#[41]⟩ (by rw [show kwP (⟨#[41]⟩ : ByteArray).data.toList = false by decide]; exact hc)); clear hc q
    go_wp2_with fail
    refine N.out.mono ?_
    rintro e w5 ⟨u, s⟩; obtain ⟨c, hc⟩ := panU_pan ts k1; have H := hI hc; rw [hc] at u; subst u; clear hc
    go_wp2_with fail
    rw [M.out]
    exact ⟨rfl, exr_unex H.out.symm (hI (grown_tr X.out s.out))⟩
   | true =>
    have M := hI (show j = .ok T (k1 + 1) by rw [q.out, hc]; rfl); have N := hI (pWantY W.out (by omega) ⟨#[41]⟩ (by rw [show kwP (⟨#[41]⟩ : ByteArray).data.toList = false by decide]; exact hc)); clear hc q
    go_wp2_with fail
    refine N.out.mono ?_
    rintro e w5 ⟨rfl, s, ak⟩; have O := hI ((((R.out.belowW i.out).grown y.out E.out).belowW z.out).grown s.out E.out); obtain ⟨a0, b0, a1, b1, a2, b2, a3, b3, a4, b4, a5, b5⟩ := (E4.out.grown s.out ai.out).all6; obtain ⟨r0, h0, r1, h1, S, h2, r3, h3, r4, h4, r5, h5⟩ := O.out.all6
    go_wp2_with fail
    rw [pst6 O.out]; obtain ⟨z0, _, z1, _, z2, _, z3, _, z4, _, z5, _⟩ := (O.out.put #[.int .i64 v.h.kind, .int .i64 v.h.n, .int .i64 v.h.d, .string v.h.name, .int .i64 v.h.k, .slice v.A v.len v.cap]).all6
    refine bodyPost_ret (v := .agg #[.int .i64 v.h.kind, .int .i64 v.h.n, .int .i64 v.h.d, .string v.h.name, .int .i64 v.h.k, .slice v.A v.len v.cap]) (by simp [results, Tryz.results176, go_sem, z0, z1, z2, z3, z4, z5]) rfl ?_
    rw [M.out]
    exact ⟨v, rfl, hI ((((af.out.belowW z.out).mv aj s.out).far L _ _).weaken (Nat.le_of_lt L)), hI (grown_new (grown_tr X.out s.out) (Nat.le_refl _) _ _), hI (ak.out.far Z aa _ _)⟩
end Go.Proofs.YtkjoohnndobjeaaGreatDoor
namespace Go.Proofs.YtkjoohnndobjeaaGreatDoor
open Go.RowKit Go.Fl Go.Fl.Lx Go.Fl.Nm Go.Fl.Fm Go.Fl.Rt Go.Fl.Pa
theorem quotP_small {ts : List Tok} {k k1 : Nat} {a : Int × Int} (h : quotP ts k = .ok a k1) : -4611686018427387904 ≤ a.1 ∧ a.1 ≤ 4611686018427387904 ∧ -4611686018427387904 ≤ a.2 ∧ a.2 ≤ 4611686018427387904 := by
 unfold quotP at h
 cases hn : numP ts k with
 | ok b k2 =>
  rw [hn] at h
  simp only [PR.bind] at h
  split at h
  ·
   exact (unex_ok h).elim
  split at h
  ·
   exact (fail_ok h).elim
  split at h
  ·
   exact (fail_ok h).elim
  have hm := make_small b.1 (read1 (tk ts (k2 + 1)).text).1
  injection h with h1 h2
  rw [← h1]
  exact ⟨hm.1, hm.2.1, hm.2.2.1, hm.2.2.2.1⟩
 | bad l c e => rw [hn] at h; cases h
 | out => rw [hn] at h; cases h
theorem numP_small2 {ts : List Tok} {k k1 : Nat} {a : Int × Int} (h : numP ts k = .ok a k1) : -4611686018427387904 ≤ a.1 ∧ a.1 ≤ 4611686018427387904 ∧ -4611686018427387904 ≤ a.2 ∧ a.2 ≤ 4611686018427387904 := by
 have h0 := numP_small h
 unfold numP at h
 split at h
 ·
  exact (unex_ok h).elim
 split at h
 ·
  exact (fail_ok h).elim
 have hs := read1_small (tk ts (k + signP ts k)).text
 injection h with h1 h2
 rw [← h1] at h0 ⊢
 exact ⟨h0.1, h0.2, hs.2.2.1, hs.2.2.2.1⟩
theorem hd_num {a : Int × Int} (h : -4611686018427387904 ≤ a.1 ∧ a.1 ≤ 4611686018427387904 ∧ -4611686018427387904 ≤ a.2 ∧ a.2 ≤ 4611686018427387904) : HdOk ⟨1, a.1, a.2, ⟨#[]⟩, 0⟩ := by
 refine ⟨?_, ?_, ?_, ?_, ?_, ?_, ?_, ?_, Nat.zero_le _⟩ <;> simp only <;> omega
/-- What the beginning of a term comes to, with what a factor comes to. -/
def firstR (ts : List Tok) (k : Nat) (r : PR TE) : PR TE := if fracP ts k && !isS false ts (k + signP ts k + 3) [94] then (quotP ts k).map numE else r
theorem firstP_eq (nm : List UInt8 → Bool) (ts : List Tok) (f k m : Nat) : firstP nm ts (f + 1) k m = firstR ts k (factorP nm ts f k m) := by
 rw [firstP.eq_def]
 rfl

theorem pFirst {w0 w : World} {g : Nat} {A : Option Addr} {len cap : Nat} {ts : List Tok} {k m : Nat} (h : Env w0 g A len cap ts k m w) (hk : k ≤ 110000) (hR : RX w0) (r : PR TE) (hr : r ≠ .out)
 (KF : ∀ w', Env w0 g A len cap ts k m w' → Calls Tryz.prog 126 #[.pointer (some ⟨g, 0, none⟩)] w' (ExR w0 g A len cap ts m r w')) :
 Calls Tryz.prog 125 #[.pointer (some ⟨g, 0, none⟩)] w (ExR w0 g A len cap ts m (firstR ts k r) w) := by
 obtain ⟨o, P⟩ := eX (firstR ts k r)
 have F := hI P
 have ac := hI KF
 rw [← P]
 clear KF P
 go_enter Tryz.func125, Tryz.ntmps125
 go_upto_region 1 with (fail)
 obtain ⟨q, ad, O1, Q⟩ := aX w 29 #[.int .i64 0, .int .i64 0, .int .i64 0, .string ⟨#[]⟩, .int .i64 0, .slice none 0 0]
 rw [← ad]
 clear ad
 have G := hI (show some w.heap.size ≠ some g from fun e => by have := h.gl; injection e with e; omega)
 have R : w.heap.size ≠ g := fun e => G.out (by rw [e])
 have S : w0.heap.size ≤ w.heap.size := h.b.size
 have a7 : g < w.heap.size := h.gl
 have u := hI (h.belowW O1.out)
 have af := hI (grown_of (some g) O1.out)
 have a8 : w.heap.size < q.heap.size := Q.out.lt
 clear h
 have H := hI (pFraction u.out (by omega))
 cases hb : fracP ts k with
 | false =>
  have i := hI (show o = r by rw [F.out]; unfold firstR; rw [hb]; rfl); rw [hb] at H; clear hb F
  go_wp2_with fail
  refine H.out.mono ?_
  rintro e w2 ⟨rfl, U⟩; have ag := u.out.b9 U; have F2 := Q.out.b9 U; have ai := hI (grown_tr af.out (grown_of (some g) U.out)); have x := hI (ac.out w2 ag.out); have a1 : g < w2.heap.size := ag.out.gl; have p : w.heap.size < w2.heap.size := F2.out.lt
  cases r with
  | out => exact (hr rfl).elim
  | bad ln co er =>
   go_wp2_with fail
   refine x.out.mono ?_
   rintro e w7 ⟨rfl, j⟩
   go_wp2_with fail
   rw [i.out]
   exact ⟨rfl, exr_bad (hI (grown_tr ai.out j.out))⟩
  | ok T k1 =>
   go_wp2_with fail
   refine x.out.mono ?_
   rintro e w7 ⟨v, rfl, V, j, W⟩; have l := hI (F2.out.grown j.out G.out); obtain ⟨r0, h0, r1, h1, r2, h2, r3, h3, r4, h4, r5, h5⟩ := l.out.all6
   go_wp2_with fail
   rw [pst6 l.out]; obtain ⟨y, _, z, _, B, _, C, _, D, _, E, _⟩ := (l.out.put #[.int .i64 v.h.kind, .int .i64 v.h.n, .int .i64 v.h.d, .string v.h.name, .int .i64 v.h.k, .slice v.A v.len v.cap]).all6
   refine bodyPost_ret (v := .agg #[.int .i64 v.h.kind, .int .i64 v.h.n, .int .i64 v.h.d, .string v.h.name, .int .i64 v.h.k, .slice v.A v.len v.cap]) (by simp [results, Tryz.results125, go_sem, y, z, B, C, D, E]) rfl ?_
   rw [i.out]
   exact ⟨v, rfl, hI ((V.out.far p _ _).weaken (Nat.le_of_lt p)), hI (grown_new (grown_tr ai.out j.out) (Nat.le_refl _) _ _), hI (W.out.far R S _ _)⟩
 | true =>
  rw [hb] at H; have hs := signP_le ts k; obtain ⟨s, X⟩ := eX (signP ts k); have e1 : IntKind.i64.wrap ((s : Int) + 3) = (s : Int) + 3 := (by rw [IntKind.wrap_i64]; omega)
  obtain ⟨c, hc⟩ : ∃ c, isS false ts (k + (s + 3)) [94] = c := ⟨_, rfl⟩
  have I := hI (show o = if (!c) = true then (quotP ts k).map numE else r by
   rw [F.out]
   unfold firstR
   rw [hb, ← X, Nat.add_assoc, hc]
   rfl)
  have KS := hI (fun (w2 : World) (hb : Below q.heap.size q w2) => pSign (u.out.belowW hb)); have KU := hI (fun (w2 : World) (hb : Below q.heap.size q w2) => pIs (u.out.belowW hb) (s + 3) (by omega) ⟨#[94]⟩); rw [show kwP (⟨#[94]⟩ : ByteArray).data.toList = false by decide, show (⟨#[94]⟩ : ByteArray).data.toList = [94] from rfl, hc] at KU; rw [← X] at KS hs; clear hb F X hc
  go_wp2_with fail
  refine H.out.mono ?_
  rintro e w2 ⟨rfl, az⟩
  go_wp2_with fail
  refine (KS.out w2 az.out).mono ?_
  rintro e w3 ⟨rfl, a3⟩; have a0 := az.out.t a3
  go_wp2_with fail
  refine (KU.out w3 a0.out).mono ?_
  rintro e w4 ⟨rfl, a4⟩; have Y := a0.out.t a4; have Z := u.out.b9 Y; have J := Q.out.b9 Y; have L := hI (grown_tr af.out (grown_of (some g) Y.out))
  cases c with
  | true =>
   have i := hI (show o = r by rw [I.out]; rfl); clear I; have x := hI (ac.out w4 Z.out); have a1 : g < w4.heap.size := Z.out.gl; have p : w.heap.size < w4.heap.size := J.out.lt
   cases r with
   | out => exact (hr rfl).elim
   | bad ln co er =>
    go_wp2_with fail
    refine x.out.mono ?_
    rintro e w7 ⟨rfl, j⟩
    go_wp2_with fail
    rw [i.out]
    exact ⟨rfl, exr_bad (hI (grown_tr L.out j.out))⟩
   | ok T k1 =>
    go_wp2_with fail
    refine x.out.mono ?_
    rintro e w7 ⟨v, rfl, V, j, W⟩; have l := hI (J.out.grown j.out G.out); obtain ⟨r0, h0, r1, h1, r2, h2, r3, h3, r4, h4, r5, h5⟩ := l.out.all6
    go_wp2_with fail
    rw [pst6 l.out]; obtain ⟨y, _, z, _, B, _, C, _, D, _, E, _⟩ := (l.out.put #[.int .i64 v.h.kind, .int .i64 v.h.n, .int .i64 v.h.d, .string v.h.name, .int .i64 v.h.k, .slice v.A v.len v.cap]).all6
    refine bodyPost_ret (v := .agg #[.int .i64 v.h.kind, .int .i64 v.h.n, .int .i64 v.h.d, .string v.h.name, .int .i64 v.h.k, .slice v.A v.len v.cap]) (by simp [results, Tryz.results125, go_sem, y, z, B, C, D, E]) rfl ?_
    rw [i.out]
    exact ⟨v, rfl, hI ((V.out.far p _ _).weaken (Nat.le_of_lt p)), hI (grown_new (grown_tr L.out j.out) (Nat.le_refl _) _ _), hI (W.out.far R S _ _)⟩
  | false =>
   have M := hI (show o = (quotP ts k).map numE by rw [I.out]; rfl); clear I; have N := hI (pQuotient Z.out (by omega) hR); have p : w.heap.size < w4.heap.size := J.out.lt
   cases hq : quotP ts k with
   | out => exact (quotP_out hq).elim
   | bad ln co er =>
    have i := hI (show o = .bad ln co er by rw [M.out, hq]; rfl); rw [hq] at N; clear hq M
    go_wp2_with fail
    refine N.out.mono ?_
    rintro e w5 ⟨rfl, O⟩
    go_wp2_with fail
    rw [i.out]
    exact ⟨rfl, exr_bad (hI (grown_tr L.out O.out))⟩
   | ok a k1 =>
    have i := hI (show o = .ok (numE a) k1 by rw [M.out, hq]; rfl); have a5 := hd_num (quotP_small hq); rw [hq] at N; clear hq M; obtain ⟨n, d⟩ := a
    go_wp2_with fail
    refine N.out.mono ?_
    rintro e w5 ⟨rfl, O, a6⟩
    go_wp2_with fail
    refine (pNum (n, d) w5).mono ?_
    rintro e w6 ⟨rfl, aa⟩; have F6 := hI ((J.out.grown O.out G.out).belowW aa.out); simp only [ndR, Nd.val]; obtain ⟨r0, h0, r1, h1, r2, h2, r3, h3, r4, h4, r5, h5⟩ := F6.out.all6
    go_wp2_with fail
    rw [pst6 F6.out]; obtain ⟨y, _, z, _, B, _, C, _, D, _, E, _⟩ := (F6.out.put #[.int .i64 1, .int .i64 n, .int .i64 d, .string ⟨#[]⟩, .int .i64 0, .slice none 0 0]).all6
    refine bodyPost_ret (v := .agg #[.int .i64 1, .int .i64 n, .int .i64 d, .string ⟨#[]⟩, .int .i64 0, .slice none 0 0]) (by simp [results, Tryz.results125, go_sem, y, z, B, C, D, E]) rfl ?_
    rw [i.out]
    exact ⟨ndR (n, d), rfl, hI (inx_leaf _ _ _ a5), hI (grown_new (grown_tr L.out (grown_tr O.out (grown_of (some g) aa.out))) (Nat.le_refl _) _ _), hI ((a6.out.belowW aa.out).far R S _ _)⟩
end Go.Proofs.YtkjoohnndobjeaaGreatDoor
namespace Go.Proofs.YtkjoohnndobjeaaGreatDoor
open Go.RowKit Go.Fl Go.Fl.Lx Go.Fl.Nm Go.Fl.Fm Go.Fl.Rt Go.Fl.Pa
/-- The map of the functions' kinds, as it lies. -/
structure FxAt (w : World) (bm : Nat) (es : Array MapEntry) (clock : Nat) : Prop where
  cell : w.cell? ⟨1, 0, none⟩ = some (.map (some bm))
  gl : 1 < w.heap.size
  heap : w.heap[bm]? = some (.map es clock)
theorem FxAt.lt {w : World} {bm : Nat} {es : Array MapEntry} {clock : Nat} (h : FxAt w bm es clock) : bm < w.heap.size := (Array.getElem?_eq_some_iff.1 h.heap).1
theorem FxAt.belowW {w w' : World} {bm : Nat} {es : Array MapEntry} {clock : Nat} (h : FxAt w bm es clock) (hb : Below w.heap.size w w') : FxAt w' bm es clock :=
 ⟨by have h1 := h.cell; unfold World.cell? at h1 ⊢; rw [hb.block _ h.gl]; exact h1, Nat.lt_of_lt_of_le h.gl hb.size, (hb.block _ h.lt).trans h.heap⟩
theorem FxAt.b9 {w w' : World} {bm : Nat} {es : Array MapEntry} {clock : Nat} (h : FxAt w bm es clock) (hb : Go.RowKit.Hid (Go.RowKit.Below w.heap.size w w')) : Go.RowKit.Hid (FxAt w' bm es clock) := hI (FxAt.belowW h hb.out)
/-- What the map's entries answer. -/
def FxLook (bm : Nat) (es : Array MapEntry) (clock : Nat) : Prop := ∀ (w : World) (l : List UInt8), l.length ≤ 100 → w.heap[bm]? = some (.map es clock) →
  (Instr.lookup 142 (.map (some bm)) (.string ⟨l.toArray⟩) false).run Tryz.prog w = .ok (.int .i64 (funK l)) w
def FX (w : World) : Prop := ∃ bm es clock, FxAt w bm es clock ∧ FxLook bm es clock
/-- What a name comes to. -/
def nameR (ts : List Tok) (k : Nat) : PR (List UInt8) := if (tk ts k).kind = 1 ∧ nameP (tk ts k).text = true then .ok (tk ts k).text (k + 1) else unex ts k
/-- What a rule for names answers. -/
def StP (w0 : World) (g : Nat) (A : Option Addr) (len cap : Nat) (ts : List Tok) (m : Nat) (r : PR (List UInt8)) (w : World) (e : Ending) (w' : World) : Prop :=
  match r with
  | .ok s k1 => e = .returned (.string ⟨s.toArray⟩) ∧ Hid (w.grownBy w' (some g)) ∧ Hid (Env w0 g A len cap ts k1 m w')
  | .bad ln co er => e = pan ln co er ∧ Hid (w.grownBy w' (some g))
  | .out => False
theorem stp_unex {w0 : World} {g : Nat} {A : Option Addr} {len cap : Nat} {ts : List Tok} {m k : Nat} {w w' : World} {e : Ending} (he : e = panU ts k) (hg : Hid (w.grownBy w' (some g))) : StP w0 g A len cap ts m (unex ts k) w e w' := by
 unfold unex failP
 unfold panU at he
 split
 ·
  rename_i h
  rw [if_pos h] at he
  exact ⟨he, hg⟩
 rename_i h
 rw [if_neg h] at he
 exact ⟨he, hg⟩
theorem nameP_len {l : List UInt8} (h : nameP l = true) : l.length ≤ 20 := by
 unfold nameP at h
 rw [Bool.and_eq_true, Bool.and_eq_true] at h
 exact of_decide_eq_true h.1.2

theorem pName {w0 w : World} {g : Nat} {A : Option Addr} {len cap : Nat} {ts : List Tok} {k m : Nat} (h : Env w0 g A len cap ts k m w) (hk : k ≤ 110000) : Calls Tryz.prog 142 #[.pointer (some ⟨g, 0, none⟩)] w (StP w0 g A len cap ts m (nameR ts k) w) := by
 have H := hI h
 have s := hI (h.tok 0 (by omega))
 rw [Nat.add_zero] at s
 have u : ((⟨(tk ts k).text.toArray⟩ : ByteArray)).size ≤ maxLen := Nat.le_trans (show (tk ts k).text.toArray.size ≤ 100 by rw [List.size_toArray]; exact (h.t.tk k).1) (by decide)
 have j := hI (show nameR ts k = if (tk ts k).kind = 1 ∧ nameP (tk ts k).text = true then .ok (tk ts k).text (k + 1) else unex ts k from rfl)
 obtain ⟨l, I⟩ := eX (nameR ts k)
 rw [← I] at j ⊢
 obtain ⟨T, J⟩ := eX (tk ts k)
 rw [← J] at s j u
 obtain ⟨c, hc⟩ : ∃ b, ((T.kind : Int) == 1) = b := ⟨_, rfl⟩
 obtain ⟨n, v⟩ : ∃ b, nameP T.text = b := ⟨_, rfl⟩
 have x : (T.kind = 1) ↔ c = true := by rw [← hc, beq_iff_eq]; omega
 have a := hI (show l = if c = true ∧ n = true then .ok T.text (k + 1) else unex ts k by rw [j.out, v]; exact ite_congr (propext ⟨fun h => ⟨x.1 h.1, h.2⟩, fun h => ⟨x.2 h.1, h.2⟩⟩) (fun _ => rfl) (fun _ => rfl))
 have y := hI (fun w' => name_any ⟨T.text.toArray⟩ w' u)
 have L : (⟨T.text.toArray⟩ : ByteArray).data.toList = T.text := rfl
 rw [L, v] at y
 clear h I j J v x L u
 go_enter Tryz.func142, Tryz.ntmps142
 go_wp2_with fail
 refine s.out.mono ?_
 rintro e w1 ⟨rfl, z⟩
 go_upto_region 2 with (fail)
 obtain ⟨o, M, N, B⟩ := aX w1 58 #[.int .i64 T.kind, .string ⟨T.text.toArray⟩, .int .i64 T.line, .int .i64 T.col]
 rw [← M]
 clear M
 have C := hI (grown_tr (grown_of (some g) z.out) (grown_of (some g) N.out))
 have q := hI ((H.out.belowW z.out).belowW N.out)
 have O := B.out.cell 0
 have r := B.out.cell 1
 simp only [List.getElem?_toArray, List.getElem?_cons_zero, List.getElem?_cons_succ] at O r
 cases c with
 | false =>
  have d := hI (show l = unex ts k by rw [a.out, if_neg (fun h => by cases h.1)]); clear a; have V : ((T.kind : Int) != 1) = true := (by rw [bne, hc]; rfl)
  go_wp2_with fail
  refine q.out.unx.mono ?_
  rintro e w9 ⟨i, D⟩; obtain ⟨c, hc⟩ := panU_pan ts k; have E := hI hc; rw [hc] at i; subst i; clear hc
  go_wp2_with fail
  rw [d.out]
  exact ⟨rfl, stp_unex E.out.symm (hI (grown_tr C.out (grown_of _ D.out)))⟩
 | true =>
  have V : ((T.kind : Int) != 1) = false := by rw [bne, hc]; rfl
  cases n with
  | false =>
   have d := hI (show l = unex ts k by rw [a.out, if_neg (fun h => by cases h.2)]); clear a
   go_wp2_with fail
   refine (y.out _).mono ?_
   rintro e F ⟨rfl, rfl⟩
   go_wp2_with fail
   refine q.out.unx.mono ?_
   rintro e w9 ⟨i, D⟩; obtain ⟨c, hc⟩ := panU_pan ts k; have E := hI hc; rw [hc] at i; subst i; clear hc
   go_wp2_with fail
   rw [d.out]
   exact ⟨rfl, stp_unex E.out.symm (hI (grown_tr C.out (grown_of _ D.out)))⟩
  | true =>
   have d := hI (show l = .ok T.text (k + 1) by rw [a.out, if_pos ⟨rfl, rfl⟩]); clear a; have e1 : IntKind.i64.wrap ((k : Int) + 1) = (k : Int) + 1 := (by rw [IntKind.wrap_i64]; omega)
   go_wp2_with fail
   refine (y.out _).mono ?_
   rintro e F ⟨rfl, rfl⟩; have P := hI (show Blk o g 140 #[.slice A len cap, .int .i64 (k : Nat), .int .i64 (m : Nat)] from q.out.p); obtain ⟨W, X, Y, Z, p2, f2⟩ := P.out.all3
   go_upto_region 5 with (fail)
   rw [P.out.setCell_eq]; have ac := hI (show w1.heap.size ≠ g from fun e => by have := (H.out.belowW z.out).gl; omega); have Q := hI (q.out.put (k + 1) m (by omega)); have R := hI (B.out.far (t' := 140) ac.out #[.slice A len cap, .int .i64 ((k + 1 : Nat) : Int), .int .i64 (m : Nat)]); have S := hI (putB_grown o g 140 #[.slice A len cap, .int .i64 ((k + 1 : Nat) : Int), .int .i64 (m : Nat)]); obtain ⟨F, G⟩ := eX (putB o g 140 #[.slice A len cap, .int .i64 ((k + 1 : Nat) : Int), .int .i64 (m : Nat)]); have U : putB o g 140 ((#[.slice A len cap, .int .i64 (k : Nat), .int .i64 (m : Nat)] : Array Value).setIfInBounds 1 (.int .i64 ((k : Int) + 1))) = F := (by rw [G]; rfl); rw [← G] at Q R S; rw [U]; clear G U W X Y Z p2 f2 O r; have r := R.out.cell 1; simp only [List.getElem?_toArray, List.getElem?_cons_zero, List.getElem?_cons_succ] at r
   go_wp2_with fail
   go_ret
   rw [d.out]
   exact ⟨rfl, hI (grown_tr C.out S.out), Q⟩
end Go.Proofs.YtkjoohnndobjeaaGreatDoor
