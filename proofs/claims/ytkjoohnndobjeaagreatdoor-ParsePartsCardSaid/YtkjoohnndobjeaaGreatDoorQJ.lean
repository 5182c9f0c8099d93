/-
 Expressions that the parser has made, and the walk of the parser's step into a nesting.
 The walks of the parser's sums in parentheses, and of the beginning of a term.
 The walk of the beginning of a term.
 The walk of the parser's names; the map of the functions.
-/
import Derived.Test.YtkjoohnndobjeaaGreatDoorQI
set_option linter.unusedVariables false
set_option maxHeartbeats 4000000
set_option maxRecDepth 100000
namespace Go.Proofs.YtkjoohnndobjeaaGreatDoor
open Go.RowKit Go.Fl Go.Fl.Lx Go.Fl.Nm Go.Fl.Fm Go.Fl.Rt Go.Fl.Pa
/-- An expression lies at a node, all of it in blocks that P allows. -/
inductive InA (P : Nat → Prop) (w : World) : TE → Nd → Prop where
 | mk (h : Hd) (l : List TE) (A : Option Addr) (len cap : Nat) (vs : List Nd) (ok : HdOk h) (hl : l.length = len) (hc : len ≤ cap) (hm : cap ≤ maxLen) (hv : vs.length = len) (hr : Rd w 6 A len (ndsCells vs)) (hg : 0 < len → ∀ b o, A = some ⟨b, o, none⟩ → P b)
  (hi : ∀ (i : Nat) T v, l[i]? = some T → vs[i]? = some v → InA P w T v) : InA P w (.mk h l) ⟨h, A, len, cap⟩
theorem InA.toE {P : Nat → Prop} {w : World} {T : TE} {v : Nd} (h : InA P w T v) : InE w T v := by
 induction h with
 | mk h l A len cap vs ok hl hc hm hv hr hg hi ih => exact .mk h l A len cap vs ok hl hc hm hv hr ih
theorem InA.mv {P : Nat → Prop} {g : Nat} {w w' : World} {T : TE} {v : Nd} (h : InA P w T v) (hgP : ¬ P g) (hb : w.grownBy w' (some g)) : InA P w' T v := by
 induction h with
 | mk h l A len cap vs ok hl hc hm hv hr hg hi ih =>
  refine .mk h l A len cap vs ok hl hc hm hv ⟨hr.1, fun hn => ?_⟩ hg ih
  obtain ⟨b, off, hA, hlt, hcell⟩ := hr.2 hn
  refine ⟨b, off, hA, Nat.lt_of_lt_of_le hlt hb.size, fun j u hu => ?_⟩
  have h1 := hcell j u hu
  have h2 := hb.block b hlt (fun e => by have := hg hn b off hA; injection e with e; rw [e] at this; exact hgP this)
  unfold World.cell? at h1 ⊢
  rw [h2]
  exact h1
theorem InA.belowW {P : Nat → Prop} {w w' : World} {T : TE} {v : Nd} (h : InA P w T v) (hb : Below w.heap.size w w') : InA P w' T v := by
 induction h with
 | mk h l A len cap vs ok hl hc hm hv hr hg hi ih => exact .mk h l A len cap vs ok hl hc hm hv (hr.below hb) hg ih
theorem InA.far {P : Nat → Prop} {r : Nat} {w : World} {T : TE} {v : Nd} (h : InA P w T v) (hr : ¬ P r) (t : TypeId) (V : Array Value) : InA P (putB w r t V) T v := h.mv hr (putB_grown w r t V)
theorem InA.weaken {P Q : Nat → Prop} {w : World} {T : TE} {v : Nd} (h : InA P w T v) (hC : ∀ b, P b → Q b) : InA Q w T v := by
 induction h with
 | mk h l A len cap vs ok hl hc hm hv hr hg hi ih => exact .mk h l A len cap vs ok hl hc hm hv hr (fun hn b o e => hC b (hg hn b o e)) ih
theorem InA.lt {P : Nat → Prop} {w : World} {T : TE} {v : Nd} (h : InA P w T v) : InA (fun b => P b ∧ b < w.heap.size) w T v := by
 induction h with
 | mk h l A len cap vs ok hl hc hm hv hr hg hi ih =>
  refine .mk h l A len cap vs ok hl hc hm hv hr (fun hn b o e => ⟨hg hn b o e, ?_⟩) ih
  obtain ⟨b', off, hA, hlt, _⟩ := hr.2 hn
  rw [e] at hA
  injection hA with hA
  injection hA with hA
  rw [hA]
  exact hlt
theorem InA.ok {P : Nat → Prop} {w : World} {T : TE} {v : Nd} (h : InA P w T v) : HdOk v.h := h.toE.ok
theorem ina_leaf (P : Nat → Prop) (w : World) (h : Hd) (ok : HdOk h) : InA P w (.mk h []) ⟨h, none, 0, 0⟩ :=
 .mk h [] none 0 0 [] ok rfl (Nat.le_refl _) (Nat.zero_le _) rfl (Rd.none_ _ _) (fun hn => absurd hn (Nat.lt_irrefl 0)) (fun i T v h => by cases h)
theorem ina_new1 {P : Nat → Prop} (w : World) (hd : Hd) (ok : HdOk hd) (a : TE) (x : Nd) (t : TypeId) (hB : P w.heap.size) (ha : InA P w a x) :
    InA P (w.alloc (.cells x.cells.toArray t)) (.mk hd [a]) ⟨hd, some ⟨w.heap.size, 0, none⟩, 1, 1⟩ :=
  .mk _ [a] _ 1 1 [x] ok rfl (Nat.le_refl _) (by decide) rfl
    (by
      refine ⟨rfl, fun _ => ⟨w.heap.size, 0, rfl, by simp, fun j u hu => ?_⟩⟩
      have h := (Blk.new w t x.cells.toArray).cell j
      rw [Nat.zero_add, h, List.getElem?_toArray]
      have e : ndsCells [x] = x.cells := by show x.cells ++ [] = _; rw [List.append_nil]
      rw [e] at hu
      exact hu)
    (fun _ b o e => by injection e with e; injection e with e; rw [← e]; exact hB)
    (fun i T v h1 h2 => by
      match i with
      | 0 => injection h1 with h1; injection h2 with h2; subst h1 h2; exact ha.belowW (below_box w _)
      | i + 1 => cases h1)
theorem ina_new2 {P : Nat → Prop} (w : World) (hd : Hd) (ok : HdOk hd) (a b : TE) (x y : Nd) (t : TypeId) (hB : P w.heap.size) (ha : InA P w a x) (hb : InA P w b y) :
    InA P (w.alloc (.cells (x.cells ++ y.cells).toArray t)) (.mk hd [a, b]) ⟨hd, some ⟨w.heap.size, 0, none⟩, 2, 2⟩ :=
  .mk _ [a, b] _ 2 2 [x, y] ok rfl (Nat.le_refl _) (by decide) rfl
    (by
      refine ⟨rfl, fun _ => ⟨w.heap.size, 0, rfl, by simp, fun j u hu => ?_⟩⟩
      have h := (Blk.new w t (x.cells ++ y.cells).toArray).cell j
      rw [Nat.zero_add, h, List.getElem?_toArray]
      exact hu)
    (fun _ b o e => by injection e with e; injection e with e; rw [← e]; exact hB)
    (fun i T v h1 h2 => by
      match i with
      | 0 => injection h1 with h1; injection h2 with h2; subst h1 h2; exact ha.belowW (below_box w _)
      | 1 => injection h1 with h1; injection h2 with h2; subst h1 h2; exact hb.belowW (below_box w _)
      | i + 2 => cases h1)
/-- An expression lies at a node, all of it from block B on. -/
def InX (B : Nat) (w : World) (T : TE) (v : Nd) : Prop := InA (fun b => B ≤ b) w T v
theorem InX.toE {B : Nat} {w : World} {T : TE} {v : Nd} (h : InX B w T v) : InE w T v := InA.toE h
theorem InX.mv {B g : Nat} {w w' : World} {T : TE} {v : Nd} (h : InX B w T v) (hgB : g < B) (hb : w.grownBy w' (some g)) : InX B w' T v := InA.mv h (fun e => absurd hgB (Nat.not_lt_of_le e)) hb
theorem InX.belowW {B : Nat} {w w' : World} {T : TE} {v : Nd} (h : InX B w T v) (hb : Below w.heap.size w w') : InX B w' T v := InA.belowW h hb
theorem InX.far {B r : Nat} {w : World} {T : TE} {v : Nd} (h : InX B w T v) (hr : r < B) (t : TypeId) (V : Array Value) : InX B (putB w r t V) T v := h.mv hr (putB_grown w r t V)
theorem InX.weaken {B C : Nat} {w : World} {T : TE} {v : Nd} (h : InX B w T v) (hC : C ≤ B) : InX C w T v := InA.weaken h (fun b hb => Nat.le_trans hC hb)
theorem InX.ok {B : Nat} {w : World} {T : TE} {v : Nd} (h : InX B w T v) : HdOk v.h := h.toE.ok
/-- A number, a variable: nodes without elements. -/
theorem inx_leaf (B : Nat) (w : World) (h : Hd) (ok : HdOk h) : InX B w (.mk h []) ⟨h, none, 0, 0⟩ := ina_leaf _ w h ok
theorem inx_new1 {B : Nat} (w : World) (hd : Hd) (ok : HdOk hd) (a : TE) (x : Nd) (t : TypeId) (hB : B ≤ w.heap.size) (ha : InX B w a x) :
 InX B (w.alloc (.cells x.cells.toArray t)) (.mk hd [a]) ⟨hd, some ⟨w.heap.size, 0, none⟩, 1, 1⟩ := ina_new1 w hd ok a x t hB ha
/-- What a rule for expressions answers. -/
def ExR (w0 : World) (g : Nat) (A : Option Addr) (len cap : Nat) (ts : List Tok) (m : Nat) (r : PR TE) (w : World) (e : Ending) (w' : World) : Prop :=
 match r with
 | .ok T k1 => ∃ v : Nd, e = .returned v.val ∧ Hid (InX w.heap.size w' T v) ∧ Hid (w.grownBy w' (some g)) ∧ Hid (Env w0 g A len cap ts k1 m w')
 | .bad ln co er => e = pan ln co er ∧ Hid (w.grownBy w' (some g))
 | .out => True
section
variable {w0 : World} {g : Nat} {A : Option Addr} {len cap : Nat} {ts : List Tok} {m : Nat}
theorem exr_bad {ln co er : Nat} {w w' : World} (hg : Hid (w.grownBy w' (some g))) : ExR w0 g A len cap ts m (.bad ln co er) w (pan ln co er) w' := ⟨rfl, hg⟩
theorem exr_unex {k : Nat} {w w' : World} {e : Ending} (he : e = panU ts k) (hg : Hid (w.grownBy w' (some g))) : ExR w0 g A len cap ts m (unex ts k) w e w' := by
 unfold unex failP
 unfold panU at he
 split
 ·
  rename_i h
  rw [if_pos h] at he
  exact ⟨he, hg⟩
 ·
  rename_i h
  rw [if_neg h] at he
  exact ⟨he, hg⟩
theorem exr_fail {k er : Nat} {w w' : World} (hg : Hid (w.grownBy w' (some g))) : ExR w0 g A len cap ts m (failP ts k er) w (pan (tk ts k).line (tk ts k).col er) w' := ⟨rfl, hg⟩
end

theorem deeper_factor {w0 w : World} {g : Nat} {A : Option Addr} {len cap : Nat} {ts : List Tok} {k m : Nat} (h : Env w0 g A len cap ts k m w) (hk : k ≤ 120000) (hm : m ≤ 100) (r : PR TE) (hr : r ≠ .out)
  (KF : m ≠ 100 → ∀ w', Env w0 g A len cap ts (k + 1) (m + 1) w' → Calls Tryz.prog 126 #[.pointer (some ⟨g, 0, none⟩)] w' (ExR w0 g A len cap ts (m + 1) r w')) :
  Calls Tryz.prog 157 #[.pointer (some ⟨g, 0, none⟩), .func (.func 126) #[.pointer (some ⟨g, 0, none⟩)] #[]] w (ExR w0 g A len cap ts m (if m = 100 then failP ts k 5 else r) w) := by
 have I := hI KF
 have ai := hI h
 obtain ⟨Q, J⟩ := eX ((if m = 100 then failP ts k 5 else r))
 have L := hI J
 rw [← J]
 clear KF J
 go_enter Tryz.func157, Tryz.ntmps157
 go_upto_region 1 with (fail)
 obtain ⟨a, u⟩ := eX (w.alloc (Obj.cells #[.int .i64 0, .int .i64 0, .int .i64 0, .string ⟨#[]⟩, .int .i64 0, .slice none 0 0] 29))
 have R := hI (show Below w.heap.size w a by rw [u]; exact below_box _ _)
 have F1 := hI (show Blk a w.heap.size 29 #[.int .i64 0, .int .i64 0, .int .i64 0, .string ⟨#[]⟩, .int .i64 0, .slice none 0 0] by rw [u]; exact Blk.new _ _ _)
 rw [← u]
 clear u
 have S := hI (show some w.heap.size ≠ some g from fun e => by have := h.gl; injection e with e; omega)
 have x : w.heap.size ≠ g := fun e => S.out (by rw [e])
 have ak : w0.heap.size ≤ w.heap.size := h.b.size
 have U := hI (h.belowW R.out)
 have V := hI (grown_of (some g) R.out)
 clear h
 have y := hI (show Blk a g 140 #[.slice A len cap, .int .i64 (k : Nat), .int .i64 (m : Nat)] from U.out.p)
 by_cases hmm : m = 100
 ·
  have z := hI (show Q = failP ts k 5 from L.out.trans (if_pos hmm))
  have d1 : ((m : Int) == 100) = true := by rw [hmm]; rfl
  have c : a.cell? ⟨g, 2, none⟩ = some (.int .i64 (m : Nat)) := y.out.cell 2
  clear hmm
  go_wp2_with fail
  refine (U.out.fail 5).mono ?_
  rintro e B ⟨rfl, HB⟩
  go_wp2_with fail
  rw [z.out]
  exact ⟨rfl, exr_fail (hI (grown_tr V.out (grown_of _ HB.out)))⟩
 have z := hI (show Q = r from L.out.trans (if_neg hmm))
 have d1 : ((m : Int) == 100) = false := by rw [beq_eq_false_iff_ne]; omega
 have I := hI (I.out hmm)
 clear hmm L
 have e1 : IntKind.i64.wrap ((k : Int) + 1) = (k : Int) + 1 := by rw [IntKind.wrap_i64]; omega
 have e2 : IntKind.i64.wrap ((m : Int) + 1) = (m : Int) + 1 := by rw [IntKind.wrap_i64]; omega
 have e3 : IntKind.i64.wrap ((m : Int) + 1 - 1) = (m : Int) := by rw [IntKind.wrap_i64]; omega
 obtain ⟨j, l, o, q, c, s⟩ := y.out.all3
 go_upto_region 4 with (fail)
 rw [y.out.setCell_eq]
 have C := hI (show Blk (putB a g 140 ((#[.slice A len cap, .int .i64 (k : Nat), .int .i64 (m : Nat)] : Array Value).setIfInBounds 1 (.int .i64 ((k : Int) + 1)))) g 140 #[.slice A len cap, .int .i64 ((k : Int) + 1), .int .i64 (m : Nat)] from y.out.put _)
 have W := hI (grown_tr V.out (putB_grown a g 140 ((#[.slice A len cap, .int .i64 (k : Nat), .int .i64 (m : Nat)] : Array Value).setIfInBounds 1 (.int .i64 ((k : Int) + 1)))))
 have X := hI (F1.out.far (t' := 140) x ((#[.slice A len cap, .int .i64 (k : Nat), .int .i64 (m : Nat)] : Array Value).setIfInBounds 1 (.int .i64 ((k : Int) + 1))))
 clear j l o q c s
 obtain ⟨B, Y⟩ := eX (putB a g 140 ((#[.slice A len cap, .int .i64 (k : Nat), .int .i64 (m : Nat)] : Array Value).setIfInBounds 1 (.int .i64 ((k : Int) + 1))))
 rw [← Y] at C W X ⊢
 clear Y
 obtain ⟨j, l, o, q, c, s⟩ := C.out.all3
 go_upto_region 5 with (fail)
 rw [C.out.setCell_eq]
 have Z := hI (show Blk (putB B g 140 ((#[.slice A len cap, .int .i64 ((k : Int) + 1), .int .i64 (m : Nat)] : Array Value).setIfInBounds 2 (.int .i64 ((m : Int) + 1)))) g 140 #[.slice A len cap, .int .i64 ((k : Int) + 1), .int .i64 ((m : Int) + 1)] from C.out.put _)
 have D := hI (grown_tr W.out (putB_grown B g 140 ((#[.slice A len cap, .int .i64 ((k : Int) + 1), .int .i64 (m : Nat)] : Array Value).setIfInBounds 2 (.int .i64 ((m : Int) + 1)))))
 have E := hI (X.out.far (t' := 140) x ((#[.slice A len cap, .int .i64 ((k : Int) + 1), .int .i64 (m : Nat)] : Array Value).setIfInBounds 2 (.int .i64 ((m : Int) + 1))))
 clear j l o q c s
 obtain ⟨w3, ab⟩ := eX (putB B g 140 ((#[.slice A len cap, .int .i64 ((k : Int) + 1), .int .i64 (m : Nat)] : Array Value).setIfInBounds 2 (.int .i64 ((m : Int) + 1))))
 rw [← ab] at Z D E ⊢
 clear ab
 have ac := hI (show Env w0 g A len cap ts (k + 1) (m + 1) w3 from ai.out.moved D.out Z.out (by omega))
 have KC := hI (I.out w3 ac.out)
 cases r with
 | out => exact (hr rfl).elim
 | bad ln co er =>
  go_wp2_with fail
  refine KC.out.mono ?_
  rintro e w4 ⟨rfl, HG4⟩
  go_wp2_with fail
  rw [z.out]
  exact ⟨rfl, exr_bad (hI (grown_tr D.out HG4.out))⟩
 | ok T k1 =>
  go_wp2_with fail
  refine KC.out.mono ?_
  rintro e w4 ⟨v, rfl, HX4, HG4, HV4⟩
  have M := hI (E.out.grown HG4.out S.out)
  have bc : w.heap.size ≤ w4.heap.size := Nat.le_of_lt M.out.lt
  go_upto_region 6 with (fail)
  obtain ⟨i, F⟩ := eX (w4.alloc (Obj.cells #[.int .i64 v.h.kind, .int .i64 v.h.n, .int .i64 v.h.d, .string v.h.name, .int .i64 v.h.k, .slice v.A v.len v.cap] 29))
  have G := hI (show Below w4.heap.size w4 i by rw [F]; exact below_box _ _)
  have E5 := hI (show Blk i w4.heap.size 29 #[.int .i64 v.h.kind, .int .i64 v.h.n, .int .i64 v.h.d, .string v.h.name, .int .i64 v.h.k, .slice v.A v.len v.cap] by rw [F]; exact Blk.new _ _ _)
  rw [← F]
  clear F
  have N := hI (HV4.out.belowW G.out)
  have an := hI (grown_tr D.out (grown_tr HG4.out (grown_of (some g) G.out)))
  have F5 := hI (M.out.belowW G.out)
  have ap := hI (HX4.out.belowW G.out)
  have aq : w4.heap.size ≠ g := Nat.ne_of_gt HV4.out.gl
  have bd : w.heap.size ≠ w4.heap.size := Nat.ne_of_lt M.out.lt
  have P5 := hI (show Blk i g 140 #[.slice A len cap, .int .i64 (k1 : Nat), .int .i64 ((m : Int) + 1)] from N.out.p)
  obtain ⟨j, l, o, q, c, s⟩ := P5.out.all3
  go_upto_region 7 with (fail)
  rw [P5.out.setCell_eq]
  have af := hI (N.out.put k1 m N.out.kk)
  have E6 := hI (E5.out.far (t' := 140) aq #[.slice A len cap, .int .i64 (k1 : Nat), .int .i64 (m : Nat)])
  have H := hI (F5.out.far (t' := 140) x #[.slice A len cap, .int .i64 (k1 : Nat), .int .i64 (m : Nat)])
  have O := hI (putB_grown i g 140 #[.slice A len cap, .int .i64 (k1 : Nat), .int .i64 (m : Nat)])
  clear j l o q c s
  obtain ⟨w6, P⟩ := eX (putB i g 140 #[.slice A len cap, .int .i64 (k1 : Nat), .int .i64 (m : Nat)])
  have ah : putB i g 140 ((#[.slice A len cap, .int .i64 (k1 : Nat), .int .i64 ((m : Int) + 1)] : Array Value).setIfInBounds 2 (.int .i64 (m : Nat))) = w6 := by rw [P]; rfl
  rw [← P] at af E6 H O
  rw [ah]
  clear P ah
  have au := hI (grown_tr an.out O.out)
  have av := hI (ap.out.mv ac.out.gl O.out)
  obtain ⟨a0, b0, a1, b1, a2, b2, a3, b3, a4, b4, a5, b5⟩ := E6.out.all6
  obtain ⟨r0, h0, r1, h1, r2, h2, r3, h3, r4, h4, r5, h5⟩ := H.out.all6
  go_wp2_with fail
  rw [pst6 H.out]
  have FZ := hI (H.out.put #[.int .i64 v.h.kind, .int .i64 v.h.n, .int .i64 v.h.d, .string v.h.name, .int .i64 v.h.k, .slice v.A v.len v.cap])
  obtain ⟨z0, _, z1, _, z2, _, z3, _, z4, _, z5, _⟩ := FZ.out.all6
  refine bodyPost_ret (v := .agg #[.int .i64 v.h.kind, .int .i64 v.h.n, .int .i64 v.h.d, .string v.h.name, .int .i64 v.h.k, .slice v.A v.len v.cap]) (by simp [results, Tryz.results157, go_sem, z0, z1, z2, z3, z4, z5]) rfl ?_
  rw [z.out]
  exact ⟨v, rfl, hI ((av.out.far E.out.lt _ _).weaken (Nat.le_of_lt E.out.lt)), hI (grown_new au.out (Nat.le_refl _) _ _), hI (af.out.far x ak _ _)⟩

theorem deeper_sum {w0 w : World} {g : Nat} {A : Option Addr} {len cap : Nat} {ts : List Tok} {k m : Nat} (h : Env w0 g A len cap ts k m w) (hk : k ≤ 120000) (hm : m ≤ 100) (r : PR TE) (hr : r ≠ .out)
  (KF : m ≠ 100 → ∀ w', Env w0 g A len cap ts (k + 1) (m + 1) w' → Calls Tryz.prog 48 #[.pointer (some ⟨g, 0, none⟩)] w' (ExR w0 g A len cap ts (m + 1) r w')) :
  Calls Tryz.prog 157 #[.pointer (some ⟨g, 0, none⟩), .func (.func 48) #[.pointer (some ⟨g, 0, none⟩)] #[]] w (ExR w0 g A len cap ts m (if m = 100 then failP ts k 5 else r) w) := by
 have I := hI KF
 have ai := hI h
 obtain ⟨Q, J⟩ := eX ((if m = 100 then failP ts k 5 else r))
 have L := hI J
 rw [← J]
 clear KF J
 go_enter Tryz.func157, Tryz.ntmps157
 go_upto_region 1 with (fail)
 obtain ⟨a, u⟩ := eX (w.alloc (Obj.cells #[.int .i64 0, .int .i64 0, .int .i64 0, .string ⟨#[]⟩, .int .i64 0, .slice none 0 0] 29))
 have R := hI (show Below w.heap.size w a by rw [u]; exact below_box _ _)
 have F1 := hI (show Blk a w.heap.size 29 #[.int .i64 0, .int .i64 0, .int .i64 0, .string ⟨#[]⟩, .int .i64 0, .slice none 0 0] by rw [u]; exact Blk.new _ _ _)
 rw [← u]
 clear u
 have S := hI (show some w.heap.size ≠ some g from fun e => by have := h.gl; injection e with e; omega)
 have x : w.heap.size ≠ g := fun e => S.out (by rw [e])
 have ak : w0.heap.size ≤ w.heap.size := h.b.size
 have U := hI (h.belowW R.out)
 have V := hI (grown_of (some g) R.out)
 clear h
 have y := hI (show Blk a g 140 #[.slice A len cap, .int .i64 (k : Nat), .int .i64 (m : Nat)] from U.out.p)
 by_cases hmm : m = 100
 ·
  have z := hI (show Q = failP ts k 5 from L.out.trans (if_pos hmm))
  have d1 : ((m : Int) == 100) = true := by rw [hmm]; rfl
  have c : a.cell? ⟨g, 2, none⟩ = some (.int .i64 (m : Nat)) := y.out.cell 2
  clear hmm
  go_wp2_with fail
  refine (U.out.fail 5).mono ?_
  rintro e B ⟨rfl, HB⟩
  go_wp2_with fail
  rw [z.out]
  exact ⟨rfl, exr_fail (hI (grown_tr V.out (grown_of _ HB.out)))⟩
 have z := hI (show Q = r from L.out.trans (if_neg hmm))
 have d1 : ((m : Int) == 100) = false := by rw [beq_eq_false_iff_ne]; omega
 have I := hI (I.out hmm)
 clear hmm L
 have e1 : IntKind.i64.wrap ((k : Int) + 1) = (k : Int) + 1 := by rw [IntKind.wrap_i64]; omega
 have e2 : IntKind.i64.wrap ((m : Int) + 1) = (m : Int) + 1 := by rw [IntKind.wrap_i64]; omega
 have e3 : IntKind.i64.wrap ((m : Int) + 1 - 1) = (m : Int) := by rw [IntKind.wrap_i64]; omega
 obtain ⟨j, l, o, q, c, s⟩ := y.out.all3
 go_upto_region 4 with (fail)
 rw [y.out.setCell_eq]
 have C := hI (show Blk (putB a g 140 ((#[.slice A len cap, .int .i64 (k : Nat), .int .i64 (m : Nat)] : Array Value).setIfInBounds 1 (.int .i64 ((k : Int) + 1)))) g 140 #[.slice A len cap, .int .i64 ((k : Int) + 1), .int .i64 (m : Nat)] from y.out.put _)
 have W := hI (grown_tr V.out (putB_grown a g 140 ((#[.slice A len cap, .int .i64 (k : Nat), .int .i64 (m : Nat)] : Array Value).setIfInBounds 1 (.int .i64 ((k : Int) + 1)))))
 have X := hI (F1.out.far (t' := 140) x ((#[.slice A len cap, .int .i64 (k : Nat), .int .i64 (m : Nat)] : Array Value).setIfInBounds 1 (.int .i64 ((k : Int) + 1))))
 clear j l o q c s
 obtain ⟨B, Y⟩ := eX (putB a g 140 ((#[.slice A len cap, .int .i64 (k : Nat), .int .i64 (m : Nat)] : Array Value).setIfInBounds 1 (.int .i64 ((k : Int) + 1))))
 rw [← Y] at C W X ⊢
 clear Y
 obtain ⟨j, l, o, q, c, s⟩ := C.out.all3
 go_upto_region 5 with (fail)
 rw [C.out.setCell_eq]
 have Z := hI (show Blk (putB B g 140 ((#[.slice A len cap, .int .i64 ((k : Int) + 1), .int .i64 (m : Nat)] : Array Value).setIfInBounds 2 (.int .i64 ((m : Int) + 1)))) g 140 #[.slice A len cap, .int .i64 ((k : Int) + 1), .int .i64 ((m : Int) + 1)] from C.out.put _)
 have D := hI (grown_tr W.out (putB_grown B g 140 ((#[.slice A len cap, .int .i64 ((k : Int) + 1), .int .i64 (m : Nat)] : Array Value).setIfInBounds 2 (.int .i64 ((m : Int) + 1)))))
 have E := hI (X.out.far (t' := 140) x ((#[.slice A len cap, .int .i64 ((k : Int) + 1), .int .i64 (m : Nat)] : Array Value).setIfInBounds 2 (.int .i64 ((m : Int) + 1))))
 clear j l o q c s
 obtain ⟨w3, ab⟩ := eX (putB B g 140 ((#[.slice A len cap, .int .i64 ((k : Int) + 1), .int .i64 (m : Nat)] : Array Value).setIfInBounds 2 (.int .i64 ((m : Int) + 1))))
 rw [← ab] at Z D E ⊢
 clear ab
 have ac := hI (show Env w0 g A len cap ts (k + 1) (m + 1) w3 from ai.out.moved D.out Z.out (by omega))
 have KC := hI (I.out w3 ac.out)
 cases r with
 | out => exact (hr rfl).elim
 | bad ln co er =>
  go_wp2_with fail
  refine KC.out.mono ?_
  rintro e w4 ⟨rfl, HG4⟩
  go_wp2_with fail
  rw [z.out]
  exact ⟨rfl, exr_bad (hI (grown_tr D.out HG4.out))⟩
 | ok T k1 =>
  go_wp2_with fail
  refine KC.out.mono ?_
  rintro e w4 ⟨v, rfl, HX4, HG4, HV4⟩
  have M := hI (E.out.grown HG4.out S.out)
  have bc : w.heap.size ≤ w4.heap.size := Nat.le_of_lt M.out.lt
  go_upto_region 6 with (fail)
  obtain ⟨i, F⟩ := eX (w4.alloc (Obj.cells #[.int .i64 v.h.kind, .int .i64 v.h.n, .int .i64 v.h.d, .string v.h.name, .int .i64 v.h.k, .slice v.A v.len v.cap] 29))
  have G := hI (show Below w4.heap.size w4 i by rw [F]; exact below_box _ _)
  have E5 := hI (show Blk i w4.heap.size 29 #[.int .i64 v.h.kind, .int .i64 v.h.n, .int .i64 v.h.d, .string v.h.name, .int .i64 v.h.k, .slice v.A v.len v.cap] by rw [F]; exact Blk.new _ _ _)
  rw [← F]
  clear F
  have N := hI (HV4.out.belowW G.out)
  have an := hI (grown_tr D.out (grown_tr HG4.out (grown_of (some g) G.out)))
  have F5 := hI (M.out.belowW G.out)
  have ap := hI (HX4.out.belowW G.out)
  have aq : w4.heap.size ≠ g := Nat.ne_of_gt HV4.out.gl
  have bd : w.heap.size ≠ w4.heap.size := Nat.ne_of_lt M.out.lt
  have P5 := hI (show Blk i g 140 #[.slice A len cap, .int .i64 (k1 : Nat), .int .i64 ((m : Int) + 1)] from N.out.p)
  obtain ⟨j, l, o, q, c, s⟩ := P5.out.all3
  go_upto_region 7 with (fail)
  rw [P5.out.setCell_eq]
  have af := hI (N.out.put k1 m N.out.kk)
  have E6 := hI (E5.out.far (t' := 140) aq #[.slice A len cap, .int .i64 (k1 : Nat), .int .i64 (m : Nat)])
  have H := hI (F5.out.far (t' := 140) x #[.slice A len cap, .int .i64 (k1 : Nat), .int .i64 (m : Nat)])
  have O := hI (putB_grown i g 140 #[.slice A len cap, .int .i64 (k1 : Nat), .int .i64 (m : Nat)])
  clear j l o q c s
  obtain ⟨w6, P⟩ := eX (putB i g 140 #[.slice A len cap, .int .i64 (k1 : Nat), .int .i64 (m : Nat)])
  have ah : putB i g 140 ((#[.slice A len cap, .int .i64 (k1 : Nat), .int .i64 ((m : Int) + 1)] : Array Value).setIfInBounds 2 (.int .i64 (m : Nat))) = w6 := by rw [P]; rfl
  rw [← P] at af E6 H O
  rw [ah]
  clear P ah
  have au := hI (grown_tr an.out O.out)
  have av := hI (ap.out.mv ac.out.gl O.out)
  obtain ⟨a0, b0, a1, b1, a2, b2, a3, b3, a4, b4, a5, b5⟩ := E6.out.all6
  obtain ⟨r0, h0, r1, h1, r2, h2, r3, h3, r4, h4, r5, h5⟩ := H.out.all6
  go_wp2_with fail
  rw [pst6 H.out]
  have FZ := hI (H.out.put #[.int .i64 v.h.kind, .int .i64 v.h.n, .int .i64 v.h.d, .string v.h.name, .int .i64 v.h.k, .slice v.A v.len v.cap])
  obtain ⟨z0, _, z1, _, z2, _, z3, _, z4, _, z5, _⟩ := FZ.out.all6
  refine bodyPost_ret (v := .agg #[.int .i64 v.h.kind, .int .i64 v.h.n, .int .i64 v.h.d, .string v.h.name, .int .i64 v.h.k, .slice v.A v.len v.cap]) (by simp [results, Tryz.results157, go_sem, z0, z1, z2, z3, z4, z5]) rfl ?_
  rw [z.out]
  exact ⟨v, rfl, hI ((av.out.far E.out.lt _ _).weaken (Nat.le_of_lt E.out.lt)), hI (grown_new au.out (Nat.le_refl _) _ _), hI (af.out.far x ak _ _)⟩
end Go.Proofs.YtkjoohnndobjeaaGreatDoor
namespace Go.Proofs.YtkjoohnndobjeaaGreatDoor
open Go.RowKit Go.Fl Go.Fl.Lx Go.Fl.Nm Go.Fl.Fm Go.Fl.Rt Go.Fl.Pa
/-- What a sum in parentheses comes to, with what the sum comes to. -/
def encR (ts : List Tok) (k m : Nat) (r : PR TE) : PR TE :=
 if isS false ts k [40] then
  if m = 100 then failP ts k 5
  else
   match r with
   | .ok e k1 => if isS false ts k1 [41] then .ok e (k1 + 1) else unex ts k1
   | r => r
 else unex ts k
theorem encP_eq (nm : List UInt8 → Bool) (ts : List Tok) (f k m : Nat) : encP nm ts (f + 1) k m = encR ts k m (sumP nm ts f (k + 1) (m + 1)) := by
 rw [encP.eq_def]
 rfl

theorem pEnclosed {w0 w : World} {g : Nat} {A : Option Addr} {len cap : Nat} {ts : List Tok} {k m : Nat} (h : Env w0 g A len cap ts k m w) (hk : k ≤ 110000) (hm : m ≤ 100) (r : PR TE) (hr : isS false ts k [40] = true → r ≠ .out) (hrk : ∀ T k1, r = .ok T k1 → k1 ≤ 110000)
  (KF : isS false ts k [40] = true → m ≠ 100 → ∀ w', Env w0 g A len cap ts (k + 1) (m + 1) w' → Calls Tryz.prog 48 #[.pointer (some ⟨g, 0, none⟩)] w' (ExR w0 g A len cap ts (m + 1) r w')) :
  Calls Tryz.prog 176 #[.pointer (some ⟨g, 0, none⟩)] w (ExR w0 g A len cap ts m (encR ts k m r) w) := by
 obtain ⟨i, z⟩ := eX (encR ts k m r)
 have s := hI z
 have B := hI KF
 have U := hI hrk
 rw [← z]
 clear KF z hrk
 go_enter Tryz.func176, Tryz.ntmps176
 go_upto_region 1 with (fail)
 obtain ⟨q, u⟩ := eX (w.alloc (Obj.cells #[.int .i64 0, .int .i64 0, .int .i64 0, .string ⟨#[]⟩, .int .i64 0, .slice none 0 0] 29))
 have N := hI (show Below w.heap.size w q by rw [u]; exact below_box _ _)
 have O := hI (show Blk q w.heap.size 29 #[.int .i64 0, .int .i64 0, .int .i64 0, .string ⟨#[]⟩, .int .i64 0, .slice none 0 0] by rw [u]; exact Blk.new _ _ _)
 rw [← u]
 clear u
 have C := hI (show some w.heap.size ≠ some g from fun e => by have := h.gl; injection e with e; omega)
 have V : w.heap.size ≠ g := fun e => C.out (by rw [e])
 have W : w0.heap.size ≤ w.heap.size := h.b.size
 have X : g < w.heap.size := h.gl
 have D := hI (h.belowW N.out)
 have E := hI (grown_of (some g) N.out)
 have Y : w.heap.size < q.heap.size := O.out.lt
 clear h
 have j := hI (pIs D.out 0 (by omega) ⟨#[40]⟩)
 rw [Nat.add_zero, show kwP (⟨#[40]⟩ : ByteArray).data.toList = false by decide, show (⟨#[40]⟩ : ByteArray).data.toList = [40] from rfl] at j
 cases hb : isS false ts k [40] with
 | false =>
  have l := hI (show i = unex ts k by rw [s.out]; unfold encR; rw [hb]; rfl)
  rw [hb] at j
  clear hb s
  go_wp2_with fail
  refine j.out.mono ?_
  rintro e w2 ⟨rfl, HB⟩
  go_wp2_with fail
  refine ((D.out.belowW HB.out).unx).mono ?_
  rintro e w3 ⟨he, HB3⟩
  obtain ⟨c, hc⟩ := panU_pan ts k
  have F := hI hc
  rw [hc] at he
  subst he
  clear hc
  go_wp2_with fail
  rw [l.out]
  exact ⟨rfl, exr_unex F.out.symm (hI (grown_tr E.out (grown_tr (grown_of _ HB.out) (grown_of _ HB3.out))))⟩
 | true =>
  have hr := hr hb
  have B := hI (B.out hb)
  rw [hb] at j
  have l := hI (show i = (if m = 100 then failP ts k 5 else match r with
   | .ok e k1 => if isS false ts k1 [41] then .ok e (k1 + 1) else unex ts k1
   | r => r) by rw [s.out]; unfold encR; rw [hb]; rfl)
  clear hb s
  have G := hI (fun (w2 : World) (hb : Below q.heap.size q w2) => deeper_sum (D.out.belowW hb) (by omega) hm r hr B.out)
  obtain ⟨P, H⟩ := eX ((if m = 100 then failP ts k 5 else r))
  rw [← H] at G
  have o := hI H
  clear H
  cases P with
  | out =>
   exfalso
   have a := o.out
   split at a
   ·
    exact fail_out a.symm
   ·
    exact hr a.symm
  | bad ln co er =>
   have p := hI (show i = .bad ln co er by
    have a := o.out
    rw [l.out]
    split at a
    ·
     rename_i h8
     rw [if_pos h8, a]
    ·
     rename_i h8
     rw [if_neg h8, ← a])
   clear l o
   go_wp2_with fail
   refine j.out.mono ?_
   rintro e w2 ⟨rfl, HB⟩
   go_wp2_with fail
   refine (G.out w2 HB.out).mono ?_
   rintro e w3 ⟨rfl, HG3⟩
   go_wp2_with fail
   rw [p.out]
   exact ⟨rfl, exr_bad (hI (grown_tr E.out (grown_tr (grown_of _ HB.out) HG3.out)))⟩
  | ok T k1 =>
   have au : k1 ≤ 110000 := by
    have a := o.out
    split at a
    ·
     exact (fail_ok a.symm).elim
    ·
     exact U.out T k1 a.symm
   have p := hI (show i = (if isS false ts k1 [41] then .ok T (k1 + 1) else unex ts k1) by
    have a := o.out
    rw [l.out]
    split at a
    ·
     exact (fail_ok a.symm).elim
    ·
     rename_i h8
     rw [if_neg h8, ← a])
   clear l o
   go_wp2_with fail
   refine j.out.mono ?_
   rintro e w2 ⟨rfl, HB⟩
   have Z := hI (O.out.belowW HB.out)
   have aa := HB.out.size
   go_wp2_with fail
   refine (G.out w2 HB.out).mono ?_
   rintro e w3 ⟨v, rfl, HX3, HG3, HV3⟩
   have F3 := hI (Z.out.grown HG3.out C.out)
   go_upto_region 4 with (fail)
   obtain ⟨Q, x⟩ := eX (w3.alloc (Obj.cells #[.int .i64 v.h.kind, .int .i64 v.h.n, .int .i64 v.h.d, .string v.h.name, .int .i64 v.h.k, .slice v.A v.len v.cap] 29))
   have y := hI (show Below w3.heap.size w3 Q by rw [x]; exact below_box _ _)
   have E4 := hI (show Blk Q w3.heap.size 29 #[.int .i64 v.h.kind, .int .i64 v.h.n, .int .i64 v.h.d, .string v.h.name, .int .i64 v.h.k, .slice v.A v.len v.cap] by rw [x]; exact Blk.new _ _ _)
   rw [← x]
   clear x
   have R := hI (HV3.out.belowW y.out)
   have F4 := hI (F3.out.belowW y.out)
   have ae := hI (HX3.out.belowW y.out)
   have S := hI (grown_tr E.out (grown_tr (grown_of _ HB.out) (grown_tr HG3.out (grown_of (some g) y.out))))
   have af : w3.heap.size ≠ g := Nat.ne_of_gt HV3.out.gl
   have ag := hI (show some w3.heap.size ≠ some g from fun e => af (Option.some.inj e))
   have I : w.heap.size < w2.heap.size := Nat.lt_of_lt_of_le Y aa
   have ah : g < w2.heap.size := Nat.lt_trans X I
   cases hc : isS false ts k1 [41] with
   | false =>
    have J := hI (show i = unex ts k1 by rw [p.out, hc]; rfl)
    have L := hI (pWantN R.out (by omega) ⟨#[41]⟩ (by rw [show kwP (⟨#[41]⟩ : ByteArray).data.toList = false by decide]; exact hc))
    clear hc p
    go_wp2_with fail
    refine L.out.mono ?_
    rintro e w5 ⟨he, HG5⟩
    obtain ⟨c, hc⟩ := panU_pan ts k1
    have F := hI hc
    rw [hc] at he
    subst he
    clear hc
    go_wp2_with fail
    rw [J.out]
    exact ⟨rfl, exr_unex F.out.symm (hI (grown_tr S.out HG5.out))⟩
   | true =>
    have J := hI (show i = .ok T (k1 + 1) by rw [p.out, hc]; rfl)
    have L := hI (pWantY R.out (by omega) ⟨#[41]⟩ (by rw [show kwP (⟨#[41]⟩ : ByteArray).data.toList = false by decide]; exact hc))
    clear hc p
    go_wp2_with fail
    refine L.out.mono ?_
    rintro e w5 ⟨rfl, HG5, HV5⟩
    have M := hI (F4.out.grown HG5.out C.out)
    have E5 := hI (E4.out.grown HG5.out ag.out)
    have aj := hI (ae.out.mv ah HG5.out)
    have ak := hI (grown_tr S.out HG5.out)
    obtain ⟨a0, b0, a1, b1, a2, b2, a3, b3, a4, b4, a5, b5⟩ := E5.out.all6
    obtain ⟨r0, h0, r1, h1, P, h2, r3, h3, r4, h4, r5, h5⟩ := M.out.all6
    go_wp2_with fail
    rw [pst6 M.out]
    have FZ := hI (M.out.put #[.int .i64 v.h.kind, .int .i64 v.h.n, .int .i64 v.h.d, .string v.h.name, .int .i64 v.h.k, .slice v.A v.len v.cap])
    obtain ⟨z0, _, z1, _, z2, _, z3, _, z4, _, z5, _⟩ := FZ.out.all6
    refine bodyPost_ret (v := .agg #[.int .i64 v.h.kind, .int .i64 v.h.n, .int .i64 v.h.d, .string v.h.name, .int .i64 v.h.k, .slice v.A v.len v.cap]) (by simp [results, Tryz.results176, go_sem, z0, z1, z2, z3, z4, z5]) rfl ?_
    rw [J.out]
    exact ⟨v, rfl, hI ((aj.out.far I _ _).weaken (Nat.le_of_lt I)), hI (grown_new ak.out (Nat.le_refl _) _ _), hI (HV5.out.far V W _ _)⟩
end Go.Proofs.YtkjoohnndobjeaaGreatDoor
namespace Go.Proofs.YtkjoohnndobjeaaGreatDoor
open Go.RowKit Go.Fl Go.Fl.Lx Go.Fl.Nm Go.Fl.Fm Go.Fl.Rt Go.Fl.Pa
theorem quotP_small {ts : List Tok} {k k1 : Nat} {a : Int × Int} (h : quotP ts k = .ok a k1) : -4611686018427387904 ≤ a.1 ∧ a.1 ≤ 4611686018427387904 ∧ -4611686018427387904 ≤ a.2 ∧ a.2 ≤ 4611686018427387904 := by
 unfold quotP at h
 cases hn : numP ts k with
 | ok b k2 =>
  rw [hn] at h
  simp only [PR.bind] at h
  split at h
  ·
   exact (unex_ok h).elim
  ·
   split at h
   ·
    exact (fail_ok h).elim
   ·
    split at h
    ·
     exact (fail_ok h).elim
    ·
     have hm := make_small b.1 (read1 (tk ts (k2 + 1)).text).1
     injection h with h1 h2
     rw [← h1]
     exact ⟨hm.1, hm.2.1, hm.2.2.1, hm.2.2.2.1⟩
 | bad l c e => rw [hn] at h; cases h
 | out => rw [hn] at h; cases h
theorem numP_small2 {ts : List Tok} {k k1 : Nat} {a : Int × Int} (h : numP ts k = .ok a k1) : -4611686018427387904 ≤ a.1 ∧ a.1 ≤ 4611686018427387904 ∧ -4611686018427387904 ≤ a.2 ∧ a.2 ≤ 4611686018427387904 := by
 have h0 := numP_small h
 unfold numP at h
 split at h
 ·
  exact (unex_ok h).elim
 ·
  split at h
  ·
   exact (fail_ok h).elim
  ·
   have hs := read1_small (tk ts (k + signP ts k)).text
   injection h with h1 h2
   rw [← h1] at h0 ⊢
   exact ⟨h0.1, h0.2, hs.2.2.1, hs.2.2.2.1⟩
theorem hd_num {a : Int × Int} (h : -4611686018427387904 ≤ a.1 ∧ a.1 ≤ 4611686018427387904 ∧ -4611686018427387904 ≤ a.2 ∧ a.2 ≤ 4611686018427387904) : HdOk ⟨1, a.1, a.2, ⟨#[]⟩, 0⟩ := by
 refine ⟨?_, ?_, ?_, ?_, ?_, ?_, ?_, ?_, Nat.zero_le _⟩ <;> simp only <;> omega
/-- What the beginning of a term comes to, with what a factor comes to. -/
def firstR (ts : List Tok) (k : Nat) (r : PR TE) : PR TE := if fracP ts k && !isS false ts (k + signP ts k + 3) [94] then (quotP ts k).map numE else r
theorem firstP_eq (nm : List UInt8 → Bool) (ts : List Tok) (f k m : Nat) : firstP nm ts (f + 1) k m = firstR ts k (factorP nm ts f k m) := by
 rw [firstP.eq_def]
 rfl

theorem pFirst {w0 w : World} {g : Nat} {A : Option Addr} {len cap : Nat} {ts : List Tok} {k m : Nat} (h : Env w0 g A len cap ts k m w) (hk : k ≤ 110000) (hR : RX w0) (r : PR TE) (hr : r ≠ .out)
  (KF : ∀ w', Env w0 g A len cap ts k m w' → Calls Tryz.prog 126 #[.pointer (some ⟨g, 0, none⟩)] w' (ExR w0 g A len cap ts m r w')) :
  Calls Tryz.prog 125 #[.pointer (some ⟨g, 0, none⟩)] w (ExR w0 g A len cap ts m (firstR ts k r) w) := by
 obtain ⟨o, P⟩ := eX (firstR ts k r)
 have F := hI P
 have Z := hI KF
 rw [← P]
 clear KF P
 go_enter Tryz.func125, Tryz.ntmps125
 go_upto_region 1 with (fail)
 obtain ⟨j, G⟩ := eX (w.alloc (Obj.cells #[.int .i64 0, .int .i64 0, .int .i64 0, .string ⟨#[]⟩, .int .i64 0, .slice none 0 0] 29))
 have O1 := hI (show Below w.heap.size w j by rw [G]; exact below_box _ _)
 have Q := hI (show Blk j w.heap.size 29 #[.int .i64 0, .int .i64 0, .int .i64 0, .string ⟨#[]⟩, .int .i64 0, .slice none 0 0] by rw [G]; exact Blk.new _ _ _)
 rw [← G]
 clear G
 have H := hI (show some w.heap.size ≠ some g from fun e => by have := h.gl; injection e with e; omega)
 have R : w.heap.size ≠ g := fun e => H.out (by rw [e])
 have S : w0.heap.size ≤ w.heap.size := h.b.size
 have a1 : g < w.heap.size := h.gl
 have q := hI (h.belowW O1.out)
 have ab := hI (grown_of (some g) O1.out)
 have a2 : w.heap.size < j.heap.size := Q.out.lt
 clear h
 have I := hI (pFraction q.out (by omega))
 cases hb : fracP ts k with
 | false =>
  have i := hI (show o = r by rw [F.out]; unfold firstR; rw [hb]; rfl)
  rw [hb] at I
  clear hb F
  go_wp2_with fail
  refine I.out.mono ?_
  rintro e w2 ⟨rfl, HB⟩
  have ac := hI (q.out.belowW HB.out)
  have F2 := hI (Q.out.belowW HB.out)
  have ae := hI (grown_tr ab.out (grown_of (some g) HB.out))
  have u := hI (Z.out w2 ac.out)
  have av : g < w2.heap.size := ac.out.gl
  have p : w.heap.size < w2.heap.size := F2.out.lt
  cases r with
  | out => exact (hr rfl).elim
  | bad ln co er =>
   go_wp2_with fail
   refine u.out.mono ?_
   rintro e w7 ⟨rfl, HG7⟩
   go_wp2_with fail
   rw [i.out]
   exact ⟨rfl, exr_bad (hI (grown_tr ae.out HG7.out))⟩
  | ok T k1 =>
   go_wp2_with fail
   refine u.out.mono ?_
   rintro e w7 ⟨v, rfl, HX7, HG7, HV7⟩
   have l := hI (F2.out.grown HG7.out H.out)
   obtain ⟨r0, h0, r1, h1, r2, h2, r3, h3, r4, h4, r5, h5⟩ := l.out.all6
   go_wp2_with fail
   rw [pst6 l.out]
   have x := hI (l.out.put #[.int .i64 v.h.kind, .int .i64 v.h.n, .int .i64 v.h.d, .string v.h.name, .int .i64 v.h.k, .slice v.A v.len v.cap])
   obtain ⟨y, _, z, _, B, _, C, _, D, _, E, _⟩ := x.out.all6
   refine bodyPost_ret (v := .agg #[.int .i64 v.h.kind, .int .i64 v.h.n, .int .i64 v.h.d, .string v.h.name, .int .i64 v.h.k, .slice v.A v.len v.cap]) (by simp [results, Tryz.results125, go_sem, y, z, B, C, D, E]) rfl ?_
   rw [i.out]
   exact ⟨v, rfl, hI ((HX7.out.far p _ _).weaken (Nat.le_of_lt p)), hI (grown_new (grown_tr ae.out HG7.out) (Nat.le_refl _) _ _), hI (HV7.out.far R S _ _)⟩
 | true =>
  rw [hb] at I
  have hs := signP_le ts k
  obtain ⟨s, U⟩ := eX (signP ts k)
  have e1 : IntKind.i64.wrap ((s : Int) + 3) = (s : Int) + 3 := by rw [IntKind.wrap_i64]; omega
  obtain ⟨c, hc⟩ : ∃ c, isS false ts (k + (s + 3)) [94] = c := ⟨_, rfl⟩
  have J := hI (show o = if (!c) = true then (quotP ts k).map numE else r by
   rw [F.out]
   unfold firstR
   rw [hb, ← U, Nat.add_assoc, hc]
   rfl)
  have KS := hI (fun (w2 : World) (hb : Below j.heap.size j w2) => pSign (q.out.belowW hb))
  have KU := hI (fun (w2 : World) (hb : Below j.heap.size j w2) => pIs (q.out.belowW hb) (s + 3) (by omega) ⟨#[94]⟩)
  rw [show kwP (⟨#[94]⟩ : ByteArray).data.toList = false by decide, show (⟨#[94]⟩ : ByteArray).data.toList = [94] from rfl, hc] at KU
  rw [← U] at KS hs
  clear hb F U hc
  go_wp2_with fail
  refine I.out.mono ?_
  rintro e w2 ⟨rfl, HB2⟩
  go_wp2_with fail
  refine (KS.out w2 HB2.out).mono ?_
  rintro e w3 ⟨rfl, HB3⟩
  have V := hI (HB2.out.trans (HB3.out.mono HB2.out.size))
  go_wp2_with fail
  refine (KU.out w3 V.out).mono ?_
  rintro e w4 ⟨rfl, HB4⟩
  have W := hI (V.out.trans (HB4.out.mono V.out.size))
  have X := hI (q.out.belowW W.out)
  have L := hI (Q.out.belowW W.out)
  have M := hI (grown_tr ab.out (grown_of (some g) W.out))
  cases c with
  | true =>
   have i := hI (show o = r by rw [J.out]; rfl)
   clear J
   have u := hI (Z.out w4 X.out)
   have av : g < w4.heap.size := X.out.gl
   have p : w.heap.size < w4.heap.size := L.out.lt
   cases r with
   | out => exact (hr rfl).elim
   | bad ln co er =>
    go_wp2_with fail
    refine u.out.mono ?_
    rintro e w7 ⟨rfl, HG7⟩
    go_wp2_with fail
    rw [i.out]
    exact ⟨rfl, exr_bad (hI (grown_tr M.out HG7.out))⟩
   | ok T k1 =>
    go_wp2_with fail
    refine u.out.mono ?_
    rintro e w7 ⟨v, rfl, HX7, HG7, HV7⟩
    have l := hI (L.out.grown HG7.out H.out)
    obtain ⟨r0, h0, r1, h1, r2, h2, r3, h3, r4, h4, r5, h5⟩ := l.out.all6
    go_wp2_with fail
    rw [pst6 l.out]
    have x := hI (l.out.put #[.int .i64 v.h.kind, .int .i64 v.h.n, .int .i64 v.h.d, .string v.h.name, .int .i64 v.h.k, .slice v.A v.len v.cap])
    obtain ⟨y, _, z, _, B, _, C, _, D, _, E, _⟩ := x.out.all6
    refine bodyPost_ret (v := .agg #[.int .i64 v.h.kind, .int .i64 v.h.n, .int .i64 v.h.d, .string v.h.name, .int .i64 v.h.k, .slice v.A v.len v.cap]) (by simp [results, Tryz.results125, go_sem, y, z, B, C, D, E]) rfl ?_
    rw [i.out]
    exact ⟨v, rfl, hI ((HX7.out.far p _ _).weaken (Nat.le_of_lt p)), hI (grown_new (grown_tr M.out HG7.out) (Nat.le_refl _) _ _), hI (HV7.out.far R S _ _)⟩
  | false =>
   have N := hI (show o = (quotP ts k).map numE by rw [J.out]; rfl)
   clear J
   have O := hI (pQuotient X.out (by omega) hR)
   have p : w.heap.size < w4.heap.size := L.out.lt
   cases hq : quotP ts k with
   | out => exact (quotP_out hq).elim
   | bad ln co er =>
    have i := hI (show o = .bad ln co er by rw [N.out, hq]; rfl)
    rw [hq] at O
    clear hq N
    go_wp2_with fail
    refine O.out.mono ?_
    rintro e w5 ⟨rfl, HG5⟩
    go_wp2_with fail
    rw [i.out]
    exact ⟨rfl, exr_bad (hI (grown_tr M.out HG5.out))⟩
   | ok a k1 =>
    have i := hI (show o = .ok (numE a) k1 by rw [N.out, hq]; rfl)
    have ax := hd_num (quotP_small hq)
    rw [hq] at O
    clear hq N
    obtain ⟨n, d⟩ := a
    go_wp2_with fail
    refine O.out.mono ?_
    rintro e w5 ⟨rfl, HG5, HV5⟩
    have F5 := hI (L.out.grown HG5.out H.out)
    go_wp2_with fail
    refine (pNum (n, d) w5).mono ?_
    rintro e w6 ⟨rfl, HB6⟩
    have Y := hI (F5.out.belowW HB6.out)
    have az := hI (HV5.out.belowW HB6.out)
    have a0 := hI (grown_tr M.out (grown_tr HG5.out (grown_of (some g) HB6.out)))
    simp only [ndR, Nd.val]
    obtain ⟨r0, h0, r1, h1, r2, h2, r3, h3, r4, h4, r5, h5⟩ := Y.out.all6
    go_wp2_with fail
    rw [pst6 Y.out]
    have x := hI (Y.out.put #[.int .i64 1, .int .i64 n, .int .i64 d, .string ⟨#[]⟩, .int .i64 0, .slice none 0 0])
    obtain ⟨y, _, z, _, B, _, C, _, D, _, E, _⟩ := x.out.all6
    refine bodyPost_ret (v := .agg #[.int .i64 1, .int .i64 n, .int .i64 d, .string ⟨#[]⟩, .int .i64 0, .slice none 0 0]) (by simp [results, Tryz.results125, go_sem, y, z, B, C, D, E]) rfl ?_
    rw [i.out]
    exact ⟨ndR (n, d), rfl, hI (inx_leaf _ _ _ ax), hI (grown_new a0.out (Nat.le_refl _) _ _), hI (az.out.far R S _ _)⟩
end Go.Proofs.YtkjoohnndobjeaaGreatDoor
namespace Go.Proofs.YtkjoohnndobjeaaGreatDoor
open Go.RowKit Go.Fl Go.Fl.Lx Go.Fl.Nm Go.Fl.Fm Go.Fl.Rt Go.Fl.Pa
/-- The map of the functions' kinds, as it lies. -/
structure FxAt (w : World) (bm : Nat) (es : Array MapEntry) (clock : Nat) : Prop where
 cell : w.cell? ⟨1, 0, none⟩ = some (.map (some bm))
 gl : 1 < w.heap.size
 heap : w.heap[bm]? = some (.map es clock)
theorem FxAt.lt {w : World} {bm : Nat} {es : Array MapEntry} {clock : Nat} (h : FxAt w bm es clock) : bm < w.heap.size := (Array.getElem?_eq_some_iff.1 h.heap).1
theorem FxAt.belowW {w w' : World} {bm : Nat} {es : Array MapEntry} {clock : Nat} (h : FxAt w bm es clock) (hb : Below w.heap.size w w') : FxAt w' bm es clock :=
 ⟨by have h1 := h.cell; unfold World.cell? at h1 ⊢; rw [hb.block _ h.gl]; exact h1, Nat.lt_of_lt_of_le h.gl hb.size, (hb.block _ h.lt).trans h.heap⟩
/-- What the map's entries answer. -/
def FxLook (bm : Nat) (es : Array MapEntry) (clock : Nat) : Prop := ∀ (w : World) (l : List UInt8), l.length ≤ 100 → w.heap[bm]? = some (.map es clock) →
 (Instr.lookup 142 (.map (some bm)) (.string ⟨l.toArray⟩) false).run Tryz.prog w = .ok (.int .i64 (funK l)) w
def FX (w : World) : Prop := ∃ bm es clock, FxAt w bm es clock ∧ FxLook bm es clock
/-- What a name comes to. -/
def nameR (ts : List Tok) (k : Nat) : PR (List UInt8) := if (tk ts k).kind = 1 ∧ nameP (tk ts k).text = true then .ok (tk ts k).text (k + 1) else unex ts k
/-- What a rule for names answers. -/
def StP (w0 : World) (g : Nat) (A : Option Addr) (len cap : Nat) (ts : List Tok) (m : Nat) (r : PR (List UInt8)) (w : World) (e : Ending) (w' : World) : Prop :=
 match r with
 | .ok s k1 => e = .returned (.string ⟨s.toArray⟩) ∧ Hid (w.grownBy w' (some g)) ∧ Hid (Env w0 g A len cap ts k1 m w')
 | .bad ln co er => e = pan ln co er ∧ Hid (w.grownBy w' (some g))
 | .out => False
theorem stp_unex {w0 : World} {g : Nat} {A : Option Addr} {len cap : Nat} {ts : List Tok} {m k : Nat} {w w' : World} {e : Ending} (he : e = panU ts k) (hg : Hid (w.grownBy w' (some g))) : StP w0 g A len cap ts m (unex ts k) w e w' := by
 unfold unex failP
 unfold panU at he
 split
 ·
  rename_i h
  rw [if_pos h] at he
  exact ⟨he, hg⟩
 ·
  rename_i h
  rw [if_neg h] at he
  exact ⟨he, hg⟩
theorem nameP_len {l : List UInt8} (h : nameP l = true) : l.length ≤ 20 := by
 unfold nameP at h
 rw [Bool.and_eq_true, Bool.and_eq_true] at h
 exact of_decide_eq_true h.1.2

theorem pName {w0 w : World} {g : Nat} {A : Option Addr} {len cap : Nat} {ts : List Tok} {k m : Nat} (h : Env w0 g A len cap ts k m w) (hk : k ≤ 110000) : Calls Tryz.prog 142 #[.pointer (some ⟨g, 0, none⟩)] w (StP w0 g A len cap ts m (nameR ts k) w) := by
 have F := hI h
 have s := hI (h.tok 0 (by omega))
 rw [Nat.add_zero] at s
 have u : ((⟨(tk ts k).text.toArray⟩ : ByteArray)).size ≤ maxLen := Nat.le_trans (show (tk ts k).text.toArray.size ≤ 100 by rw [List.size_toArray]; exact (h.t.tk k).1) (by decide)
 have j := hI (show nameR ts k = if (tk ts k).kind = 1 ∧ nameP (tk ts k).text = true then .ok (tk ts k).text (k + 1) else unex ts k from rfl)
 obtain ⟨l, G⟩ := eX (nameR ts k)
 rw [← G] at j ⊢
 obtain ⟨T, H⟩ := eX (tk ts k)
 rw [← H] at s j u
 obtain ⟨c, hc⟩ : ∃ b, ((T.kind : Int) == 1) = b := ⟨_, rfl⟩
 obtain ⟨n, v⟩ : ∃ b, nameP T.text = b := ⟨_, rfl⟩
 have x : (T.kind = 1) ↔ c = true := by rw [← hc, beq_iff_eq]; omega
 have a := hI (show l = if c = true ∧ n = true then .ok T.text (k + 1) else unex ts k by rw [j.out, v]; exact ite_congr (propext ⟨fun h => ⟨x.1 h.1, h.2⟩, fun h => ⟨x.2 h.1, h.2⟩⟩) (fun _ => rfl) (fun _ => rfl))
 have y := hI (fun w' => name_any ⟨T.text.toArray⟩ w' u)
 have I : (⟨T.text.toArray⟩ : ByteArray).data.toList = T.text := rfl
 rw [I, v] at y
 clear h G j H v x I u
 go_enter Tryz.func142, Tryz.ntmps142
 go_wp2_with fail
 refine s.out.mono ?_
 rintro e w1 ⟨rfl, HB1⟩
 go_upto_region 2 with (fail)
 obtain ⟨d, o⟩ := eX (w1.alloc (Obj.cells #[.int .i64 T.kind, .string ⟨T.text.toArray⟩, .int .i64 T.line, .int .i64 T.col] 58))
 have J := hI (show Below w1.heap.size w1 d by rw [o]; exact below_box _ _)
 have z := hI (show Blk d w1.heap.size 58 #[.int .i64 T.kind, .string ⟨T.text.toArray⟩, .int .i64 T.line, .int .i64 T.col] by rw [o]; exact Blk.new _ _ _)
 rw [← o]
 clear o
 have B := hI (grown_tr (grown_of (some g) HB1.out) (grown_of (some g) J.out))
 have q := hI ((F.out.belowW HB1.out).belowW J.out)
 have L := z.out.cell 0
 have r := z.out.cell 1
 simp only [List.getElem?_toArray, List.getElem?_cons_zero, List.getElem?_cons_succ] at L r
 cases c with
 | false =>
  have i := hI (show l = unex ts k by rw [a.out, if_neg (fun h => by cases h.1)])
  clear a
  have R : ((T.kind : Int) != 1) = true := by rw [bne, hc]; rfl
  go_wp2_with fail
  refine q.out.unx.mono ?_
  rintro e w9 ⟨he, HB9⟩
  obtain ⟨c, hc⟩ := panU_pan ts k
  have C := hI hc
  rw [hc] at he
  subst he
  clear hc
  go_wp2_with fail
  rw [i.out]
  exact ⟨rfl, stp_unex C.out.symm (hI (grown_tr B.out (grown_of _ HB9.out)))⟩
 | true =>
  have R : ((T.kind : Int) != 1) = false := by rw [bne, hc]; rfl
  cases n with
  | false =>
   have i := hI (show l = unex ts k by rw [a.out, if_neg (fun h => by cases h.2)])
   clear a
   go_wp2_with fail
   refine (y.out _).mono ?_
   rintro e D ⟨rfl, rfl⟩
   go_wp2_with fail
   refine q.out.unx.mono ?_
   rintro e w9 ⟨he, HB9⟩
   obtain ⟨c, hc⟩ := panU_pan ts k
   have C := hI hc
   rw [hc] at he
   subst he
   clear hc
   go_wp2_with fail
   rw [i.out]
   exact ⟨rfl, stp_unex C.out.symm (hI (grown_tr B.out (grown_of _ HB9.out)))⟩
  | true =>
   have i := hI (show l = .ok T.text (k + 1) by rw [a.out, if_pos ⟨rfl, rfl⟩])
   clear a
   have e1 : IntKind.i64.wrap ((k : Int) + 1) = (k : Int) + 1 := by rw [IntKind.wrap_i64]; omega
   go_wp2_with fail
   refine (y.out _).mono ?_
   rintro e D ⟨rfl, rfl⟩
   have M := hI (show Blk d g 140 #[.slice A len cap, .int .i64 (k : Nat), .int .i64 (m : Nat)] from q.out.p)
   obtain ⟨S, U, V, W, X, Y⟩ := M.out.all3
   go_upto_region 5 with (fail)
   rw [M.out.setCell_eq]
   have Z := hI (show w1.heap.size ≠ g from fun e => by have := (F.out.belowW HB1.out).gl; omega)
   have N := hI (q.out.put (k + 1) m (by omega))
   have O := hI (z.out.far (t' := 140) Z.out #[.slice A len cap, .int .i64 ((k + 1 : Nat) : Int), .int .i64 (m : Nat)])
   have P := hI (putB_grown d g 140 #[.slice A len cap, .int .i64 ((k + 1 : Nat) : Int), .int .i64 (m : Nat)])
   obtain ⟨D, E⟩ := eX (putB d g 140 #[.slice A len cap, .int .i64 ((k + 1 : Nat) : Int), .int .i64 (m : Nat)])
   have Q : putB d g 140 ((#[.slice A len cap, .int .i64 (k : Nat), .int .i64 (m : Nat)] : Array Value).setIfInBounds 1 (.int .i64 ((k : Int) + 1))) = D := by rw [E]; rfl
   rw [← E] at N O P
   rw [Q]
   clear E Q S U V W X Y L r
   have r := O.out.cell 1
   simp only [List.getElem?_toArray, List.getElem?_cons_zero, List.getElem?_cons_succ] at r
   go_wp2_with fail
   go_ret
   rw [i.out]
   exact ⟨rfl, hI (grown_tr B.out P.out), N⟩
end Go.Proofs.YtkjoohnndobjeaaGreatDoor
