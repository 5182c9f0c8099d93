/-
  The program's text of an expression, and format.Expr.
  The small expressions of the law's examples.
  The law's six examples: they are valid, and their texts.
  The law's examples.
-/
import Derived.Test.YtkjoohnndobjeaaGreatDoorFmJ
import Derived.Test.YtkjoohnndobjeaaGreatDoorFmK
import Derived.Test.YtkjoohnndobjeaaGreatDoorQc
import Derived.Test.YtkjoohnndobjeaaGreatDoorFmN
import Derived.Test.YtkjoohnndobjeaaGreatDoorQH
set_option linter.unusedVariables false
set_option maxHeartbeats 4000000
set_option maxRecDepth 100000
namespace Go.Proofs.YtkjoohnndobjeaaGreatDoor
open Go.RowKit Go.Fl Go.Fl.Nm Go.Fl.Fm Go.Fl.Rt
theorem expr_at : ∀ f, ExprAt f := by
 intro f
 induction f with
 | zero => intro T v w _ hg; exact hg.elim
 | succ f ih =>
  intro T v w hin hg hl ht
  have hnd := hg.1
  rw [hin.hd, hin.length] at hnd
  rcases node_kinds hnd with h | h | h | h | h | h
  ·
   exact expr_k1 f ih T v w hin hg hl ht h.1
  ·
   exact expr_k2 f ih T v w hin hg hl ht h.1
  ·
   obtain h1 | h1 | h1 | h1 : v.h.kind = 3 ∨ v.h.kind = 4 ∨ v.h.kind = 5 ∨ v.h.kind = 6 := by omega
   ·
    exact expr_k3 f ih T v w hin hg hl ht h1
   ·
    exact expr_k4 f ih T v w hin hg hl ht h1
   ·
    exact expr_k5 f ih T v w hin hg hl ht h1
   exact expr_k6 f ih T v w hin hg hl ht h1
  ·
   exact expr_k7 f ih T v w hin hg hl ht h.1
  ·
   exact expr_k8 f ih T v w hin hg hl ht h.1
  exact expr_fn f ih T v w hin hg hl ht ⟨h.1, h.2.1⟩
theorem name20 (l : List UInt8) (h : nameP l = true) : l.length ≤ 20 := by
 unfold nameP at h
 simp only [Bool.and_eq_true, decide_eq_true_eq] at h
 exact h.1.2
theorem okE_iff {T : TE} : okE T = true ↔ cR 20 T ≤ 200 := by unfold okE; exact decide_eq_true_iff
theorem txt20 {T : TE} (h : okE T = true) : good nameP 20 T ∧ (txt 20 T).length ≤ 10000 := by
 have h1 := okE_iff.1 h
 refine ⟨good_of nameP 20 T h1, ?_⟩
 have h2 := txt_len nameP name20 20 T h1
 have h3 : cntR nameP 20 T ≤ 200 := h1
 omega
/-- What format.Expr answers. -/
def ExP (T : TE) (w : World) (e : Ending) (w' : World) : Prop :=
  ∃ S : ByteArray, e = .returned (.tuple #[.string S, .int .i64 (if okE T then 0 else 1)]) ∧ Hid (S.data.toList = if okE T then txt 20 T else []) ∧ Hid (Below w.heap.size w w')
theorem fexpr_any (T : TE) (v : Nd) (w : World) (hin : InE w T v) (ht : RB w) : Calls Tryz.prog 27 #[v.val] w (ExP T w) := by
 have l := hI hin
 have s := hI ht
 clear hin ht
 unfold ExP
 cases hok : okE T with
 | false =>
  have m := hI hok; clear hok; obtain ⟨⟨a, n, d, b, k⟩, A, c, g⟩ := v; simp only [Nd.val, Bool.false_eq_true, if_false]
  go_enter Tryz.func27, Tryz.ntmps27
  go_wp2_with fail
  refine (eValid_p T ⟨⟨a, n, d, b, k⟩, A, c, g⟩ _ (l.out.go (below_box w _))).mono ?_
  rintro e w2 ⟨rfl, j⟩; rw [m.out]
  go_wp2_with fail
  refine bodyPost_ret (v := .tuple #[.string ⟨#[]⟩, .int .i64 1]) (by simp [results, Tryz.results27, go_sem]) rfl ?_
  exact ⟨_, rfl, hI rfl, hI ((below_box w _).trans (j.out.mono (below_box w _).size))⟩
 | true =>
  have m := hI hok; have p := hI (txt20 hok); clear hok; obtain ⟨⟨a, n, d, b, k⟩, A, c, g⟩ := v; simp only [Nd.val, if_true]
  go_enter Tryz.func27, Tryz.ntmps27
  go_wp2_with fail
  obtain ⟨u, q, r, x⟩ := aX w 29 #[.int .i64 a, .int .i64 n, .int .i64 d, .string b, .int .i64 k, .slice A c g]; rw [← q]; clear q
  refine (eValid_p T ⟨⟨a, n, d, b, k⟩, A, c, g⟩ u (l.out.go r.out)).mono ?_
  rintro e w2 ⟨rfl, j⟩; rw [m.out]; have o := r.out.t j; have i := x.out.b9 j; have B : w2.cell? ⟨w.heap.size, 0, none⟩ = some (.int .i64 a) := i.out.cell 0; have C : w2.cell? ⟨w.heap.size, 1, none⟩ = some (.int .i64 n) := i.out.cell 1; have D : w2.cell? ⟨w.heap.size, 2, none⟩ = some (.int .i64 d) := i.out.cell 2; have E : w2.cell? ⟨w.heap.size, 3, none⟩ = some (.string b) := i.out.cell 3; have F : w2.cell? ⟨w.heap.size, 4, none⟩ = some (.int .i64 k) := i.out.cell 4; have G : w2.cell? ⟨w.heap.size, 5, none⟩ = some (.slice A c g) := i.out.cell 5
  go_wp2_with fail
  refine (expr_at 20 T ⟨⟨a, n, d, b, k⟩, A, c, g⟩ w2 (l.out.go o.out) p.out.1 (by have := p.out.2; omega) (s.out.belowW o.out)).mono ?_
  rintro e w3 ⟨S, rfl, y, z⟩
  go_wp2_with fail
  refine bodyPost_ret (v := .tuple #[.string S, .int .i64 0]) (by simp [results, Tryz.results27, go_sem]) rfl ?_
  exact ⟨S, rfl, y, o.out.t z⟩
end Go.Proofs.YtkjoohnndobjeaaGreatDoor
namespace Go.Proofs.YtkjoohnndobjeaaGreatDoor
open Go.RowKit Go.Fl Go.Fl.Nm Go.Fl.Fm Go.Fl.Rt
/-- A number, a variable, an operation of two, of one. -/
def eN (n d : Int) : TE := .mk ⟨1, n, d, ⟨#[]⟩, 0⟩ []
def eV (s : ByteArray) : TE := .mk ⟨2, 0, 0, s, 0⟩ []
def e2 (k : Int) (a b : TE) : TE := .mk ⟨k, 0, 0, ⟨#[]⟩, 0⟩ [a, b]
def e1 (k m : Int) (a : TE) : TE := .mk ⟨k, 0, 0, ⟨#[]⟩, m⟩ [a]
def ndN (n d : Int) : Nd := ⟨⟨1, n, d, ⟨#[]⟩, 0⟩, none, 0, 0⟩
def ndV (s : ByteArray) : Nd := ⟨⟨2, 0, 0, s, 0⟩, none, 0, 0⟩
theorem hd_mk (kd n d k : Int) (s : ByteArray) (h1 : -1000 ≤ kd ∧ kd ≤ 1000) (h2 : -1000 ≤ n ∧ n ≤ 1000) (h3 : -1000 ≤ d ∧ d ≤ 1000) (h4 : -1000 ≤ k ∧ k ≤ 1000) (h5 : s.size ≤ maxLen) : HdOk ⟨kd, n, d, s, k⟩ := by
 refine ⟨?_, ?_, ?_, ?_, ?_, ?_, ?_, ?_, h5⟩ <;> simp only <;> omega
theorem d0 : (-1000 : Int) ≤ 0 ∧ (0 : Int) ≤ 1000 := by decide
theorem z0 : (⟨#[]⟩ : ByteArray).size ≤ maxLen := Nat.zero_le _
theorem in_N (w : World) (n d : Int) (hn : -1000 ≤ n ∧ n ≤ 1000) (hd : -1000 ≤ d ∧ d ≤ 1000) : InE w (eN n d) (ndN n d) :=
 .mk _ [] none 0 0 [] (hd_mk 1 n d 0 _ (by decide) hn hd d0 z0) rfl (Nat.le_refl _) (Nat.zero_le _) rfl (Rd.none_ _ _) (fun i T v h => by cases h)
theorem in_V (w : World) (s : ByteArray) (hs : s.size ≤ maxLen) : InE w (eV s) (ndV s) :=
 .mk _ [] none 0 0 [] (hd_mk 2 0 0 0 s (by decide) d0 d0 d0 hs) rfl (Nat.le_refl _) (Nat.zero_le _) rfl (Rd.none_ _ _) (fun i T v h => by cases h)
/-- A new slice of elements. -/
theorem in_new2 (w : World) (k m : Int) (a b : TE) (x y : Nd) (t : TypeId) (hk : -1000 ≤ k ∧ k ≤ 1000) (hm : -1000 ≤ m ∧ m ≤ 1000) (ha : InE w a x) (hb : InE w b y) :
    InE (w.alloc (.cells (x.cells ++ y.cells).toArray t)) (.mk ⟨k, 0, 0, ⟨#[]⟩, m⟩ [a, b]) ⟨⟨k, 0, 0, ⟨#[]⟩, m⟩, some ⟨w.heap.size, 0, none⟩, 2, 2⟩ :=
  .mk _ [a, b] _ 2 2 [x, y] (hd_mk k 0 0 m _ hk d0 d0 hm z0) rfl (Nat.le_refl _) (by decide) rfl
    (by
      refine ⟨rfl, fun _ => ⟨w.heap.size, 0, rfl, by simp, fun j u hu => ?_⟩⟩
      have h := (Blk.new w t (x.cells ++ y.cells).toArray).cell j
      rw [Nat.zero_add, h, List.getElem?_toArray]
      exact hu)
    (fun i T v h1 h2 => by
      match i with
      | 0 => injection h1 with h1; injection h2 with h2; subst h1 h2; exact ha.go (below_box w _)
      | 1 => injection h1 with h1; injection h2 with h2; subst h1 h2; exact hb.go (below_box w _)
      | i + 2 => cases h1)
theorem in_new1 (w : World) (k m : Int) (a : TE) (x : Nd) (t : TypeId) (hk : -1000 ≤ k ∧ k ≤ 1000) (hm : -1000 ≤ m ∧ m ≤ 1000) (ha : InE w a x) :
    InE (w.alloc (.cells x.cells.toArray t)) (.mk ⟨k, 0, 0, ⟨#[]⟩, m⟩ [a]) ⟨⟨k, 0, 0, ⟨#[]⟩, m⟩, some ⟨w.heap.size, 0, none⟩, 1, 1⟩ :=
  .mk _ [a] _ 1 1 [x] (hd_mk k 0 0 m _ hk d0 d0 hm z0) rfl (Nat.le_refl _) (by decide) rfl
    (by
      refine ⟨rfl, fun _ => ⟨w.heap.size, 0, rfl, by simp, fun j u hu => ?_⟩⟩
      have h := (Blk.new w t x.cells.toArray).cell j
      rw [Nat.zero_add, h, List.getElem?_toArray]
      have e : ndsCells [x] = x.cells := by show x.cells ++ [] = _; rw [List.append_nil]
      rw [e] at hu
      exact hu)
    (fun i T v h1 h2 => by
      match i with
      | 0 => injection h1 with h1; injection h2 with h2; subst h1 h2; exact ha.go (below_box w _)
      | i + 1 => cases h1)
theorem box6 (w : World) (a b c d e f : Value) : ∃ w1 : World, w1 = w.alloc (.cells #[a, b, c, d, e, f] 29) ∧ Hid (Below w.heap.size w w1) ∧ w1.cell? ⟨w.heap.size, 0, none⟩ = some a ∧ w1.cell? ⟨w.heap.size, 1, none⟩ = some b ∧ w1.cell? ⟨w.heap.size, 2, none⟩ = some c ∧ w1.cell? ⟨w.heap.size, 3, none⟩ = some d ∧ w1.cell? ⟨w.heap.size, 4, none⟩ = some e ∧ w1.cell? ⟨w.heap.size, 5, none⟩ = some f := by
 have h := Blk.new w 29 #[a, b, c, d, e, f]
 exact ⟨_, rfl, hI (below_box _ _), h.cell 0, h.cell 1, h.cell 2, h.cell 3, h.cell 4, h.cell 5⟩
theorem num_any (n d : Int) (w : World) : Calls Tryz.prog 54 #[.int .i64 n, .int .i64 d] w (RetB (ndN n d).val w) := by
 go_enter Tryz.func54, Tryz.ntmps54
 go_wp2_with fail
 obtain ⟨w1, hw, HB, p0, p1, p2, p3, p4, p5⟩ := box6 w (.int .i64 1) (.int .i64 n) (.int .i64 d) (.string ⟨#[]⟩) (.int .i64 0) (.slice none 0 0)
 rw [← hw]
 clear hw
 refine bodyPost_ret (v := .agg #[.int .i64 1, .int .i64 n, .int .i64 d, .string ⟨#[]⟩, .int .i64 0, .slice none 0 0]) (by simp [results, Tryz.results54, go_sem, p0, p1, p2, p3, p4, p5]) rfl ?_
 exact ⟨rfl, HB⟩
theorem v_any (s : ByteArray) (w : World) : Calls Tryz.prog 53 #[.string s] w (RetB (ndV s).val w) := by
 go_enter Tryz.func53, Tryz.ntmps53
 go_wp2_with fail
 obtain ⟨w1, hw, HB, p0, p1, p2, p3, p4, p5⟩ := box6 w (.int .i64 2) (.int .i64 0) (.int .i64 0) (.string s) (.int .i64 0) (.slice none 0 0)
 rw [← hw]
 clear hw
 refine bodyPost_ret (v := .agg #[.int .i64 2, .int .i64 0, .int .i64 0, .string s, .int .i64 0, .slice none 0 0]) (by simp [results, Tryz.results53, go_sem, p0, p1, p2, p3, p4, p5]) rfl ?_
 exact ⟨rfl, HB⟩
theorem two_any (k : Int) (a b : TE) (x y : Nd) (w : World) (hk : -1000 ≤ k ∧ k ≤ 1000) (ha : InE w a x) (hb : InE w b y) :
 Calls Tryz.prog 52 #[.int .i64 k, x.val, y.val] w (fun e w' => ∃ z : Nd, e = .returned z.val ∧ Hid (InE w' (e2 k a b) z) ∧ Hid (Below w.heap.size w w')) := by
 have u := hI ha
 have B := hI hb
 clear ha hb
 go_enter Tryz.func52, Tryz.ntmps52
 go_wp2_with fail
 obtain ⟨c, j⟩ := eX (((w.alloc (.cells #[.int .i64 x.h.kind, .int .i64 x.h.n, .int .i64 x.h.d, .string x.h.name, .int .i64 x.h.k, .slice x.A x.len x.cap] 29)).alloc (.cells #[.int .i64 y.h.kind, .int .i64 y.h.n, .int .i64 y.h.d, .string y.h.name, .int .i64 y.h.k, .slice y.A y.len y.cap] 29)).alloc (.cells #[.int .i64 k, .int .i64 0, .int .i64 0, .string ⟨#[]⟩, .int .i64 0, .slice (some ⟨w.heap.size + 1 + 1 + 1, 0, none⟩) 2 2] 29))
 have C := World.size_alloc w (.cells #[.int .i64 x.h.kind, .int .i64 x.h.n, .int .i64 x.h.d, .string x.h.name, .int .i64 x.h.k, .slice x.A x.len x.cap] 29)
 have q : c.heap.size = w.heap.size + 1 + 1 + 1 := by rw [j, World.size_alloc, World.size_alloc, World.size_alloc]
 have l : Below w.heap.size w c := by
  rw [j]
  exact (((Below.refl _ _).alloc (Nat.le_refl _) _).alloc (by rw [World.size_alloc]; omega) _).alloc (by rw [World.size_alloc, World.size_alloc]; omega) _
 have r : Blk c (w.heap.size + 1 + 1) 29 #[.int .i64 k, .int .i64 0, .int .i64 0, .string ⟨#[]⟩, .int .i64 0, .slice (some ⟨w.heap.size + 1 + 1 + 1, 0, none⟩) 2 2] := by
  rw [j]; have h := Blk.new ((w.alloc (.cells #[.int .i64 x.h.kind, .int .i64 x.h.n, .int .i64 x.h.d, .string x.h.name, .int .i64 x.h.k, .slice x.A x.len x.cap] 29)).alloc (.cells #[.int .i64 y.h.kind, .int .i64 y.h.n, .int .i64 y.h.d, .string y.h.name, .int .i64 y.h.k, .slice y.A y.len y.cap] 29)) 29 #[.int .i64 k, .int .i64 0, .int .i64 0, .string ⟨#[]⟩, .int .i64 0, .slice (some ⟨w.heap.size + 1 + 1 + 1, 0, none⟩) 2 2]
  rwa [World.size_alloc, World.size_alloc] at h
 have o := hI (in_new2 c k 0 a b x y 29 hk d0 (u.out.go l) (B.out.go l))
 rw [q] at o
 rw [← j]
 clear j C
 obtain ⟨g, m⟩ := eX (c.alloc (.cells (x.cells ++ y.cells).toArray 29))
 have p : Below c.heap.size c g := by rw [m]; exact below_box _ _
 have D := hI (l.trans (p.mono l.size))
 have i := r.belowW p
 have E : g.cell? ⟨w.heap.size + 1 + 1, 0, none⟩ = some (.int .i64 k) := i.cell 0
 have F : g.cell? ⟨w.heap.size + 1 + 1, 1, none⟩ = some (.int .i64 0) := i.cell 1
 have G : g.cell? ⟨w.heap.size + 1 + 1, 2, none⟩ = some (.int .i64 0) := i.cell 2
 have H : g.cell? ⟨w.heap.size + 1 + 1, 3, none⟩ = some (.string ⟨#[]⟩) := i.cell 3
 have I : g.cell? ⟨w.heap.size + 1 + 1, 4, none⟩ = some (.int .i64 0) := i.cell 4
 have J : g.cell? ⟨w.heap.size + 1 + 1, 5, none⟩ = some (.slice (some ⟨w.heap.size + 1 + 1 + 1, 0, none⟩) 2 2) := i.cell 5
 rw [← m] at o
 have s : c.alloc (.cells #[.int .i64 x.h.kind, .int .i64 x.h.n, .int .i64 x.h.d, .string x.h.name, .int .i64 x.h.k, .slice x.A x.len x.cap, .int .i64 y.h.kind, .int .i64 y.h.n, .int .i64 y.h.d, .string y.h.name, .int .i64 y.h.k, .slice y.A y.len y.cap] 29) = g := m.symm
 rw [s]
 clear m s p r l q i
 refine bodyPost_ret (v := .agg #[.int .i64 k, .int .i64 0, .int .i64 0, .string ⟨#[]⟩, .int .i64 0, .slice (some ⟨w.heap.size + 1 + 1 + 1, 0, none⟩) 2 2]) (by simp [results, Tryz.results52, go_sem, E, F, G, H, I, J]) rfl ?_
 exact ⟨⟨⟨k, 0, 0, ⟨#[]⟩, 0⟩, some ⟨w.heap.size + 1 + 1 + 1, 0, none⟩, 2, 2⟩, rfl, o, D⟩
end Go.Proofs.YtkjoohnndobjeaaGreatDoor
namespace Go.Proofs.YtkjoohnndobjeaaGreatDoor
open Go.RowKit Go.Fl Go.Fl.Nm Go.Fl.Fm Go.Fl.Rt
theorem cR_V (f : Nat) (s : ByteArray) (h : nameP s.data.toList = true) : cR (f + 1) (eV s) = 1 := by
 rw [cR_succ, if_pos]
 ·
  rfl
 show nodeB nameP ⟨2, 0, 0, s, 0⟩ 0 = true
 simp [nodeB, h]
theorem cR_N (f : Nat) (n d : Int) (h : valid n d) : cR (f + 1) (eN n d) = 1 := by
 rw [cR_succ, if_pos]
 ·
  rfl
 show nodeB nameP ⟨1, n, d, ⟨#[]⟩, 0⟩ 0 = true
 simp [nodeB, h]
theorem cR_2 (f : Nat) (k : Int) (a b : TE) (hk : 3 ≤ k ∧ k ≤ 6) (h : 1 + cR f a ≤ 200) : cR (f + 1) (e2 k a b) = 1 + cR f a + cR f b := by
 rw [cR_succ, if_pos]
 ·
  show goR (cR f) [a, b] 1 = _
  unfold goR goR goR
  rw [if_pos (by decide), if_pos h]
 show nodeB nameP ⟨k, 0, 0, ⟨#[]⟩, 0⟩ 2 = true
 have e : opsK k = 2 := by unfold opsK; rw [if_pos hk]
 have e1 : ¬ k = 1 := by omega
 have e2 : ¬ k = 2 := by omega
 have e8 : ¬ k = 8 := by omega
 simp [nodeB, e, e1, e2, e8]
theorem cR_7 (f : Nat) (a : TE) : cR (f + 1) (e1 7 0 a) = 1 + cR f a := by
 rw [cR_succ, if_pos]
 ·
  rfl
 show nodeB nameP ⟨7, 0, 0, ⟨#[]⟩, 0⟩ 1 = true
 have e : opsK 7 = 1 := by decide
 simp [nodeB, e]
theorem cR_8 (f : Nat) (a : TE) : cR (f + 1) (e1 8 3 a) = 1 + cR f a := by
 rw [cR_succ, if_pos]
 ·
  rfl
 show nodeB nameP ⟨8, 0, 0, ⟨#[]⟩, 3⟩ 1 = true
 simp [nodeB]
def bX : ByteArray := ⟨#[120]⟩
def bY : ByteArray := ⟨#[121]⟩
def t1 : TE := e2 4 (eV bX) (e2 4 (eV bY) (eN 1 3))
def t2 : TE := e2 5 (eV bX) (eN 1 3)
def t3 : TE := e2 5 (eN 1 3) (eV bX)
def t4 : TE := e2 6 (eN 1 1) (eN 3 1)
def t5 : TE := e1 7 0 (eN 2 1)
def t6 : TE := e1 8 3 (eN (-2) 1)
theorem nX : nameP bX.data.toList = true := by decide +kernel
theorem nY : nameP bY.data.toList = true := by decide +kernel
theorem ok1 : okE t1 = true := okE_iff.2 (by
 unfold t1
 rw [cR_2 19 4 _ _ (by decide) (by rw [cR_V 18 _ nX]; decide), cR_V 18 _ nX, cR_2 18 4 _ _ (by decide) (by rw [cR_V 17 _ nY]; decide), cR_V 17 _ nY, cR_N 17 1 3 (by decide)]
 decide)
theorem ok2 : okE t2 = true := okE_iff.2 (by
 unfold t2
 rw [cR_2 19 5 _ _ (by decide) (by rw [cR_V 18 _ nX]; decide), cR_V 18 _ nX, cR_N 18 1 3 (by decide)]
 decide)
theorem ok3 : okE t3 = true := okE_iff.2 (by
 unfold t3
 rw [cR_2 19 5 _ _ (by decide) (by rw [cR_N 18 1 3 (by decide)]; decide), cR_V 18 _ nX, cR_N 18 1 3 (by decide)]
 decide)
theorem ok4 : okE t4 = true := okE_iff.2 (by
 unfold t4
 rw [cR_2 19 6 _ _ (by decide) (by rw [cR_N 18 1 1 (by decide)]; decide), cR_N 18 1 1 (by decide), cR_N 18 3 1 (by decide)]
 decide)
theorem ok5 : okE t5 = true := okE_iff.2 (by unfold t5; rw [cR_7, cR_N 18 2 1 (by decide)]; decide)
theorem ok6 : okE t6 = true := okE_iff.2 (by unfold t6; rw [cR_8, cR_N 18 (-2) 1 (by decide)]; decide)
theorem i1 : Lib.itoa 1 = [49] := by
 have := Lib.itoa_nonneg 1
 rw [Lib.decDigits_one (by decide)] at this
 exact this
theorem i2 : Lib.itoa 2 = [50] := by
 have := Lib.itoa_nonneg 2
 rw [Lib.decDigits_one (by decide)] at this
 exact this
theorem i3 : Lib.itoa 3 = [51] := by
 have := Lib.itoa_nonneg 3
 rw [Lib.decDigits_one (by decide)] at this
 exact this
theorem im2 : Lib.itoa (-2) = [45, 50] := by
 have := Lib.itoa_neg 2 (by decide)
 rw [Lib.decDigits_one (by decide)] at this
 exact this
theorem x13 : textR 1 3 = [49, 47, 51] := by unfold textR; rw [i1, i3, if_neg (by decide)]; rfl
theorem x11 : textR 1 1 = [49] := by unfold textR; rw [i1, if_pos rfl]; rfl
theorem x31 : textR 3 1 = [51] := by unfold textR; rw [i3, if_pos rfl]; rfl
theorem x21 : textR 2 1 = [50] := by unfold textR; rw [i2, if_pos rfl]; rfl
theorem xm21 : textR (-2) 1 = [45, 50] := by unfold textR; rw [im2, if_pos rfl]; rfl
theorem txN (f : Nat) (n d : Int) : txt (f + 1) (eN n d) = textR n d := rfl
theorem txV (f : Nat) (s : ByteArray) : txt (f + 1) (eV s) = s.data.toList := rfl
theorem tx_2 (f : Nat) (k : Int) (a b : TE) (h1 : ¬ k = 1) (h2 : ¬ k = 2) (h6 : k ≤ 6) : txt (f + 1) (e2 k a b) = par (need1 k a.h b.h) (txt f a) ++ (opK k ++ par (need2 k b.h) (txt f b)) := by
 show (if _ then _ else _) = _
 rw [if_neg (show ¬ (e2 k a b).h.kind = 1 from h1), if_neg (show ¬ (e2 k a b).h.kind = 2 from h2), if_pos (show (e2 k a b).h.kind ≤ 6 from h6)]
 rfl
theorem tx_7 (f : Nat) (a : TE) : txt (f + 1) (e1 7 0 a) = 45 :: par (needM a.h) (txt f a) := by
 show (if _ then _ else _) = _
 rw [if_neg (show ¬ (e1 7 0 a).h.kind = 1 by show ¬ (7 : Int) = 1; decide), if_neg (show ¬ (e1 7 0 a).h.kind = 2 by show ¬ (7 : Int) = 2; decide), if_neg (show ¬ (e1 7 0 a).h.kind ≤ 6 by show ¬ (7 : Int) ≤ 6; decide), if_pos (show (e1 7 0 a).h.kind = 7 from rfl)]
 rfl
theorem tx_8 (f : Nat) (a : TE) : txt (f + 1) (e1 8 3 a) = par (needW a.h) (txt f a) ++ 94 :: Lib.itoa 3 := by
 show (if _ then _ else _) = _
 rw [if_neg (show ¬ (e1 8 3 a).h.kind = 1 by show ¬ (8 : Int) = 1; decide), if_neg (show ¬ (e1 8 3 a).h.kind = 2 by show ¬ (8 : Int) = 2; decide), if_neg (show ¬ (e1 8 3 a).h.kind ≤ 6 by show ¬ (8 : Int) ≤ 6; decide), if_neg (show ¬ (e1 8 3 a).h.kind = 7 by show ¬ (8 : Int) = 7; decide), if_pos (show (e1 8 3 a).h.kind = 8 from rfl)]
 rfl
theorem tx1 : txt 20 t1 = [120, 32, 45, 32, 40, 121, 32, 45, 32, 49, 47, 51, 41] := by
 unfold t1
 rw [tx_2 19 4 _ _ (by decide) (by decide) (by decide), txV 18, tx_2 18 4 _ _ (by decide) (by decide) (by decide), txV 17, txN 17, x13]
 decide +kernel
theorem tx2 : txt 20 t2 = [120, 32, 42, 32, 40, 49, 47, 51, 41] := by
 unfold t2
 rw [tx_2 19 5 _ _ (by decide) (by decide) (by decide), txV 18, txN 18, x13]
 decide +kernel
theorem tx3 : txt 20 t3 = [49, 47, 51, 32, 42, 32, 120] := by
 unfold t3
 rw [tx_2 19 5 _ _ (by decide) (by decide) (by decide), txV 18, txN 18, x13]
 decide +kernel
theorem tx4 : txt 20 t4 = [40, 49, 41, 32, 47, 32, 51] := by
 unfold t4
 rw [tx_2 19 6 _ _ (by decide) (by decide) (by decide), txN 18, txN 18, x11, x31]
 decide +kernel
theorem tx5 : txt 20 t5 = [45, 40, 50, 41] := by
 unfold t5
 rw [tx_7 19, txN 18, x21]
 decide +kernel
theorem tx6 : txt 20 t6 = [40, 45, 50, 41, 94, 51] := by
 unfold t6
 rw [tx_8 19, txN 18, xm21, i3]
 decide +kernel
end Go.Proofs.YtkjoohnndobjeaaGreatDoor
namespace Go.Proofs.YtkjoohnndobjeaaGreatDoor
open Go.RowKit Go.Fl Go.Fl.Nm Go.Fl.Fm Go.Fl.Rt
theorem fAwake_any (w : World) (ht : RB w) : Calls Tryz.prog 26 #[] w (RetB (.bool true) w) := by
 have HT := hI ht
 clear ht
 have P : bX.size ≤ maxLen := by decide
 have zY : bY.size ≤ maxLen := by decide
 go_enter Tryz.func26, Tryz.ntmps26
 go_wp2_with fail
 refine (v_any bX w).mono ?_
 rw [show (ndV bX).val = Value.agg #[.int .i64 2, .int .i64 0, .int .i64 0, .string ⟨#[120]⟩, .int .i64 0, .slice none 0 0] from rfl]
 rintro e w1 ⟨rfl, Y⟩
 go_wp2_with fail
 refine (v_any bY w1).mono ?_
 rw [show (ndV bY).val = Value.agg #[.int .i64 2, .int .i64 0, .int .i64 0, .string ⟨#[121]⟩, .int .i64 0, .slice none 0 0] from rfl]
 rintro e w2 ⟨rfl, Z⟩
 have ai := Y.out.t Z
 go_wp2_with fail
 refine (num_any 1 3 w2).mono ?_
 rw [show (ndN 1 3).val = Value.agg #[.int .i64 1, .int .i64 1, .int .i64 3, .string ⟨#[]⟩, .int .i64 0, .slice none 0 0] from rfl]
 rintro e w3 ⟨rfl, aa⟩
 have aj := ai.out.t aa
 go_wp2_with fail
 refine (two_any 4 (eV bY) (eN 1 3) (ndV bY) (ndN 1 3) w3 (by decide) (in_V _ bY zY) (in_N _ 1 3 (by decide) (by decide))).mono ?_
 rintro e w4 ⟨z0, rfl, al, ab⟩
 have am := aj.out.t ab
 go_wp2_with fail
 refine (two_any 4 (eV bX) (e2 4 (eV bY) (eN 1 3)) (ndV bX) (z0) w4 (by decide) (in_V _ bX P) (al.out)).mono ?_
 rintro e w5 ⟨b, rfl, an, E⟩
 have ao := am.out.t E
 go_wp2_with fail
 refine (v_any bX w5).mono ?_
 rw [show (ndV bX).val = Value.agg #[.int .i64 2, .int .i64 0, .int .i64 0, .string ⟨#[120]⟩, .int .i64 0, .slice none 0 0] from rfl]
 rintro e w6 ⟨rfl, Q⟩
 have ap := ao.out.t Q
 go_wp2_with fail
 refine (num_any 1 3 w6).mono ?_
 rw [show (ndN 1 3).val = Value.agg #[.int .i64 1, .int .i64 1, .int .i64 3, .string ⟨#[]⟩, .int .i64 0, .slice none 0 0] from rfl]
 rintro e w7 ⟨rfl, R⟩
 have aq := ap.out.t R
 go_wp2_with fail
 refine (two_any 5 (eV bX) (eN 1 3) (ndV bX) (ndN 1 3) w7 (by decide) (in_V _ bX P) (in_N _ 1 3 (by decide) (by decide))).mono ?_
 rintro e w8 ⟨c, rfl, ar, U⟩
 have au := aq.out.t U
 go_wp2_with fail
 refine (num_any 1 3 w8).mono ?_
 rw [show (ndN 1 3).val = Value.agg #[.int .i64 1, .int .i64 1, .int .i64 3, .string ⟨#[]⟩, .int .i64 0, .slice none 0 0] from rfl]
 rintro e w9 ⟨rfl, J⟩
 have av := au.out.t J
 go_wp2_with fail
 refine (v_any bX w9).mono ?_
 rw [show (ndV bX).val = Value.agg #[.int .i64 2, .int .i64 0, .int .i64 0, .string ⟨#[120]⟩, .int .i64 0, .slice none 0 0] from rfl]
 rintro e w10 ⟨rfl, L⟩
 have aw := av.out.t L
 go_wp2_with fail
 refine (two_any 5 (eN 1 3) (eV bX) (ndN 1 3) (ndV bX) w10 (by decide) (in_N _ 1 3 (by decide) (by decide)) (in_V _ bX P)).mono ?_
 rintro e w11 ⟨g, rfl, ax, M⟩
 have ay := aw.out.t M
 go_wp2_with fail
 refine (num_any 1 1 w11).mono ?_
 rw [show (ndN 1 1).val = Value.agg #[.int .i64 1, .int .i64 1, .int .i64 1, .string ⟨#[]⟩, .int .i64 0, .slice none 0 0] from rfl]
 rintro e w12 ⟨rfl, F⟩
 have az := ay.out.t F
 go_wp2_with fail
 refine (num_any 3 1 w12).mono ?_
 rw [show (ndN 3 1).val = Value.agg #[.int .i64 1, .int .i64 3, .int .i64 1, .string ⟨#[]⟩, .int .i64 0, .slice none 0 0] from rfl]
 rintro e w13 ⟨rfl, G⟩
 have a0 := az.out.t G
 go_wp2_with fail
 refine (two_any 6 (eN 1 1) (eN 3 1) (ndN 1 1) (ndN 3 1) w13 (by decide) (in_N _ 1 1 (by decide) (by decide)) (in_N _ 3 1 (by decide) (by decide))).mono ?_
 rintro e w14 ⟨i, rfl, a1, H⟩
 have a2 := a0.out.t H
 go_wp2_with fail
 refine (num_any 2 1 w14).mono ?_
 rw [show (ndN 2 1).val = Value.agg #[.int .i64 1, .int .i64 2, .int .i64 1, .string ⟨#[]⟩, .int .i64 0, .slice none 0 0] from rfl]
 rintro e w15 ⟨rfl, C⟩
 have a3 := a2.out.t C
 go_wp2_with fail
 obtain ⟨V, l, D, _⟩ := aX w15 29 #[.int .i64 1, .int .i64 2, .int .i64 1, .string ⟨#[]⟩, .int .i64 0, .slice none 0 0]
 have a4 := hI (show InE V (e1 7 0 (eN 2 1)) ⟨⟨7, 0, 0, ⟨#[]⟩, 0⟩, some ⟨w15.heap.size, 0, none⟩, 1, 1⟩ by rw [l]; exact in_new1 w15 7 0 (eN 2 1) (ndN 2 1) 29 (by decide) (by decide) (in_N _ 2 1 (by decide) (by decide)))
 have bs : V.heap.size = w15.heap.size + 1 := by rw [l]; exact World.size_alloc _ _
 rw [← l]
 clear l
 have a5 := a3.out.t D
 refine (num_any (-2) 1 V).mono ?_
 rw [show (ndN (-2) 1).val = Value.agg #[.int .i64 1, .int .i64 (-2), .int .i64 1, .string ⟨#[]⟩, .int .i64 0, .slice none 0 0] from rfl]
 rintro e w17 ⟨rfl, v⟩
 have a6 := a5.out.t v
 go_wp2_with fail
 obtain ⟨I, l, y, _⟩ := aX w17 29 #[.int .i64 1, .int .i64 (-2), .int .i64 1, .string ⟨#[]⟩, .int .i64 0, .slice none 0 0]
 have a7 := hI (show InE I (e1 8 3 (eN (-2) 1)) ⟨⟨8, 0, 0, ⟨#[]⟩, 3⟩, some ⟨w17.heap.size, 0, none⟩, 1, 1⟩ by rw [l]; exact in_new1 w17 8 3 (eN (-2) 1) (ndN (-2) 1) 29 (by decide) (by decide) (in_N _ (-2) 1 (by decide) (by decide)))
 have a8 : I.heap.size = w17.heap.size + 1 := by rw [l]; exact World.size_alloc _ _
 rw [← l]
 clear l
 have a9 := a6.out.t y
 obtain ⟨z, l⟩ := eX (I.alloc (.cells #[.int .i64 b.h.kind, .int .i64 b.h.n, .int .i64 b.h.d, .string b.h.name, .int .i64 b.h.k, .slice b.A b.len b.cap, .string ⟨#[120, 32, 45, 32, 40, 121, 32, 45, 32, 49, 47, 51, 41]⟩, .int .i64 c.h.kind, .int .i64 c.h.n, .int .i64 c.h.d, .string c.h.name, .int .i64 c.h.k, .slice c.A c.len c.cap, .string ⟨#[120, 32, 42, 32, 40, 49, 47, 51, 41]⟩, .int .i64 g.h.kind, .int .i64 g.h.n, .int .i64 g.h.d, .string g.h.name, .int .i64 g.h.k, .slice g.A g.len g.cap, .string ⟨#[49, 47, 51, 32, 42, 32, 120]⟩, .int .i64 i.h.kind, .int .i64 i.h.n, .int .i64 i.h.d, .string i.h.name, .int .i64 i.h.k, .slice i.A i.len i.cap, .string ⟨#[40, 49, 41, 32, 47, 32, 51]⟩, .int .i64 7, .int .i64 0, .int .i64 0, .string ⟨#[]⟩, .int .i64 0, .slice (some ⟨w15.heap.size, 0, none⟩) 1 1, .string ⟨#[45, 40, 50, 41]⟩, .int .i64 8, .int .i64 0, .int .i64 0, .string ⟨#[]⟩, .int .i64 3, .slice (some ⟨w17.heap.size, 0, none⟩) 1 1, .string ⟨#[40, 45, 50, 41, 94, 51]⟩] 110))
 have o := hI (show Below I.heap.size I z by rw [l]; exact below_box _ _)
 have a := hI (show Blk z (w17.heap.size + 1) 110 #[.int .i64 b.h.kind, .int .i64 b.h.n, .int .i64 b.h.d, .string b.h.name, .int .i64 b.h.k, .slice b.A b.len b.cap, .string ⟨#[120, 32, 45, 32, 40, 121, 32, 45, 32, 49, 47, 51, 41]⟩, .int .i64 c.h.kind, .int .i64 c.h.n, .int .i64 c.h.d, .string c.h.name, .int .i64 c.h.k, .slice c.A c.len c.cap, .string ⟨#[120, 32, 42, 32, 40, 49, 47, 51, 41]⟩, .int .i64 g.h.kind, .int .i64 g.h.n, .int .i64 g.h.d, .string g.h.name, .int .i64 g.h.k, .slice g.A g.len g.cap, .string ⟨#[49, 47, 51, 32, 42, 32, 120]⟩, .int .i64 i.h.kind, .int .i64 i.h.n, .int .i64 i.h.d, .string i.h.name, .int .i64 i.h.k, .slice i.A i.len i.cap, .string ⟨#[40, 49, 41, 32, 47, 32, 51]⟩, .int .i64 7, .int .i64 0, .int .i64 0, .string ⟨#[]⟩, .int .i64 0, .slice (some ⟨w15.heap.size, 0, none⟩) 1 1, .string ⟨#[45, 40, 50, 41]⟩, .int .i64 8, .int .i64 0, .int .i64 0, .string ⟨#[]⟩, .int .i64 3, .slice (some ⟨w17.heap.size, 0, none⟩) 1 1, .string ⟨#[40, 45, 50, 41, 94, 51]⟩] by rw [l, ← a8]; exact Blk.new _ _ _)
 rw [← l]
 clear l
 have ba := a9.out.t o
 have bb := hI (show ∀ j : Nat, j < 6 → ∃ (T : TE) (x : Nd) (s : ByteArray), InE z T x ∧ okE T = true ∧ txt 20 T = s.data.toList ∧ ∀ (r : Nat) (u : Value), (x.cells ++ [.string s])[r]? = some u → z.cell? ⟨w17.heap.size + 1, j * 7 + r, none⟩ = some u by
  intro j hj
  obtain h | h | h | h | h | h : j = 0 ∨ j = 1 ∨ j = 2 ∨ j = 3 ∨ j = 4 ∨ j = 5 := by omega
  ·
   subst h
   refine ⟨t1, b, ⟨#[120, 32, 45, 32, 40, 121, 32, 45, 32, 49, 47, 51, 41]⟩, (((((((((((((((an.out).belowW Q.out).belowW R.out).belowW U.out).belowW J.out).belowW L.out).belowW M.out).belowW F.out).belowW G.out).belowW H.out).belowW C.out).belowW D.out).belowW v.out).belowW y.out).belowW o.out), ok1, tx1, fun r u hr => ?_⟩
   match r with
   | 0 => exact (a.out.cell 0).trans hr
   | 1 => exact (a.out.cell 1).trans hr
   | 2 => exact (a.out.cell 2).trans hr
   | 3 => exact (a.out.cell 3).trans hr
   | 4 => exact (a.out.cell 4).trans hr
   | 5 => exact (a.out.cell 5).trans hr
   | 6 => exact (a.out.cell 6).trans hr
   | r + 7 => cases hr
  ·
   subst h
   refine ⟨t2, c, ⟨#[120, 32, 42, 32, 40, 49, 47, 51, 41]⟩, ((((((((((((ar.out).belowW J.out).belowW L.out).belowW M.out).belowW F.out).belowW G.out).belowW H.out).belowW C.out).belowW D.out).belowW v.out).belowW y.out).belowW o.out), ok2, tx2, fun r u hr => ?_⟩
   match r with
   | 0 => exact (a.out.cell 7).trans hr
   | 1 => exact (a.out.cell 8).trans hr
   | 2 => exact (a.out.cell 9).trans hr
   | 3 => exact (a.out.cell 10).trans hr
   | 4 => exact (a.out.cell 11).trans hr
   | 5 => exact (a.out.cell 12).trans hr
   | 6 => exact (a.out.cell 13).trans hr
   | r + 7 => cases hr
  ·
   subst h
   refine ⟨t3, g, ⟨#[49, 47, 51, 32, 42, 32, 120]⟩, (((((((((ax.out).belowW F.out).belowW G.out).belowW H.out).belowW C.out).belowW D.out).belowW v.out).belowW y.out).belowW o.out), ok3, tx3, fun r u hr => ?_⟩
   match r with
   | 0 => exact (a.out.cell 14).trans hr
   | 1 => exact (a.out.cell 15).trans hr
   | 2 => exact (a.out.cell 16).trans hr
   | 3 => exact (a.out.cell 17).trans hr
   | 4 => exact (a.out.cell 18).trans hr
   | 5 => exact (a.out.cell 19).trans hr
   | 6 => exact (a.out.cell 20).trans hr
   | r + 7 => cases hr
  ·
   subst h
   refine ⟨t4, i, ⟨#[40, 49, 41, 32, 47, 32, 51]⟩, ((((((a1.out).belowW C.out).belowW D.out).belowW v.out).belowW y.out).belowW o.out), ok4, tx4, fun r u hr => ?_⟩
   match r with
   | 0 => exact (a.out.cell 21).trans hr
   | 1 => exact (a.out.cell 22).trans hr
   | 2 => exact (a.out.cell 23).trans hr
   | 3 => exact (a.out.cell 24).trans hr
   | 4 => exact (a.out.cell 25).trans hr
   | 5 => exact (a.out.cell 26).trans hr
   | 6 => exact (a.out.cell 27).trans hr
   | r + 7 => cases hr
  ·
   subst h
   refine ⟨t5, ⟨⟨7, 0, 0, ⟨#[]⟩, 0⟩, some ⟨w15.heap.size, 0, none⟩, 1, 1⟩, ⟨#[45, 40, 50, 41]⟩, (((a4.out.belowW v.out).belowW y.out).belowW o.out), ok5, tx5, fun r u hr => ?_⟩
   match r with
   | 0 => exact (a.out.cell 28).trans hr
   | 1 => exact (a.out.cell 29).trans hr
   | 2 => exact (a.out.cell 30).trans hr
   | 3 => exact (a.out.cell 31).trans hr
   | 4 => exact (a.out.cell 32).trans hr
   | 5 => exact (a.out.cell 33).trans hr
   | 6 => exact (a.out.cell 34).trans hr
   | r + 7 => cases hr
  ·
   subst h
   refine ⟨t6, ⟨⟨8, 0, 0, ⟨#[]⟩, 3⟩, some ⟨w17.heap.size, 0, none⟩, 1, 1⟩, ⟨#[40, 45, 50, 41, 94, 51]⟩, (a7.out.belowW o.out), ok6, tx6, fun r u hr => ?_⟩
   match r with
   | 0 => exact (a.out.cell 35).trans hr
   | 1 => exact (a.out.cell 36).trans hr
   | 2 => exact (a.out.cell 37).trans hr
   | 3 => exact (a.out.cell 38).trans hr
   | 4 => exact (a.out.cell 39).trans hr
   | 5 => exact (a.out.cell 40).trans hr
   | 6 => exact (a.out.cell 41).trans hr
   | r + 7 => cases hr
 )
 go_loopg [33] 6 (fun k iv wr => ∃ j : Nat, iv = .int .i64 j ∧ j ≤ 6 ∧ k = 6 - j ∧ Hid (Below z.heap.size z wr))
 case atStart => exact ⟨0, rfl, by omega, rfl, hI (Below.refl _ _)⟩
 obtain ⟨j, rfl, hj, rfl, m⟩ := hrel
 by_cases hlt : j < 6
 ·
  obtain ⟨T, x, s, ac, ad, ae, q⟩ := bb.out j hlt; have bd := hI (ac.go m.out); have af := hI ad; have be := hI ae; have B : w17.heap.size + 1 < z.heap.size := a.out.lt; have q0 : wr.cell? ⟨w17.heap.size + 1, j * 7, none⟩ = some (.int .i64 x.h.kind) := (m.out.cell (p := ⟨w17.heap.size + 1, _, none⟩) B).trans (q 0 _ rfl); have q1 : wr.cell? ⟨w17.heap.size + 1, j * 7 + 1, none⟩ = some (.int .i64 x.h.n) := (m.out.cell (p := ⟨w17.heap.size + 1, _, none⟩) B).trans (q 1 _ rfl); have q2 : wr.cell? ⟨w17.heap.size + 1, j * 7 + 2, none⟩ = some (.int .i64 x.h.d) := (m.out.cell (p := ⟨w17.heap.size + 1, _, none⟩) B).trans (q 2 _ rfl); have q3 : wr.cell? ⟨w17.heap.size + 1, j * 7 + 3, none⟩ = some (.string x.h.name) := (m.out.cell (p := ⟨w17.heap.size + 1, _, none⟩) B).trans (q 3 _ rfl); have q4 : wr.cell? ⟨w17.heap.size + 1, j * 7 + 4, none⟩ = some (.int .i64 x.h.k) := (m.out.cell (p := ⟨w17.heap.size + 1, _, none⟩) B).trans (q 4 _ rfl); have q5 : wr.cell? ⟨w17.heap.size + 1, j * 7 + 5, none⟩ = some (.slice x.A x.len x.cap) := (m.out.cell (p := ⟨w17.heap.size + 1, _, none⟩) B).trans (q 5 _ rfl); have q6 : wr.cell? ⟨w17.heap.size + 1, j * 7 + 6, none⟩ = some (.string s) := (m.out.cell (p := ⟨w17.heap.size + 1, _, none⟩) B).trans (q 6 _ rfl); clear ac ad ae q
  go_wp2_with fail
  obtain ⟨W, N⟩ := eX (wr.alloc (.cells #[.int .i64 x.h.kind, .int .i64 x.h.n, .int .i64 x.h.d, .string x.h.name, .int .i64 x.h.k, .slice x.A x.len x.cap, .string s] 110)); have O : Below wr.heap.size wr W := (by rw [N]; exact below_box _ _); have GT := hI (show Blk W wr.heap.size 110 #[.int .i64 x.h.kind, .int .i64 x.h.n, .int .i64 x.h.d, .string x.h.name, .int .i64 x.h.k, .slice x.A x.len x.cap, .string s] by rw [N]; exact Blk.new _ _ _); have bn := hI (m.out.trans (O.mono m.out.size)); have bo := hI (bd.out.go O); have bp := hI (((((((((((((((((((((HT.out.belowW Y.out).belowW Z.out).belowW aa.out).belowW ab.out).belowW E.out).belowW Q.out).belowW R.out).belowW U.out).belowW J.out).belowW L.out).belowW M.out).belowW F.out).belowW G.out).belowW H.out).belowW C.out).belowW D.out).belowW v.out).belowW y.out).belowW o.out).belowW m.out).belowW O); rw [← N]; clear N O q0 q1 q2 q3 q4 q5 q6
  refine (fexpr_any T x W bo.out bp.out).mono ?_
  rintro e w5 ⟨S, rfl, HS, E⟩; have X := HS.out; rw [af.out, if_pos rfl, be.out] at X; have br : S = s := (by cases S; cases s; simpa using X); subst br; rw [af.out, if_pos rfl]; have p6 : w5.cell? ⟨wr.heap.size, 6, none⟩ = some (.string S) := (GT.out.belowW E.out).cell 6; clear X
  go_wp2_with fail
  go_roundg (6 - (j + 1))
  case measure => omega
  case rel => exact ⟨j + 1, by go_num, by omega, rfl, (bn.out.t E)⟩
 go_wp2_with fail
 go_ret
 exact ⟨rfl, ba.out.t m⟩
end Go.Proofs.YtkjoohnndobjeaaGreatDoor
