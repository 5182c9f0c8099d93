/-
  The program's text of an expression, and format.Expr.
  The small expressions of the law's examples.
  The law's six examples: they are valid, and their texts.
  The law's examples.
-/
import Derived.Test.YtkjoohnndobjeaaGreatDoorFmJ
import Derived.Test.YtkjoohnndobjeaaGreatDoorFmK
import Derived.Test.YtkjoohnndobjeaaGreatDoorQc
import Derived.Test.YtkjoohnndobjeaaGreatDoorFmN
import Derived.Test.YtkjoohnndobjeaaGreatDoorQH
set_option linter.unusedVariables false
namespace Go.Proofs.YtkjoohnndobjeaaGreatDoor
open Go.RowKit Go.Fl Go.Fl.Nm Go.Fl.Fm Go.Fl.Rt
theorem name20 (l : List UInt8) (h : nameP l = true) : l.length ≤ 20 := by
  unfold nameP at h
  simp only [Bool.and_eq_true, decide_eq_true_eq] at h
  exact h.1.2
theorem okE_iff {T : TE} : okE T = true ↔ cR 20 T ≤ 200 := by unfold okE; exact decide_eq_true_iff
theorem txt20 {T : TE} (h : okE T = true) : good nameP 20 T ∧ (txt 20 T).length ≤ 10000 := by
  have h1 := okE_iff.1 h
  refine ⟨good_of nameP 20 T h1, ?_⟩
  have h2 := txt_len nameP name20 20 T h1
  have h3 : cntR nameP 20 T ≤ 200 := h1
  omega
end Go.Proofs.YtkjoohnndobjeaaGreatDoor
namespace Go.Proofs.YtkjoohnndobjeaaGreatDoor
open Go.RowKit Go.Fl Go.Fl.Nm Go.Fl.Fm Go.Fl.Rt
/-- A number, a variable, an operation of two, of one. -/
def eN (n d : Int) : TE := .mk ⟨1, n, d, ⟨#[]⟩, 0⟩ []
def eV (s : ByteArray) : TE := .mk ⟨2, 0, 0, s, 0⟩ []
def e2 (k : Int) (a b : TE) : TE := .mk ⟨k, 0, 0, ⟨#[]⟩, 0⟩ [a, b]
def e1 (k m : Int) (a : TE) : TE := .mk ⟨k, 0, 0, ⟨#[]⟩, m⟩ [a]
def ndN (n d : Int) : Nd := ⟨⟨1, n, d, ⟨#[]⟩, 0⟩, none, 0, 0⟩
def ndV (s : ByteArray) : Nd := ⟨⟨2, 0, 0, s, 0⟩, none, 0, 0⟩
theorem hd_mk (kd n d k : Int) (s : ByteArray) (h1 : -1000 ≤ kd ∧ kd ≤ 1000) (h2 : -1000 ≤ n ∧ n ≤ 1000) (h3 : -1000 ≤ d ∧ d ≤ 1000) (h4 : -1000 ≤ k ∧ k ≤ 1000) (h5 : s.size ≤ maxLen) : HdOk ⟨kd, n, d, s, k⟩ := by
  refine ⟨?_, ?_, ?_, ?_, ?_, ?_, ?_, ?_, h5⟩ <;> simp only <;> omega
theorem d0 : (-1000 : Int) ≤ 0 ∧ (0 : Int) ≤ 1000 := by decide
theorem z0 : (⟨#[]⟩ : ByteArray).size ≤ maxLen := Nat.zero_le _
theorem in_N (w : World) (n d : Int) (hn : -1000 ≤ n ∧ n ≤ 1000) (hd : -1000 ≤ d ∧ d ≤ 1000) : InE w (eN n d) (ndN n d) :=
  .mk _ [] none 0 0 [] (hd_mk 1 n d 0 _ (by decide) hn hd d0 z0) rfl (Nat.le_refl _) (Nat.zero_le _) rfl (Rd.none_ _ _) (fun i T v h => by cases h)
theorem in_V (w : World) (s : ByteArray) (hs : s.size ≤ maxLen) : InE w (eV s) (ndV s) :=
  .mk _ [] none 0 0 [] (hd_mk 2 0 0 0 s (by decide) d0 d0 d0 hs) rfl (Nat.le_refl _) (Nat.zero_le _) rfl (Rd.none_ _ _) (fun i T v h => by cases h)
/-- A new slice of elements. -/
theorem in_new2 (w : World) (k m : Int) (a b : TE) (x y : Nd) (t : TypeId) (hk : -1000 ≤ k ∧ k ≤ 1000) (hm : -1000 ≤ m ∧ m ≤ 1000) (ha : InE w a x) (hb : InE w b y) :
    InE (w.alloc (.cells (x.cells ++ y.cells).toArray t)) (.mk ⟨k, 0, 0, ⟨#[]⟩, m⟩ [a, b]) ⟨⟨k, 0, 0, ⟨#[]⟩, m⟩, some ⟨w.heap.size, 0, none⟩, 2, 2⟩ :=
  .mk _ [a, b] _ 2 2 [x, y] (hd_mk k 0 0 m _ hk d0 d0 hm z0) rfl (Nat.le_refl _) (by decide) rfl
    (by
      refine ⟨rfl, fun _ => ⟨w.heap.size, 0, rfl, by simp, fun j u hu => ?_⟩⟩
      have h := (Blk.new w t (x.cells ++ y.cells).toArray).cell j
      rw [Nat.zero_add, h, List.getElem?_toArray]
      exact hu)
    (fun i T v h1 h2 => by
      match i with
      | 0 => injection h1 with h1; injection h2 with h2; subst h1 h2; exact ha.go (below_box w _)
      | 1 => injection h1 with h1; injection h2 with h2; subst h1 h2; exact hb.go (below_box w _)
      | i + 2 => cases h1)
theorem in_new1 (w : World) (k m : Int) (a : TE) (x : Nd) (t : TypeId) (hk : -1000 ≤ k ∧ k ≤ 1000) (hm : -1000 ≤ m ∧ m ≤ 1000) (ha : InE w a x) :
    InE (w.alloc (.cells x.cells.toArray t)) (.mk ⟨k, 0, 0, ⟨#[]⟩, m⟩ [a]) ⟨⟨k, 0, 0, ⟨#[]⟩, m⟩, some ⟨w.heap.size, 0, none⟩, 1, 1⟩ :=
  .mk _ [a] _ 1 1 [x] (hd_mk k 0 0 m _ hk d0 d0 hm z0) rfl (Nat.le_refl _) (by decide) rfl
    (by
      refine ⟨rfl, fun _ => ⟨w.heap.size, 0, rfl, by simp, fun j u hu => ?_⟩⟩
      have h := (Blk.new w t x.cells.toArray).cell j
      rw [Nat.zero_add, h, List.getElem?_toArray]
      have e : ndsCells [x] = x.cells := by show x.cells ++ [] = _; rw [List.append_nil]
      rw [e] at hu
      exact hu)
    (fun i T v h1 h2 => by
      match i with
      | 0 => injection h1 with h1; injection h2 with h2; subst h1 h2; exact ha.go (below_box w _)
      | i + 1 => cases h1)
end Go.Proofs.YtkjoohnndobjeaaGreatDoor
namespace Go.Proofs.YtkjoohnndobjeaaGreatDoor
open Go.RowKit Go.Fl Go.Fl.Nm Go.Fl.Fm Go.Fl.Rt
def bX : ByteArray := ⟨#[120]⟩
def bY : ByteArray := ⟨#[121]⟩
def t1 : TE := e2 4 (eV bX) (e2 4 (eV bY) (eN 1 3))
def t2 : TE := e2 5 (eV bX) (eN 1 3)
def t3 : TE := e2 5 (eN 1 3) (eV bX)
def t4 : TE := e2 6 (eN 1 1) (eN 3 1)
def t5 : TE := e1 7 0 (eN 2 1)
def t6 : TE := e1 8 3 (eN (-2) 1)
theorem i1 : Lib.itoa 1 = [49] := by
  have := Lib.itoa_nonneg 1
  rw [Lib.decDigits_one (by decide)] at this
  exact this
theorem i2 : Lib.itoa 2 = [50] := by
  have := Lib.itoa_nonneg 2
  rw [Lib.decDigits_one (by decide)] at this
  exact this
theorem i3 : Lib.itoa 3 = [51] := by
  have := Lib.itoa_nonneg 3
  rw [Lib.decDigits_one (by decide)] at this
  exact this
theorem x11 : textR 1 1 = [49] := by unfold textR; rw [i1, if_pos rfl]; rfl
end Go.Proofs.YtkjoohnndobjeaaGreatDoor
namespace Go.Proofs.YtkjoohnndobjeaaGreatDoor
open Go.RowKit Go.Fl Go.Fl.Nm Go.Fl.Fm Go.Fl.Rt
end Go.Proofs.YtkjoohnndobjeaaGreatDoor
