/-
  The elements of ParseGroups' list. In plain Lean. No program in sight.
-/
import Derived.Test.YtkjoohnndobjeaaGreatDoorPcF
set_option linter.unusedVariables false
namespace Go.Fl.Pa
open Go.Lib Go.Fl.Lx Go.Fl.Fm Go.Fl.Rt
open Go.Proofs.YtkjoohnndobjeaaGreatDoor (nameP okE exprR cR)
/-- A text of at most 2000 bytes that is read as a tree. -/
structure GSt (s : ByteArray) (T : TE) : Prop where
  n : s.size ≤ 2000
  e : exprR s.data.toList = ((0, 0, 0), some T)
section
variable {a0 a1 S U : ByteArray} {us vs : List Tok} {X Y : TE} (hS : S.data.toList = pX a0.data.toList) (hU : U.data.toList = pX a1.data.toList) (zS : S.size ≤ 302) (zU : U.size ≤ 302) (hp : Pt a0.data.toList us X) (hq : Pt a1.data.toList vs Y) (hA : a0.data.toList.length ≤ 1000) (hB : a1.data.toList.length ≤ 1000)
theorem bsz (l : Array UInt8) : (⟨l⟩ : ByteArray).size = l.size := rfl
include hS zS hp hA
theorem gs0 (i2 : okE X = true) : GSt (S) (X) := by
  refine ⟨by omega, ?_⟩
  refine (congrArg exprR ?_).trans (g1 hp hA i2)
  simp [hS]
theorem gs1 (i2 : okE X = true) : GSt (⟨#[40]⟩ ++ S ++ ⟨#[41]⟩) (X) := by
  refine ⟨by simp only [ByteArray.size_append, bsz, List.size_toArray, List.length_cons, List.length_nil]; omega, ?_⟩
  refine (congrArg exprR ?_).trans (g2 hp hA i2)
  simp [hS]
theorem gs6 (k5 : okE (opE 7 [X]) = true) : GSt (⟨#[45]⟩ ++ S) (opE 7 [X]) := by
  refine ⟨by simp only [ByteArray.size_append, bsz, List.size_toArray, List.length_cons, List.length_nil]; omega, ?_⟩
  refine (congrArg exprR ?_).trans (g7 hp hA k5)
  simp [hS]
theorem gs7 (k6 : okE (powE 3 X) = true) : GSt (S ++ ⟨#[94, 51]⟩) (powE 3 X) := by
  refine ⟨by simp only [ByteArray.size_append, bsz, List.size_toArray, List.length_cons, List.length_nil]; omega, ?_⟩
  refine (congrArg exprR ?_).trans (g8 hp hA k6)
  simp [hS]
theorem gs9 (k8 : okE (opE 9 [X]) = true) : GSt (⟨#[101, 120, 112]⟩ ++ S) (opE 9 [X]) := by
  refine ⟨by simp only [ByteArray.size_append, bsz, List.size_toArray, List.length_cons, List.length_nil]; omega, ?_⟩
  refine (congrArg exprR ?_).trans (g10 hp hA k8)
  simp [hS]
include hU zU hq hB
theorem gs2 (k1 : okE (opE 3 [X, Y]) = true) : GSt (S ++ ⟨#[43]⟩ ++ U) (opE 3 [X, Y]) := by
  refine ⟨by simp only [ByteArray.size_append, bsz, List.size_toArray, List.length_cons, List.length_nil]; omega, ?_⟩
  refine (congrArg exprR ?_).trans (g3 hp hq hA hB k1)
  simp [hS, hU]
theorem gs3 (k2 : okE (opE 4 [X, opE 5 [Y, X]]) = true) : GSt (S ++ ⟨#[45]⟩ ++ U ++ ⟨#[42]⟩ ++ S) (opE 4 [X, opE 5 [Y, X]]) := by
  refine ⟨by simp only [ByteArray.size_append, bsz, List.size_toArray, List.length_cons, List.length_nil]; omega, ?_⟩
  refine (congrArg exprR ?_).trans (g4 hp hq hA hB k2)
  simp [hS, hU]
theorem gs4 (k3 : okE (opE 6 [opE 5 [X, Y], X]) = true) : GSt (S ++ ⟨#[42]⟩ ++ U ++ ⟨#[47]⟩ ++ S) (opE 6 [opE 5 [X, Y], X]) := by
  refine ⟨by simp only [ByteArray.size_append, bsz, List.size_toArray, List.length_cons, List.length_nil]; omega, ?_⟩
  refine (congrArg exprR ?_).trans (g5 hp hq hA hB k3)
  simp [hS, hU]
theorem gs5 (k4 : okE (opE 3 [opE 4 [X, Y], X]) = true) : GSt (S ++ ⟨#[45]⟩ ++ U ++ ⟨#[43]⟩ ++ S) (opE 3 [opE 4 [X, Y], X]) := by
  refine ⟨by simp only [ByteArray.size_append, bsz, List.size_toArray, List.length_cons, List.length_nil]; omega, ?_⟩
  refine (congrArg exprR ?_).trans (g6 hp hq hA hB k4)
  simp [hS, hU]
theorem gs8 (k7 : okE (opE 5 [opE 7 [powE 3 X], Y]) = true) : GSt (⟨#[45]⟩ ++ S ++ ⟨#[94, 51, 42]⟩ ++ U) (opE 5 [opE 7 [powE 3 X], Y]) := by
  refine ⟨by simp only [ByteArray.size_append, bsz, List.size_toArray, List.length_cons, List.length_nil]; omega, ?_⟩
  refine (congrArg exprR ?_).trans (g9 hp hq hA hB k7)
  simp [hS, hU]
theorem gs10 (k9 : okE (opE 3 [opE 13 [Y], opE 10 [X]]) = true) : GSt (⟨#[115, 113, 114, 116]⟩ ++ U ++ ⟨#[43, 108, 111, 103]⟩ ++ S) (opE 3 [opE 13 [Y], opE 10 [X]]) := by
  refine ⟨by simp only [ByteArray.size_append, bsz, List.size_toArray, List.length_cons, List.length_nil]; omega, ?_⟩
  refine (congrArg exprR ?_).trans (g11 hp hq hA hB k9)
  simp [hS, hU]
theorem gs11 (k10 : okE (opE 5 [opE 11 [X], opE 12 [Y]]) = true) : GSt (⟨#[115, 105, 110]⟩ ++ S ++ ⟨#[42, 99, 111, 115]⟩ ++ U) (opE 5 [opE 11 [X], opE 12 [Y]]) := by
  refine ⟨by simp only [ByteArray.size_append, bsz, List.size_toArray, List.length_cons, List.length_nil]; omega, ?_⟩
  refine (congrArg exprR ?_).trans (g12 hp hq hA hB k10)
  simp [hS, hU]
theorem gs_all (i2 : okE X = true) (i3 : okE Y = true) (c1 : dpT 20 X ≤ 17) (c2 : dpT 20 Y ≤ 17) (c3 : cR 20 X + cR 20 Y ≤ 90) :
    GSt (S) (X) ∧ GSt (⟨#[40]⟩ ++ S ++ ⟨#[41]⟩) (X) ∧ GSt (S ++ ⟨#[43]⟩ ++ U) (opE 3 [X, Y]) ∧ GSt (S ++ ⟨#[45]⟩ ++ U ++ ⟨#[42]⟩ ++ S) (opE 4 [X, opE 5 [Y, X]]) ∧ GSt (S ++ ⟨#[42]⟩ ++ U ++ ⟨#[47]⟩ ++ S) (opE 6 [opE 5 [X, Y], X]) ∧ GSt (S ++ ⟨#[45]⟩ ++ U ++ ⟨#[43]⟩ ++ S) (opE 3 [opE 4 [X, Y], X]) ∧ GSt (⟨#[45]⟩ ++ S) (opE 7 [X]) ∧ GSt (S ++ ⟨#[94, 51]⟩) (powE 3 X) ∧ GSt (⟨#[45]⟩ ++ S ++ ⟨#[94, 51, 42]⟩ ++ U) (opE 5 [opE 7 [powE 3 X], Y]) ∧ GSt (⟨#[101, 120, 112]⟩ ++ S) (opE 9 [X]) ∧ GSt (⟨#[115, 113, 114, 116]⟩ ++ U ++ ⟨#[43, 108, 111, 103]⟩ ++ S) (opE 3 [opE 13 [Y], opE 10 [X]]) ∧ GSt (⟨#[115, 105, 110]⟩ ++ S ++ ⟨#[42, 99, 111, 115]⟩ ++ U) (opE 5 [opE 11 [X], opE 12 [Y]]) := by
  have k := gok i2 i3 c1 c2 c3
  exact ⟨gs0 hS zS hp hA i2, gs1 hS zS hp hA i2, gs2 hS hU zS zU hp hq hA hB k.1, gs3 hS hU zS zU hp hq hA hB k.2.1, gs4 hS hU zS zU hp hq hA hB k.2.2.1, gs5 hS hU zS zU hp hq hA hB k.2.2.2.1, gs6 hS zS hp hA k.2.2.2.2.1, gs7 hS zS hp hA k.2.2.2.2.2.1, gs8 hS hU zS zU hp hq hA hB k.2.2.2.2.2.2.1, gs9 hS zS hp hA k.2.2.2.2.2.2.2.1, gs10 hS hU zS zU hp hq hA hB k.2.2.2.2.2.2.2.2.1, gs11 hS hU zS zU hp hq hA hB k.2.2.2.2.2.2.2.2.2⟩
end
end Go.Fl.Pa
