/-
  What the parser's rules find does not hang on the tokens' places, in plain Lean. No program in sight.
  The plain model of the parser of ranges and problems. No program in sight.
  The rules for problems go forward, and have enough fuel, in plain Lean. No program in sight.
-/
import Derived.Test.YtkjoohnndobjeaaGreatDoorQI
import Derived.Test.YtkjoohnndobjeaaGreatDoorQL
set_option linter.unusedVariables false
namespace Go.Fl.Pa
open Go.Fl.Lx Go.Fl.Fm Go.Fl.Rt
/-- A token, tokens, a rule's answer without places. -/
def zt (t : Tok) : Tok := ⟨t.kind, t.text, 0, 0⟩
def zs (ts : List Tok) : List Tok := ts.map zt
section
variable {ts : List Tok}
end
section
variable {nm : List UInt8 → Bool} {ts : List Tok}
end
end Go.Fl.Pa
namespace Go.Fl.Pa
open Go.Fl.Lx Go.Fl.Fm Go.Fl.Rt
/-- A range; a declaration; an equation or a reset; an edge; a mode; a problem. -/
structure RgP where
  lo : Int × Int
  hi : Int × Int
structure DcP where
  s : List UInt8
  r : RgP
structure EqP where
  s : List UInt8
  T : TE
structure EdP where
  T : TE
  dir : Int
  tn : List UInt8
  rs : List EqP
structure MdP where
  s : List UInt8
  fl : List EqP
  ed : List EdP
structure PbP where
  st : List DcP
  pa : List DcP
  ms : List MdP
  tm : Int × Int
/-- The reserved words. -/
def kState : List UInt8 := [115, 116, 97, 116, 101]
def kParam : List UInt8 := [112, 97, 114, 97, 109]
section
variable (nm : List UInt8 → Bool) (ts : List Tok)
def wantP (kw : Bool) (s : List UInt8) (k : Nat) : PR Unit := if isS kw ts k s then .ok () (k + 1) else unex ts k
def sumE (k : Nat) : PR TE := sumP nm ts (8 * ts.length + 8) k 0
end
/-! The rules do not hang on the places. -/
section
variable {nm : List UInt8 → Bool} {ts : List Tok}
end
end Go.Fl.Pa
namespace Go.Fl.Pa
open Go.Fl.Lx Go.Fl.Fm Go.Fl.Rt
/-- A rule's answer is behind k, and not behind N. -/
def Fw {α : Type} (N k : Nat) (r : PR α) : Prop := ∀ a k1, r = .ok a k1 → k < k1 ∧ k1 ≤ N
def Fq {α : Type} (N k : Nat) (r : PR α) : Prop := ∀ a k1, r = .ok a k1 → k ≤ k1 ∧ k1 ≤ N
theorem Fw.q {α : Type} {N k : Nat} {r : PR α} (h : Fw N k r) : Fq N k r := fun a k1 e => ⟨Nat.le_of_lt (h a k1 e).1, (h a k1 e).2⟩
section
variable {nm : List UInt8 → Bool} {ts : List Tok}
theorem val_fw (k : Nat) : Fw ts.length k (valP ts k) := fun a k1 h => by
  unfold valP at h
  split at h
  · exact quotP_ok h
  · exact numP_ok h
theorem sumE_fw (k : Nat) : Fw ts.length k (sumE nm ts k) := fun a k1 h => (forward (nm := nm) (ts := ts) (8 * ts.length + 8)).1 k 0 a k1 h
theorem sumE_no (k : Nat) : sumE nm ts k ≠ .out := (enough (nm := nm) (ts := ts) (8 * ts.length + 8)).1 k 0 (by omega)
/-! Errors are at the end or at a token. -/
def Eb {α : Type} (ts : List Tok) (r : PR α) : Prop := ∀ ln co er, r = .bad ln co er → ErrAt ts ln co er
theorem sumE_eb (k : Nat) : Eb ts (sumE nm ts k) := fun ln co er h => (rule_bad (nm := nm) (ts := ts) (8 * ts.length + 8)).1 k 0 ln co er h
end
end Go.Fl.Pa
