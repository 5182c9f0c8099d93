/-
  The text of a problem, its tokens, and what is read from them. In plain Lean. No program in sight.
  A problem's tokens are read as the problem. In plain Lean. No program in sight.
-/
import Derived.Test.YtkjoohnndobjeaaGreatDoorQM
import Derived.Test.YtkjoohnndobjeaaGreatDoorQS
import Derived.Test.YtkjoohnndobjeaaGreatDoorQV
set_option linter.unusedVariables false
namespace Go.Fl.Pa
open Go.Lib Go.Fl.Lx Go.Fl.Fm Go.Fl.Rt
open Go.Proofs.YtkjoohnndobjeaaGreatDoor (nameP okE kwP range_len)
/-! Which problems that were read are right. -/
def DcP.ok (d : DcP) : Bool := nameP d.s && (vB d.r.lo.1 d.r.lo.2 && vB d.r.hi.1 d.r.hi.2)
def EqP.ok (q : EqP) : Bool := nameP q.s && okE q.T
def EdP.ok (x : EdP) : Bool := okE x.T && (((x.dir == 1) || (x.dir == 2)) && (nameP x.tn && (decide (x.rs.length ≤ 4) && x.rs.all EqP.ok)))
def MdP.ok (m : MdP) : Bool := nameP m.s && (decide (m.fl.length ≤ 4) && (decide (m.ed.length ≤ 4) && (m.fl.all EqP.ok && m.ed.all EdP.ok)))
def PbP.ok (p : PbP) : Bool := (decide (1 ≤ p.st.length) && decide (p.st.length ≤ 4) && decide (p.pa.length ≤ 4) && decide (1 ≤ p.ms.length) && decide (p.ms.length ≤ 8)) && (p.st.all DcP.ok && (p.pa.all DcP.ok && (p.ms.all MdP.ok && vB p.tm.1 p.tm.2)))
/-! The texts. -/
def DcP.txt (d : DcP) : List UInt8 := d.s ++ ([32, 105, 110, 32] ++ (rangeT d.r.lo.1 d.r.lo.2 d.r.hi.1 d.r.hi.2 ++ [59, 10]))
def EqP.rt (x : EqP) : List UInt8 := x.s ++ ([32, 61, 32] ++ txt 20 x.T)
def EqP.ft (x : EqP) : List UInt8 := [9] ++ (x.s ++ ([39, 32, 61, 32] ++ (txt 20 x.T ++ [59, 10])))
def rlT : List EqP → List UInt8
  | [] => []
  | x :: l => [32, 119, 105, 116, 104, 32] ++ x.rt ++ l.flatMap (fun y => [44, 32] ++ y.rt)
def EdP.wd (x : EdP) : List UInt8 := if x.dir = 2 then [32, 102, 97, 108, 108, 115, 32, 103, 111, 116, 111, 32] else [32, 114, 105, 115, 101, 115, 32, 103, 111, 116, 111, 32]
def EdP.txt (x : EdP) : List UInt8 := [9, 119, 104, 101, 110, 32] ++ (Go.Fl.Fm.txt 20 x.T ++ (x.wd ++ (x.tn ++ (rlT x.rs ++ [59, 10]))))
def MdP.hd (x : MdP) : List UInt8 := [109, 111, 100, 101, 32] ++ (x.s ++ [32, 123, 10])
def MdP.txt (x : MdP) : List UInt8 := x.hd ++ (x.fl.flatMap EqP.ft ++ (x.ed.flatMap EdP.txt ++ [125, 10]))
def dcW (w : List UInt8) (d : DcP) : List UInt8 := w ++ ([32] ++ d.txt)
def PbP.txt (x : PbP) : List UInt8 := x.st.flatMap (dcW kState) ++ (x.pa.flatMap (dcW kParam) ++ (x.ms.flatMap MdP.txt ++ ([116, 105, 109, 101, 32] ++ (textR x.tm.1 x.tm.2 ++ [59, 10]))))
/-! Their tokens. -/
end Go.Fl.Pa
namespace Go.Fl.Pa
open Go.Lib Go.Fl.Lx Go.Fl.Fm Go.Fl.Rt
open Go.Proofs.YtkjoohnndobjeaaGreatDoor (nameP okE kwP range_len)
section
variable {ts : List Tok}
theorem sym_no {k : Nat} {s t : List UInt8} (h : (tk ts k).kind = 3 ∧ (tk ts k).text = t) (hne : (t == s) = false) : isS false ts k s = false := by rw [isS_sym h, hne]
/-- What ends a sum: no operator. -/
def Stop (ts : List Tok) (k : Nat) : Prop := isS false ts k [94] = false ∧ isS false ts k [42] = false ∧ isS false ts k [47] = false ∧ isS false ts k [43] = false ∧ isS false ts k [45] = false
theorem stop_sym {k : Nat} {t : List UInt8} (h : (tk ts k).kind = 3 ∧ (tk ts k).text = t) (h1 : (t == [94] || t == [42] || t == [47] || t == [43] || t == [45]) = false) : Stop ts k := by
  simp only [Bool.or_eq_false_iff] at h1
  exact ⟨sym_no h h1.1.1.1.1, sym_no h h1.1.1.1.2, sym_no h h1.1.1.2, sym_no h h1.1.2, sym_no h h1.2⟩
theorem stop_word {k : Nat} (h : (tk ts k).kind ≠ 3) : Stop ts k := ⟨isS_no3 h, isS_no3 h, isS_no3 h, isS_no3 h, isS_no3 h⟩
end
end Go.Fl.Pa
