/-
  The walk of FormatReads.
-/
import Derived.Test.YtkjoohnndobjeaaGreatDoorPbH
import Derived.Test.YtkjoohnndobjeaaGreatDoorPbI
import Derived.Test.YtkjoohnndobjeaaGreatDoorQT
import Derived.Test.YtkjoohnndobjeaaGreatDoorQb
import Derived.Test.YtkjoohnndobjeaaGreatDoorQa
import Derived.Test.YtkjoohnndobjeaaGreatDoorQN
import Derived.Test.YtkjoohnndobjeaaGreatDoorQZ
set_option linter.unusedVariables false
namespace Go.Proofs.YtkjoohnndobjeaaGreatDoor
open Go.RowKit Go.Fl Go.Fl.Lx Go.Fl.Nm Go.Fl.Fm Go.Fl.Rt Go.Fl.Pa
open List (setIfInBounds_toArray set_cons_zero set_cons_succ getElem_toArray getElem_cons_zero getElem_cons_succ)
/-! What is read from the texts. -/
theorem run_ok {α : Type} {l : List UInt8} {ts : List Tok} {rd : List Tok → PR α} {v : α → Bool} {T : α} (h3 : lexRes l = .ok ts) (h4 : rd ts = .ok T ts.length) (h : v T = true) : runR l rd v = ((0, 0, 0), some T) := by
 unfold runR
 rw [h3]
 show runS ts v (rd ts) = _
 rw [h4]
 show (if ts.length < ts.length then (((tk ts ts.length).line, (tk ts ts.length).col, 3), none) else if v T then ((0, 0, 0), some T) else ((0, 0, 5), some T)) = _
 rw [if_neg (Nat.lt_irrefl _), if_pos h]
theorem prob_txt {p : PbP} (h : p.ok = true) (hl : p.txt.length ≤ 65536) : probR p.txt = ((0, 0, 0), some p) := by
 obtain ⟨ts, h1, h2⟩ := prob_text h hl
 exact run_ok h1 h2 h
theorem flat_map {Z Y B : Type} (f : Z → Y) (g : Z → List B) (k : Y → List B) (l : List Z) (h : ∀ z, g z = k (f z)) : l.flatMap g = (l.map f).flatMap k := by
 induction l with
 | nil => rfl
 | cons z l ih => rw [List.flatMap_cons, List.map_cons, List.flatMap_cons, h z, ih]
theorem resT_pl (l : List EqN) : resT l = rlT (l.map EqN.pl) := by
 cases l with
 | nil => rfl
 | cons x l =>
  show [32, 119, 105, 116, 104, 32] ++ x.rt ++ l.flatMap (fun y => [44, 32] ++ y.rt) = [32, 119, 105, 116, 104, 32] ++ x.pl.rt ++ (l.map EqN.pl).flatMap (fun y => [44, 32] ++ y.rt)
  rw [flat_map EqN.pl (fun y => [44, 32] ++ y.rt) (fun y => [44, 32] ++ y.rt) l (fun z => rfl)]
  rfl
theorem EdN.txt_pl (x : EdN) : x.txt = x.pl.txt := by
 unfold EdN.txt EdP.txt
 rw [resT_pl]
 rfl
theorem MdN.txt_pl (x : MdN) : x.txt = x.pl.txt := by
 unfold MdN.txt MdP.txt
 rw [flat_map EqN.pl EqN.ft EqP.ft x.fl (fun z => rfl), flat_map EdN.pl EdN.txt EdP.txt x.ed EdN.txt_pl]
 rfl
theorem PbN.txt_pl (x : PbN) : x.txt = x.pl.txt := by
 unfold PbN.txt PbP.txt
 rw [flat_map DcN.pl stT (dcW kState) x.st (fun z => rfl), flat_map DcN.pl paT (dcW kParam) x.pa (fun z => rfl), flat_map MdN.pl MdN.txt MdP.txt x.ms MdN.txt_pl]
 rfl
end Go.Proofs.YtkjoohnndobjeaaGreatDoor
