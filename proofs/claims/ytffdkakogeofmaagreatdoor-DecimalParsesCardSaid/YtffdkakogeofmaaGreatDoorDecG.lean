/-
  What decimal.read returns, in plain Lean. Of no program.
-/
import Derived.Test.YtffdkakogeofmaaGreatDoorDecF
set_option linter.unusedVariables false
namespace Go.Fl.Dy
open Go.Fl.Nm
/-- A decimal number: its sign, its digits as a number, how many stand behind the point, how many there are. -/
structure DN where
  neg : Bool
  v : Nat
  b : Nat
  t : Nat
def ngD (s : List UInt8) : Bool := s.head? == some 45
def rsD (s : List UInt8) : List UInt8 := if ngD s then s.tail else s
def ptB (r : List UInt8) : Bool := r.contains 46
def whD (r : List UInt8) : List UInt8 := if ptB r then r.takeWhile (· != 46) else r
def frD (r : List UInt8) : List UInt8 := if ptB r then (r.dropWhile (· != 46)).tail else []
def okD (r : List UInt8) : Bool := Rt.digs (whD r) && (!ptB r || Rt.digs (frD r))
def rdN (s : List UInt8) : DN × Bool :=
  if okD (rsD s) then
    if 256 < (whD (rsD s)).length + (frD (rsD s)).length then (⟨false, 0, (frD (rsD s)).length, (whD (rsD s)).length + (frD (rsD s)).length⟩, true)
    else (⟨ngD s && decide (0 < dval (whD (rsD s) ++ frD (rsD s))), dval (whD (rsD s) ++ frD (rsD s)), (frD (rsD s)).length, (whD (rsD s)).length + (frD (rsD s)).length⟩, true)
  else (⟨false, 0, 0, 0⟩, false)
theorem dval_zero_cons (l : List UInt8) : dval (48 :: l) = dval l := by
  unfold dval
  rw [List.foldl_cons]
  rfl
theorem dval_trim (l : List UInt8) : dval (l.dropWhile (· == 48)) = dval l := by
  induction l with
  | nil => rfl
  | cons x t ih =>
    rw [List.dropWhile_cons]
    by_cases h : x = 48
    · subst h
      rw [if_pos (by rfl), ih, dval_zero_cons]
    · rw [if_neg (by simpa using h)]
/-- The digits without zeros ahead; at least one. -/
def alD (l : List UInt8) : List UInt8 := if l.dropWhile (· == 48) = [] then [48] else l.dropWhile (· == 48)
theorem alD_val (l : List UInt8) : dval (alD l) = dval l := by
  unfold alD
  split
  · rename_i h
    rw [← dval_trim l, h]
    rfl
  · exact dval_trim l
theorem alD_num {l : List UInt8} (h : l.all Nm.isDig = true) : isNum (alD l) = true := by
  unfold alD
  split
  · decide
  · rename_i hne
    cases hd : l.dropWhile (· == 48) with
    | nil => exact absurd hd hne
    | cons y r =>
      have h1 := dw_head hd
      have h2 : (y :: r).all Nm.isDig = true := by
        rw [← hd, List.all_eq_true]
        intro x hx
        exact List.all_eq_true.1 h x ((List.dropWhile_sublist _).subset hx)
      have h3 : y ≠ 48 := by simpa using h1
      unfold isNum
      rw [h2]
      simp [h3]
end Go.Fl.Dy
