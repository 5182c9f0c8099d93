/-
  Walks: tokens with any numbers; 'alike'; 'Valid'.
-/
import Derived.Test.YtkjoohnndobjeaaGreatDoorQC
namespace Go.Proofs.YtkjoohnndobjeaaGreatDoor
open Go.RowKit Go.Fl Go.Fl.Lx

/-- A token as it may come in: any numbers. -/
structure TI where
  kind : Int
  text : List UInt8
  line : Int
  col : Int
def TI.cells (t : TI) : List Value := [.int .i64 t.kind, .string ⟨t.text.toArray⟩, .int .i64 t.line, .int .i64 t.col]
def tiCells (l : List TI) : List Value := l.flatMap TI.cells
def tiOf (t : Tok) : TI := ⟨t.kind, t.text, t.line, t.col⟩
theorem tiCells_of (ts : List Tok) : tiCells (ts.map tiOf) = toksCells ts := by
 induction ts with
 | nil => rfl
 | cons t ts ih => simp only [List.map_cons, tiCells, toksCells, List.flatMap_cons] at *; rw [ih]; rfl
theorem ti_at (l : List TI) (k : Nat) (t : TI) (h : l[k]? = some t) (j : Nat) (hj : j < 4) : (tiCells l)[k * 4 + j]? = t.cells[j]? := by
 induction l generalizing k with
 | nil => simp at h
 | cons t' l ih =>
  have e : tiCells (t' :: l) = t'.cells ++ tiCells l := rfl
  have hl : t'.cells.length = 4 := rfl
  rw [e]
  cases k with
  | zero =>
   simp at h
   subst h
   rw [Nat.zero_mul, Nat.zero_add, List.getElem?_append_left (by omega)]
  | succ k =>
   simp at h
   rw [List.getElem?_append_right (by omega), ← ih k h, hl]
   congr 1; omega

/-- Which tokens are valid. -/
def validP (k : Int) (l : List UInt8) : Bool :=
  if k == 3 then (match l with | [c] => isSym c | _ => false) else (kindOf l).1 != 0 && ((kindOf l).1 : Int) == k

end Go.Proofs.YtkjoohnndobjeaaGreatDoor
