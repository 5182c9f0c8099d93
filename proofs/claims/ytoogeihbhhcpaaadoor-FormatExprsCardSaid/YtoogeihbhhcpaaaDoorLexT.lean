/-
  Walks: comparing and converting lists of tokens.
-/
import Derived.Test.YtoogeihbhhcpaaaDoorLexS
import Derived.Test.YtoogeihbhhcpaaaDoorLexE
import Derived.Test.YtoogeihbhhcpaaaDoorPkB
namespace Go.Proofs.YtoogeihbhhcpaaaDoor
open Go.RowKit Go.Fl Go.Fl.Lx

theorem rtoks_len (l : List Tok) : (rtoksCells l).length = l.length * 4 := by
  induction l with
  | nil => rfl
  | cons t l ih => simp [rtoksCells, rtokCells] at ih ⊢; omega
theorem rtoks_at (l : List Tok) (k : Nat) (t : Tok) (h : l[k]? = some t) (j : Nat) (hj : j < 4) : (rtoksCells l)[k * 4 + j]? = (rtokCells t)[j]? := by
  induction l generalizing k with
  | nil => simp at h
  | cons t' l ih =>
    have e : rtoksCells (t' :: l) = rtokCells t' ++ rtoksCells l := rfl
    have hl : (rtokCells t').length = 4 := rfl
    rw [e]
    cases k with
    | zero =>
      simp at h
      subst h
      rw [Nat.zero_mul, Nat.zero_add, List.getElem?_append_left (by omega)]
    | succ k =>
      simp at h
      rw [List.getElem?_append_right (by omega), ← ih k h, hl]
      congr 1; omega

theorem toks_len (l : List Tok) : (toksCells l).length = l.length * 4 := by
  induction l with
  | nil => rfl
  | cons t l ih => simp [toksCells, tokCells] at ih ⊢; omega
theorem toks_at (l : List Tok) (k : Nat) (t : Tok) (h : l[k]? = some t) (j : Nat) (hj : j < 4) : (toksCells l)[k * 4 + j]? = (tokCells t)[j]? := rtoks_at l k t h j hj
theorem toks_take (l : List Tok) (k : Nat) (t : Tok) (h : l[k]? = some t) : l.take (k + 1) = l.take k ++ [t] := by
  rw [List.take_add_one, h]; rfl

end Go.Proofs.YtoogeihbhhcpaaaDoor
