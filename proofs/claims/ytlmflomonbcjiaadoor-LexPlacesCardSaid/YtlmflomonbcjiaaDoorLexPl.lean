/-
  The walk of LexPlaces: what strings.Split and lex.Split answer, as lists.
-/
import Derived.Test.YtlmflomonbcjiaaDoorLexAw
import Derived.Test.YtlmflomonbcjiaaDoorLexPlain7
import Derived.Test.YtlmflomonbcjiaaDoorPlShelf
import Derived.Test.YtlmflomonbcjiaaDoorRow
set_option linter.unusedVariables false
namespace Go.Proofs.YtlmflomonbcjiaaDoor
open Go.RowKit Go.Fl Go.Fl.Lx

/-- What lex.Split answers to a short text, by its lines. -/
theorem quad_lines (l : List UInt8) (h : l.length ≤ 3000) :
    (∃ ts, quad (lexRes l) = (ts, 0, 0, 0) ∧ toksL (lin l) 1 = .ok ts) ∨ (∃ ln co er, quad (lexRes l) = ([], ln, co, er) ∧ toksL (lin l) 1 = .error (ln, co, er)) := by
  unfold lexRes
  rw [if_neg (by omega), split_toksL _ l 1 (Nat.le_refl _)]
  cases toksL (lin l) 1 with
  | ok ts => exact .inl ⟨ts, rfl, rfl⟩
  | error e => obtain ⟨a, b, c⟩ := e; exact .inr ⟨a, b, c, rfl, rfl⟩
theorem lin_len (l : List UInt8) : ∀ a ∈ lin l, a.length ≤ l.length := by
  induction l with
  | nil => intro a ha; rw [lin, List.mem_singleton] at ha; rw [ha]; exact Nat.le_refl _
  | cons c r ih =>
    intro a ha
    unfold lin at ha
    split at ha
    · rcases List.mem_cons.1 ha with rfl | ha
      · exact Nat.zero_le _
      · have := ih a ha
        simp only [List.length_cons]; omega
    · cases hl : lin r with
      | nil => exact absurd hl (lin_ne r)
      | cons h t =>
        rw [hl] at ha ih
        rcases List.mem_cons.1 ha with rfl | ha
        · have := ih h (List.mem_cons_self ..)
          simp only [List.length_cons, List.headD_cons]; omega
        · have := ih a (List.mem_cons_of_mem _ ha)
          simp only [List.length_cons]; omega
theorem lin_count (l : List UInt8) : (lin l).length ≤ l.length + 1 := by
  induction l with
  | nil => exact Nat.le_refl _
  | cons c r ih =>
    unfold lin
    split
    · simp only [List.length_cons]; omega
    · cases hl : lin r with
      | nil => exact absurd hl (lin_ne r)
      | cons h t =>
        rw [hl] at ih
        simp only [List.length_cons, List.tail_cons] at ih ⊢
        omega
/-- The lines as strings. -/
theorem lines_of (s : ByteArray) : ∃ P : List ByteArray, P = Lib.splitB ⟨#[10]⟩ 0 (Lib.countB s ⟨#[10]⟩) s ∧ P.map (·.data.toList) = lin s.data.toList ∧ P.length = Lib.countB s ⟨#[10]⟩ + 1 := by
  refine ⟨_, rfl, ?_, ?_⟩
  · rw [Lib.splitB_data]
    exact lin_splitK s.data.toList
  · exact Lib.splitB_all ⟨#[10]⟩ (by decide) 0 _ s rfl
end Go.Proofs.YtlmflomonbcjiaaDoor
