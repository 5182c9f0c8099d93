/-
  Base of the walks: the imports, and small facts that belong to no program.
-/
import Derived.WalkKit
import Derived.WalkSpells
import Derived.WalkLawsBesides
import Derived.BigQuiet
import Derived.Deep.QuietTactic
import Derived.Lib.Hide
import Derived.Lib.Bytealg
namespace Go.Fl
open Go.RowKit

theorem indexByte_nonneg (l : List UInt8) (c : UInt8) : 0 ≤ Lib.indexByte l c ↔ c ∈ l := by
  induction l with
  | nil => simp [Lib.indexByte]
  | cons b l ih =>
    have := Lib.indexByte_ge l c
    unfold Lib.indexByte
    split
    · rename_i h; simp at h; simp [h]
    · rename_i h
      simp at h
      rw [List.mem_cons]
      split
      · rename_i h2; simp at h2; rw [h2] at ih; simp at ih; simp [ih, Ne.symm h]
      · rename_i h2; simp at h2
        have : 0 ≤ Lib.indexByte l c := by omega
        simp [ih.1 this]; omega

theorem take_snoc (s : ByteArray) (k : Nat) (h : k < s.size) : s.data.toList.take (k + 1) = s.data.toList.take k ++ [s[k]] := by
  rw [List.take_succ_eq_append_getElem (by simpa using h)]; rfl
theorem drop_cons (s : ByteArray) (k : Nat) (h : k < s.size) : s.data.toList.drop k = s[k] :: s.data.toList.drop (k + 1) := by
  rw [List.drop_eq_getElem_cons (by simpa using h)]; rfl
theorem take_all (s : ByteArray) (k : Nat) (h : ¬ k < s.size) : s.data.toList.take k = s.data.toList := List.take_of_length_le (by simp; omega)
theorem length_data (s : ByteArray) : s.data.toList.length = s.size := by simp
theorem ret_bool {a b : Bool} (h : a = b) : Ending.returned (.bool a) = .returned (.bool b) := by rw [h]
theorem ret_int {k : IntKind} {a b : Int} (h : a = b) : Ending.returned (.int k a) = .returned (.int k b) := by rw [h]
theorem isEmpty_data (s : ByteArray) : s.toList.isEmpty = s.data.toList.isEmpty := by rw [ByteArray.toList_eq]
theorem getElem_data (s : ByteArray) (k : Nat) (h : k < s.size) : s.data.toList[k]'(by simpa using h) = s[k] := rfl
theorem indexByte_spec (l : List UInt8) (c : UInt8) :
    (c ∉ l ∧ Lib.indexByte l c = -1) ∨ (c ∈ l ∧ ∃ i : Nat, Lib.indexByte l c = i ∧ i < l.length ∧ l.takeWhile (· != c) = l.take i ∧ l.dropWhile (· != c) = l.drop i ∧ l.drop i = c :: l.drop (i + 1)) := by
  induction l with
  | nil => left; simp [Lib.indexByte]
  | cons b l ih =>
    by_cases h : b = c
    · right
      subst h
      exact ⟨by simp, 0, by simp [Lib.indexByte], by simp, by simp, by simp, by simp⟩
    · have hb : (b == c) = false := by simpa using h
      have hn : (b != c) = true := by simpa using h
      rcases ih with ⟨h1, h2⟩ | ⟨h1, i, h2, h3, h4, h5, h6⟩
      · left
        refine ⟨by simp [h1, Ne.symm h], ?_⟩
        simp [Lib.indexByte, hb, h2]
      · right
        refine ⟨by simp [h1], i + 1, ?_, by simp; omega, ?_, ?_, ?_⟩
        · simp only [Lib.indexByte, hb, h2]
          have : ((i : Int) == -1) = false := by rw [beq_eq_false_iff_ne]; omega
          simp [this]
        · rw [List.takeWhile_cons, hn]; simp [h4]
        · rw [List.dropWhile_cons, hn]; simp [h5]
        · simpa using h6
theorem takeWhile_not_mem (l : List UInt8) (c : UInt8) (h : c ∉ l) : l.takeWhile (· != c) = l ∧ l.dropWhile (· != c) = [] := by
  induction l with
  | nil => simp
  | cons b l ih =>
    simp only [List.mem_cons, not_or] at h
    have hn : (b != c) = true := by rw [bne_iff_ne]; exact fun e => h.1 e.symm
    rw [List.takeWhile_cons, List.dropWhile_cons, hn]
    simp [ih h.2]
theorem takeWhile_len_stop {p : UInt8 → Bool} (s : ByteArray) (k : Nat) (h : k < s.size) (hall : (s.data.toList.take k).all p = true) (hs : p s[k] = false) : (s.data.toList.takeWhile p).length = k := by
  have e := List.take_append_drop k s.data.toList
  have h1 : ∀ x ∈ s.data.toList.take k, p x = true := fun x hx => List.all_eq_true.1 hall x hx
  rw [← e, List.takeWhile_append_of_pos h1, drop_cons s k h, List.takeWhile_cons, hs]
  simp
  omega
theorem takeWhile_len_all {p : UInt8 → Bool} (s : ByteArray) (hall : s.data.toList.all p = true) : (s.data.toList.takeWhile p).length = s.size := by
  have h1 : ∀ x ∈ s.data.toList, p x = true := fun x hx => List.all_eq_true.1 hall x hx
  have := List.takeWhile_append_of_pos (l₂ := []) h1
  simp only [List.append_nil, List.takeWhile_nil] at this
  rw [this]; simp
theorem take_takeWhile (p : UInt8 → Bool) (l : List UInt8) : l.take (l.takeWhile p).length = l.takeWhile p ∧ l.drop (l.takeWhile p).length = l.dropWhile p := by
  have e := List.takeWhile_append_dropWhile (p := p) (l := l)
  refine ⟨?_, ?_⟩
  · conv => lhs; arg 2; rw [← e]
    rw [List.take_left]
  · conv => lhs; arg 2; rw [← e]
    rw [List.drop_left]
theorem takeWhile_le (p : UInt8 → Bool) (l : List UInt8) : (l.takeWhile p).length ≤ l.length := by
  have e := congrArg List.length (List.takeWhile_append_dropWhile (p := p) (l := l))
  rw [List.length_append] at e
  omega
end Go.Fl
