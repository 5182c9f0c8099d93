/-
  Plain laws of the lexer: runs side by side; words and numbers.
-/
import Derived.Test.YtlmflomonbcjiaaDoorLexPlain3
import Derived.Test.YtlmflomonbcjiaaDoorLexPlain4
namespace Go.Fl.Lx
open Go.Fl

theorem takeWhile_run (t r : List UInt8) (hall : ∀ c ∈ t, inRun c = true) (hr : ∀ c, r.head? = some c → inRun c = false) : (t ++ r).takeWhile inRun = t ∧ (t ++ r).dropWhile inRun = r := by
  induction t with
  | nil =>
    cases r with
    | nil => simp
    | cons c r =>
      have := hr c rfl
      simp [this]
  | cons c t ih =>
    have hc := hall c (by simp)
    have := ih (fun x hx => hall x (by simp [hx]))
    simp [hc, this]

theorem split_app_run (t r : List UInt8) (p : Nat × Nat) (ht : t ≠ []) (hall : ∀ c ∈ t, inRun c = true) (hr : ∀ c, r.head? = some c → inRun c = false) (hk : (kindOf t).2 = 0) :
    split (t ++ r) p = pre [⟨(kindOf t).1, t, p.1, p.2⟩] (split r (p.1, p.2 + t.length)) := by
  cases t with
  | nil => exact absurd rfl ht
  | cons c t =>
    have hc := hall c (by simp)
    have h2 := takeWhile_run t r (fun x hx => hall x (by simp [hx])) hr
    rw [List.cons_append, split_run c _ p hc (by rw [h2.1]; exact hk), h2.1, h2.2, adv_line _ _ (fun x hx => (run_ne x (hall x hx)).1)]
theorem split_app_err (t r : List UInt8) (p : Nat × Nat) (ht : t ≠ []) (hall : ∀ c ∈ t, inRun c = true) (hr : ∀ c, r.head? = some c → inRun c = false) (hk : (kindOf t).2 ≠ 0) :
    split (t ++ r) p = .error (p.1, p.2, (kindOf t).2) := by
  cases t with
  | nil => exact absurd rfl ht
  | cons c t =>
    have hc := hall c (by simp)
    have h2 := takeWhile_run t r (fun x hx => hall x (by simp [hx])) hr
    rw [List.cons_append, split_run_err c _ p hc (by rw [h2.1]; exact hk), h2.1]
theorem split_cons_sym (c : UInt8) (r : List UInt8) (p : Nat × Nat) (h : isSym c = true) : split (c :: r) p = pre [⟨3, [c], p.1, p.2⟩] (split r (p.1, p.2 + 1)) := by
  rw [split_sym c r p h]
  unfold step1
  rw [if_neg (by simpa using (sym_ne c h).1)]

theorem kind1 (l : List UInt8) (h : (kindOf l).1 = 1) : kindOf l = (1, 0) ∧ wordP l = true ∧ l.length ≤ 20 := by
  rw [kindOf_ref] at h ⊢
  by_cases hw : wordP l = true
  · rw [if_pos hw] at h ⊢
    by_cases h2 : 20 < l.length
    · rw [if_pos h2] at h; simp at h
    · rw [if_neg h2]; exact ⟨rfl, hw, by omega⟩
  · rw [if_neg hw] at h
    by_cases h0 : numN l = 0
    · rw [if_pos h0] at h; simp at h
    · rw [if_neg h0] at h
      by_cases h18 : 18 < numN l
      · rw [if_pos h18] at h; simp at h
      · rw [if_neg h18] at h; simp at h
theorem kind2 (l : List UInt8) (h : (kindOf l).1 = 2) : kindOf l = (2, 0) ∧ 0 < numN l := by
  rw [kindOf_ref] at h ⊢
  by_cases hw : wordP l = true
  · rw [if_pos hw] at h
    by_cases h2 : 20 < l.length
    · rw [if_pos h2] at h; simp at h
    · rw [if_neg h2] at h; simp at h
  · rw [if_neg hw] at h ⊢
    by_cases h0 : numN l = 0
    · rw [if_pos h0] at h; simp at h
    · rw [if_neg h0] at h ⊢
      by_cases h18 : 18 < numN l
      · rw [if_pos h18] at h; simp at h
      · rw [if_neg h18]; exact ⟨rfl, by omega⟩
theorem kind_ok (l : List UInt8) : (kindOf l).2 = 0 ↔ (kindOf l).1 = 1 ∨ (kindOf l).1 = 2 := by
  rw [kindOf_ref]
  by_cases hw : wordP l = true
  · rw [if_pos hw]
    by_cases h2 : 20 < l.length
    · rw [if_pos h2]; simp
    · rw [if_neg h2]; simp
  · rw [if_neg hw]
    by_cases h0 : numN l = 0
    · rw [if_pos h0]; simp
    · rw [if_neg h0]
      by_cases h18 : 18 < numN l
      · rw [if_pos h18]; simp
      · rw [if_neg h18]; simp

theorem word_run (l : List UInt8) (h : wordP l = true) : l ≠ [] ∧ ∀ c ∈ l, inRun c = true := by
  unfold wordP at h
  rw [Bool.and_eq_true, List.all_eq_true] at h
  refine ⟨fun e => by subst e; exact absurd h.1 (by decide), fun c hc => ?_⟩
  have h1 := h.2 c hc
  have := u8_all (p := fun c => !inWord c || inRun c) (by decide +kernel) c
  rw [h1] at this
  simpa using this
theorem num_all (l : List UInt8) (h : 0 < numN l) : l.all inNum = true := by
  rw [List.all_eq_true]
  intro c hc
  cases hb : inNum c with
  | true => rfl
  | false => have := numN_bad l c hc hb; omega
theorem num_run (l : List UInt8) (h : 0 < numN l) : l ≠ [] ∧ (∀ c ∈ l, inRun c = true) ∧ ∃ c r, l = c :: r ∧ isDigit c = true := by
  have hall := num_all l h
  have hg := numN_good l hall
  have hc : l.count 46 ≤ 1 ∧ l ≠ [] ∧ l.head? ≠ some 46 ∧ l.getLast? ≠ some 46 := by
    rcases Classical.em (l.count 46 ≤ 1 ∧ l ≠ [] ∧ l.head? ≠ some 46 ∧ l.getLast? ≠ some 46) with h1 | h1
    · exact h1
    · rw [if_neg h1] at hg; omega
  refine ⟨hc.2.1, fun c hcm => ?_, ?_⟩
  · have h1 := List.all_eq_true.1 hall c hcm
    have := u8_all (p := fun c => !inNum c || inRun c) (by decide +kernel) c
    rw [h1] at this
    simpa using this
  · cases l with
    | nil => exact absurd rfl hc.2.1
    | cons c r =>
      refine ⟨c, r, rfl, ?_⟩
      have h1 := List.all_eq_true.1 hall c (by simp)
      have h2 := hc.2.2.1
      unfold inNum at h1
      simp at h1 h2
      rcases h1 with h1 | h1
      · exact absurd h1 h2
      · exact h1

/-- A word directly behind a number is refused. -/
theorem kind_num_word (a b : List UInt8) (ha : 0 < numN a) (hb : wordP b = true) : kindOf (a ++ b) = (0, 3) := by
  obtain ⟨hne, hrun, c, r, rfl, hd⟩ := num_run a ha
  have hw : wordP (c :: r ++ b) = false := by
    have := u8_all (p := fun c => !isDigit c || !isLetter c) (by decide +kernel) c
    rw [hd] at this
    simp at this
    simp [wordP, headLetter, this]
  cases b with
  | nil => exact absurd hb (by decide)
  | cons d b =>
    have hl : isLetter d = true := by simp [wordP, headLetter] at hb; exact hb.1
    have hn : inNum d = false := by
      have := u8_all (p := fun c => !isLetter c || !inNum c) (by decide +kernel) d
      rw [hl] at this
      simpa using this
    have h0 : numN (c :: r ++ d :: b) = 0 := numN_bad _ d (by simp) hn
    rw [kindOf_ref, if_neg (by rw [hw]; simp), if_pos h0]
/-- A number behind a point is refused. -/
theorem kind_point (a : List UInt8) : kindOf (46 :: a) = (0, 3) := by
  have hw : wordP (46 :: a) = false := by simp [wordP, headLetter, show isLetter 46 = false by decide]
  have h0 : numN (46 :: a) = 0 := by simp [numN, digitsP]
  rw [kindOf_ref, if_neg (by rw [hw]; simp), if_pos h0]

/-- What LexTight asks of a word, a symbol and a number without blanks. -/
theorem tight1 (a n : List UInt8) (c : UInt8) (hk1 : (kindOf a).1 = 1) (hk2 : (kindOf n).1 = 2) (hc : isSym c = true) (hl : a.length ≤ 100) (hl2 : n.length ≤ 100) :
    ∃ p q r s t, lexRes (a ++ [c] ++ n ++ [c] ++ [c]) = .ok [⟨1, a, p, q⟩, ⟨3, [c], p, r⟩, ⟨2, n, p, s⟩, ⟨3, [c], p, t⟩, ⟨3, [c], p, t + 1⟩] := by
  have h1 := kind1 a hk1
  have h2 := kind2 n hk2
  have w1 := word_run a h1.2.1
  have n1 := num_run n h2.2
  have hcr := (sym_ne c hc).2.2.2.2.2
  have hlen : ¬ 65536 < (a ++ [c] ++ n ++ [c] ++ [c]).length := by simp; omega
  unfold lexRes
  rw [if_neg hlen]
  have e : a ++ [c] ++ n ++ [c] ++ [c] = a ++ (c :: (n ++ (c :: [c]))) := by simp
  rw [e, split_app_run a _ _ w1.1 w1.2 (by simp [hcr]) (by rw [h1.1]), split_cons_sym c _ _ hc, split_app_run n _ _ n1.1 n1.2.1 (by simp [hcr]) (by rw [h2.1]), split_cons_sym c _ _ hc, split_cons_sym c _ _ hc, split_nil, h1.1, h2.1]
  exact ⟨_, _, _, _, _, rfl⟩
theorem tight2 (a n : List UInt8) (c : UInt8) (hk1 : (kindOf a).1 = 1) (hk2 : (kindOf n).1 = 2) (hc : isSym c = true) (hl : a.length ≤ 100) (hl2 : n.length ≤ 100) :
    lexRes ([c] ++ n ++ a) = .error (1, 2, 3) := by
  have h1 := kind1 a hk1
  have h2 := kind2 n hk2
  have w1 := word_run a h1.2.1
  have n1 := num_run n h2.2
  have hk := kind_num_word n a h2.2 h1.2.1
  have hlen : ¬ 65536 < ([c] ++ n ++ a).length := by simp; omega
  unfold lexRes
  rw [if_neg hlen]
  have e : [c] ++ n ++ a = c :: ((n ++ a) ++ []) := by simp
  rw [e, split_cons_sym c _ _ hc, split_app_err (n ++ a) [] _ (by simp [n1.1]) (fun x hx => by
    rcases List.mem_append.1 hx with h | h
    · exact n1.2.1 x h
    · exact w1.2 x h) (by simp) (by rw [hk]; simp), hk]
  rfl
theorem tight3 (n : List UInt8) (hk2 : (kindOf n).1 = 2) (hl2 : n.length ≤ 100) : lexRes ([46] ++ n) = .error (1, 1, 3) := by
  have h2 := kind2 n hk2
  have n1 := num_run n h2.2
  have hk := kind_point n
  have hlen : ¬ 65536 < ([46] ++ n).length := by simp; omega
  unfold lexRes
  rw [if_neg hlen]
  have e : [46] ++ n = (46 :: n) ++ [] := by simp
  rw [e, split_app_err (46 :: n) [] _ (by simp) (fun x hx => by
    rcases List.mem_cons.1 hx with h | h
    · subst h; decide
    · exact n1.2.1 x h) (by simp) (by rw [hk]; simp), hk]
end Go.Fl.Lx
