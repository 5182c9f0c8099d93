/-
  The plain model of the lexer, line by line: where the tokens and the errors stand. Of no program.
-/
import Derived.Test.YtlmflomonbcjiaaDoorLexPlain6
import Derived.Lib.SplitLaws
set_option linter.unusedVariables false
namespace Go.Fl.Lx
/-- The lines of a text. -/
def lin : List UInt8 → List (List UInt8)
  | [] => [[]]
  | c :: r => if c = 10 then [] :: lin r else (c :: (lin r).headD []) :: (lin r).tail
theorem lin_ne (l : List UInt8) : lin l ≠ [] := by
  cases l with
  | nil => intro h; cases h
  | cons c r =>
    unfold lin
    split <;> exact List.cons_ne_nil _ _
theorem lin_line (a : List UInt8) (h : (10 : UInt8) ∉ a) : lin a = [a] := by
  induction a with
  | nil => rfl
  | cons c r ih =>
    have hc : c ≠ 10 := fun e => h (by rw [e]; exact List.mem_cons_self ..)
    unfold lin
    rw [if_neg hc, ih (fun hm => h (List.mem_cons_of_mem _ hm))]
    rfl
theorem lin_app (a b : List UInt8) (h : (10 : UInt8) ∉ a) : lin (a ++ 10 :: b) = a :: lin b := by
  induction a with
  | nil => rw [List.nil_append, lin, if_pos rfl]
  | cons c r ih =>
    have hc : c ≠ 10 := fun e => h (by rw [e]; exact List.mem_cons_self ..)
    rw [List.cons_append, lin, if_neg hc, ih (fun hm => h (List.mem_cons_of_mem _ hm))]
    rfl
theorem lin_no (l : List UInt8) : ∀ a ∈ lin l, (10 : UInt8) ∉ a := by
  induction l with
  | nil => intro a ha; rw [lin, List.mem_singleton] at ha; rw [ha]; exact List.not_mem_nil
  | cons c r ih =>
    intro a ha
    unfold lin at ha
    split at ha
    · rcases List.mem_cons.1 ha with rfl | ha
      · exact List.not_mem_nil
      · exact ih a ha
    · rename_i hc
      cases hl : lin r with
      | nil => exact absurd hl (lin_ne r)
      | cons h t =>
        rw [hl] at ha ih
        rcases List.mem_cons.1 ha with rfl | ha
        · intro hm
          rcases List.mem_cons.1 hm with hm | hm
          · exact hc hm.symm
          · exact ih h (List.mem_cons_self ..) hm
        · exact ih a (List.mem_cons_of_mem _ ha)
theorem lin_splitK (l : List UInt8) : Lib.splitK [10] 0 (Lib.count l [10]) l = lin l := by
  induction l with
  | nil =>
    rw [Lib.count_one]
    rfl
  | cons c r ih =>
    rw [Lib.count_one] at ih ⊢
    by_cases hc : c = 10
    · subst hc
      have hix : Lib.index (10 :: r) [10] = ((0 : Nat) : Int) := by rw [Lib.index]; simp [List.isPrefixOf]
      rw [List.count_cons_self, Lib.splitK, hix, if_neg (by decide), lin, if_pos rfl]
      simp only [Int.toNat_natCast, Nat.add_zero, List.take_zero, Nat.zero_add, List.length_cons, List.length_nil, List.drop_one, List.tail_cons]
      rw [ih]
    · have hp : ([10] : List UInt8).isPrefixOf (c :: r) = false := by simp [List.isPrefixOf, Ne.symm hc]
      have hix : Lib.index (c :: r) [10] = if Lib.index r [10] == -1 then -1 else Lib.index r [10] + 1 := by rw [Lib.index, hp]; simp
      rw [List.count_cons_of_ne (by simpa using hc), lin, if_neg hc, ← ih]
      cases hk : r.count 10 with
      | zero => rfl
      | succ k =>
        have hm : Lib.index r [10] ≠ -1 := fun e => by
          have := Lib.count_miss (s := r) (sub := [10]) e
          rw [Lib.count_one] at this
          omega
        have hge := Lib.index_ge r [10]
        obtain ⟨j, hj⟩ : ∃ j : Nat, Lib.index r [10] = j := ⟨(Lib.index r [10]).toNat, by omega⟩
        have hb : ((j : Int) == -1) = false := by rw [beq_eq_false_iff_ne]; omega
        have hb2 : ((j : Int) + 1 == -1) = false := by rw [beq_eq_false_iff_ne]; omega
        have e1 : ((j : Int) + 1).toNat = j + 1 := by omega
        rw [Lib.splitK, Lib.splitK, hix, hj]
        simp only [hb, hb2, e1, Bool.false_eq_true, if_false, Int.toNat_natCast, Nat.add_zero, List.length_cons, List.length_nil, Nat.zero_add, List.take_succ_cons, List.drop_succ_cons, List.headD_cons, List.tail_cons]
theorem mem_cut : ∀ (l : List UInt8), (10 : UInt8) ∈ l → ∃ a b, l = a ++ 10 :: b ∧ (10 : UInt8) ∉ a
  | [], h => by cases h
  | c :: r, h => by
    by_cases hc : c = 10
    · exact ⟨[], r, by rw [hc]; rfl, List.not_mem_nil⟩
    · obtain ⟨a, b, h1, h2⟩ := mem_cut r (by
        rcases List.mem_cons.1 h with e | e
        · exact absurd e.symm hc
        · exact e)
      exact ⟨c :: a, b, by rw [h1]; rfl, fun hx => by
        rcases List.mem_cons.1 hx with e | e
        · exact hc e.symm
        · exact h2 e⟩
/-- The tokens of lines from a line's number on. -/
def toksL : List (List UInt8) → Nat → Res
  | [], _ => .ok []
  | a :: t, i => andThen (split a (i, 1)) (toksL t (i + 1))
theorem andThen_nil (r : Res) : andThen r (.ok []) = r := by
  cases r with
  | error e => rfl
  | ok ts => simp [andThen, pre]
theorem split_toksL (n : Nat) (l : List UInt8) (i : Nat) (h : l.length ≤ n) : split l (i, 1) = toksL (lin l) i := by
  induction n generalizing l i with
  | zero =>
    obtain rfl : l = [] := List.eq_nil_of_length_eq_zero (by omega)
    rw [lin, toksL, toksL, andThen_nil]
  | succ n ih =>
    by_cases hm : (10 : UInt8) ∈ l
    · obtain ⟨a, b, rfl, ha⟩ := mem_cut l hm
      have hb : b.length ≤ n := by simp at h; omega
      rw [split_lines _ a b (i, 1) (Nat.le_refl _), lin_app a b ha, toksL, ← ih b (i + 1) hb, adv_line a (i, 1) (fun c hc e => ha (e ▸ hc))]
      rfl
    · rw [lin_line l hm, toksL, toksL, andThen_nil]
theorem pre_one {t : Tok} {r : Res} {ts : List Tok} (h : pre [t] r = .ok ts) : ∃ us, r = .ok us ∧ ts = t :: us := by
  cases r with
  | error e => cases h
  | ok us => exact ⟨us, rfl, by injection h with h; exact h.symm⟩
/-- One step of the lexer within a line. -/
theorem line_step (x : UInt8) (r : List UInt8) (i c : Nat) (h10 : (10 : UInt8) ∉ x :: r) :
    (∃ er, er ≠ 0 ∧ split (x :: r) (i, c) = .error (i, c, er)) ∨ ((x = 32 ∨ x = 9 ∨ x = 13) ∧ split (x :: r) (i, c) = split r (i, c + 1)) ∨
    (∃ t rest, t.line = i ∧ t.col = c ∧ t.text ≠ [] ∧ x :: r = t.text ++ rest ∧ split (x :: r) (i, c) = pre [t] (split rest (i, c + t.text.length))) ∨
    (x = 35 ∧ split (x :: r) (i, c) = .ok []) := by
  have hx : x ≠ 10 := fun e => h10 (by rw [e]; exact List.mem_cons_self ..)
  have hr10 : (10 : UInt8) ∉ r := fun hm => h10 (List.mem_cons_of_mem _ hm)
  have hs1 : step1 (i, c) x = (i, c + 1) := by unfold step1; rw [if_neg (by simpa using hx)]
  by_cases hb : isBlank x = true
  · refine .inr (.inl ⟨?_, ?_⟩)
    · rcases (blank_iff x).1 hb with h | h | h | h
      · exact .inl h
      · exact .inr (.inl h)
      · exact .inr (.inr h)
      · exact absurd h hx
    · rw [split_blank x r _ hb, hs1]
  · by_cases hs : isSym x = true
    · exact .inr (.inr (.inl ⟨⟨3, [x], i, c⟩, r, rfl, rfl, List.cons_ne_nil _ _, rfl, by rw [split_sym x r _ hs, hs1]; rfl⟩))
    · by_cases hi : inRun x = true
      · by_cases hk : (kindOf (x :: r.takeWhile inRun)).2 = 0
        · refine .inr (.inr (.inl ⟨⟨(kindOf (x :: r.takeWhile inRun)).1, x :: r.takeWhile inRun, i, c⟩, r.dropWhile inRun, rfl, rfl, List.cons_ne_nil _ _, ?_, ?_⟩))
          · show x :: r = x :: (r.takeWhile inRun ++ r.dropWhile inRun)
            rw [List.takeWhile_append_dropWhile]
          · rw [split_run x r _ hi hk, adv_line _ _ (fun y hy e => by
              subst e
              rcases List.mem_cons.1 hy with e | hy
              · exact hx e.symm
              · have := mem_takeWhile _ _ hy
                exact (run_ne _ this).1 rfl)]
        · exact .inl ⟨_, hk, split_run_err x r _ hi hk⟩
      · by_cases h35 : x = 35
        · refine .inr (.inr (.inr ⟨h35, ?_⟩))
          subst h35
          have hdw : r.dropWhile (· != 10) = [] := by
            cases hd : r.dropWhile (· != 10) with
            | nil => rfl
            | cons y z =>
              exfalso
              have := List.head_dropWhile_not (p := fun c : UInt8 => c != 10) (l := r) (by rw [hd]; simp)
              simp only [hd, List.head_cons] at this
              have hy : y = 10 := by simpa using this
              have : y ∈ r := (List.dropWhile_sublist (fun c : UInt8 => c != 10)).subset (by rw [hd]; exact List.mem_cons_self ..)
              exact hr10 (hy ▸ this)
          rw [split_hash, hdw, split_nil]
        · exact .inl ⟨3, by decide, split_bad x r _ (by simpa using hb) (by simpa using hs) (by simpa using hi) h35⟩
/-- Within one line: where the tokens stand, and where an error stands. -/
theorem line_all : ∀ (n : Nat) (a : List UInt8) (i c : Nat), a.length ≤ n → (10 : UInt8) ∉ a →
    (∀ ts, split a (i, c) = .ok ts → ∀ t ∈ ts, t.line = i ∧ c ≤ t.col) ∧ (∀ ln co er, split a (i, c) = .error (ln, co, er) → ln = i ∧ c ≤ co ∧ co < c + a.length ∧ er ≠ 0) := by
  intro n
  induction n with
  | zero =>
    intro a i c hn _
    obtain rfl : a = [] := List.eq_nil_of_length_eq_zero (by omega)
    rw [split_nil]
    exact ⟨fun ts h t ht => (by injection h with h; subst h; cases ht), fun ln co er h => (by cases h)⟩
  | succ n ih =>
    intro a i c hn h10
    cases a with
    | nil =>
      rw [split_nil]
      exact ⟨fun ts h t ht => (by injection h with h; subst h; cases ht), fun ln co er h => (by cases h)⟩
    | cons x r =>
      simp only [List.length_cons] at hn ⊢
      rcases line_step x r i c h10 with ⟨er, her, h⟩ | ⟨_, h⟩ | ⟨t, rest, hl, hc, hne, he, h⟩ | ⟨_, h⟩
      · rw [h]
        refine ⟨fun ts h => (by cases h), fun ln co er h => ?_⟩
        injection h with h
        injection h with h1 h2
        injection h2 with h2 h3
        omega
      · rw [h]
        obtain ⟨h1, h2⟩ := ih r i (c + 1) (by omega) (fun hm => h10 (List.mem_cons_of_mem _ hm))
        refine ⟨fun ts h t ht => ?_, fun ln co er h => ?_⟩
        · have := h1 ts h t ht
          exact ⟨this.1, by omega⟩
        · have := h2 ln co er h
          exact ⟨this.1, by omega, by omega, this.2.2.2⟩
      · rw [h]
        have hlen : r.length + 1 = t.text.length + rest.length := by
          have := congrArg List.length he
          rwa [List.length_cons, List.length_append] at this
        have hpos : 0 < t.text.length := List.length_pos_iff.2 hne
        obtain ⟨h1, h2⟩ := ih rest i (c + t.text.length) (by omega) (fun hm => h10 (by rw [he]; exact List.mem_append_right _ hm))
        refine ⟨fun ts h u hu => ?_, fun ln co er h => ?_⟩
        · obtain ⟨us, h3, rfl⟩ := pre_one h
          rcases List.mem_cons.1 hu with rfl | hu
          · exact ⟨hl, by omega⟩
          · have := h1 us h3 u hu
            exact ⟨this.1, by omega⟩
        · cases hs : split rest (i, c + t.text.length) with
          | ok us => rw [hs] at h; cases h
          | error e =>
            obtain ⟨a', b', c'⟩ := e
            rw [hs] at h
            injection h with h
            have := h2 a' b' c' hs
            injection h with h3 h4
            injection h4 with h4 h5
            omega
      · rw [h]
        exact ⟨fun ts h t ht => (by injection h with h; subst h; cases ht), fun ln co er h => (by cases h)⟩
theorem andThen_ok {r s : Res} {ts : List Tok} (h : andThen r s = .ok ts) : ∃ us vs, r = .ok us ∧ s = .ok vs ∧ ts = us ++ vs := by
  cases r with
  | error e => cases h
  | ok us =>
    cases s with
    | error e => cases h
    | ok vs => exact ⟨us, vs, rfl, rfl, by injection h with h; exact h.symm⟩
/-- The tokens of later lines. -/
theorem toksL_later : ∀ (ls : List (List UInt8)) (i : Nat) (ts : List Tok), (∀ a ∈ ls, (10 : UInt8) ∉ a) → toksL ls i = .ok ts → ∀ t ∈ ts, i ≤ t.line
  | [], i, ts, _, h => by
    injection h with h
    subst h
    intro t ht
    cases ht
  | a :: l, i, ts, h10, h => by
    obtain ⟨us, vs, h1, h2, rfl⟩ := andThen_ok h
    intro t ht
    rcases List.mem_append.1 ht with ht | ht
    · have := (line_all _ a i 1 (Nat.le_refl _) (h10 a (List.mem_cons_self ..))).1 us h1 t ht
      omega
    · have := toksL_later l (i + 1) vs (fun b hb => h10 b (List.mem_cons_of_mem _ hb)) h2 t ht
      omega
/-- The place of an error is one of the text. -/
theorem toksL_err : ∀ (ls : List (List UInt8)) (i ln co er : Nat), (∀ a ∈ ls, (10 : UInt8) ∉ a) → toksL ls i = .error (ln, co, er) → i ≤ ln ∧ 1 ≤ co ∧ er ≠ 0 ∧ ∃ a, ls[ln - i]? = some a ∧ co ≤ a.length
  | [], i, ln, co, er, _, h => by cases h
  | a :: l, i, ln, co, er, h10, h => by
    unfold toksL at h
    cases hs : split a (i, 1) with
    | error e =>
      rw [hs] at h
      injection h with h
      subst h
      have := (line_all _ a i 1 (Nat.le_refl _) (h10 a (List.mem_cons_self ..))).2 ln co er hs
      refine ⟨by omega, by omega, this.2.2.2, a, ?_, by omega⟩
      rw [this.1, Nat.sub_self]
      rfl
    | ok us =>
      rw [hs] at h
      cases ht : toksL l (i + 1) with
      | ok vs => rw [ht] at h; cases h
      | error e =>
        rw [ht] at h
        injection h with h
        subst h
        obtain ⟨h1, h2, h5, b, h3, h4⟩ := toksL_err l (i + 1) ln co er (fun b hb => h10 b (List.mem_cons_of_mem _ hb)) ht
        refine ⟨by omega, h2, h5, b, ?_, h4⟩
        rw [show ln - i = (ln - (i + 1)) + 1 by omega, List.getElem?_cons_succ]
        exact h3
/-- What the law's loop meets at a byte of a line. -/
theorem law_step (x : UInt8) (r : List UInt8) (i c : Nat) (us vs : List Tok) (h10 : (10 : UInt8) ∉ x :: r) (h : split (x :: r) (i, c) = .ok us) (hv : ∀ t ∈ vs, i < t.line) :
    (∃ t us' rest, us = t :: us' ∧ t.line = i ∧ t.col = c ∧ t.text ≠ [] ∧ x :: r = t.text ++ rest ∧ split rest (i, c + t.text.length) = .ok us') ∨
    ((∀ t, (us ++ vs).head? = some t → ¬ (t.line = i ∧ t.col = c)) ∧ x = 35 ∧ us = []) ∨
    ((∀ t, (us ++ vs).head? = some t → ¬ (t.line = i ∧ t.col = c)) ∧ (x = 32 ∨ x = 9 ∨ x = 13) ∧ split r (i, c + 1) = .ok us) := by
  have hvs : ∀ t, vs.head? = some t → ¬ (t.line = i ∧ t.col = c) := fun t ht e => by
    have := hv t (List.mem_of_mem_head? ht)
    omega
  rcases line_step x r i c h10 with ⟨er, _, h1⟩ | ⟨hx, h1⟩ | ⟨t, rest, hl, hc, hne, he, h1⟩ | ⟨hx, h1⟩
  · rw [h1] at h; cases h
  · rw [h1] at h
    refine .inr (.inr ⟨fun t ht e => ?_, hx, h⟩)
    cases us with
    | nil => exact hvs t ht e
    | cons u us =>
      have hu : u = t := by simpa using ht
      have := (line_all _ r i (c + 1) (Nat.le_refl _) (fun hm => h10 (List.mem_cons_of_mem _ hm))).1 _ h u (List.mem_cons_self ..)
      rw [hu] at this
      omega
  · rw [h1] at h
    obtain ⟨us', h2, rfl⟩ := pre_one h
    exact .inl ⟨t, us', rest, rfl, hl, hc, hne, he, h2⟩
  · rw [h1] at h
    injection h with h
    subst h
    exact .inr (.inl ⟨hvs, hx, rfl⟩)
end Go.Fl.Lx
