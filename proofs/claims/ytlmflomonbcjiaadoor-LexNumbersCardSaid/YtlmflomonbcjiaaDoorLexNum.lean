/-
  What ratio.Parse finds in the texts of tokens, in plain Lean. Of no program.
-/
import Derived.Test.YtlmflomonbcjiaaDoorLexPlain5
import Derived.Test.YtlmflomonbcjiaaDoorRatPlain
set_option linter.unusedVariables false
namespace Go.Fl.Lx
open Go.Fl.Rt (read1 digs cutB dval make MX)
/-- What a token of a text is. -/
def tokOk (t : Tok) : Prop := (t.kind = 3 ∧ ∃ c, t.text = [c] ∧ isSym c = true) ∨ ((t.kind = 1 ∨ t.kind = 2) ∧ (kindOf t.text).1 = t.kind)
theorem pre_mem {t : Tok} {r : Res} {ts : List Tok} (h : pre [t] r = .ok ts) : ∃ us, r = .ok us ∧ ts = t :: us := by
  cases r with
  | error e => cases h
  | ok us => exact ⟨us, rfl, by injection h with h; exact h.symm⟩
theorem split_toks : ∀ (n : Nat) (l : List UInt8) (p : Nat × Nat) (ts : List Tok), l.length ≤ n → split l p = .ok ts → ∀ t ∈ ts, tokOk t := by
  intro n
  induction n with
  | zero =>
    intro l p ts hn h
    obtain rfl : l = [] := List.eq_nil_of_length_eq_zero (by omega)
    rw [split_nil] at h
    injection h with h
    subst h
    intro t ht
    cases ht
  | succ n ih =>
    intro l p ts hn h
    cases l with
    | nil =>
      rw [split_nil] at h
      injection h with h
      subst h
      intro t ht
      cases ht
    | cons c r =>
      have hr : r.length ≤ n := by simp at hn; omega
      by_cases hb : isBlank c = true
      · rw [split_blank c r p hb] at h
        exact ih r _ ts hr h
      · by_cases hs : isSym c = true
        · rw [split_sym c r p hs] at h
          obtain ⟨us, h1, rfl⟩ := pre_mem h
          intro t ht
          rcases List.mem_cons.1 ht with rfl | ht
          · exact .inl ⟨rfl, c, rfl, hs⟩
          · exact ih r _ us hr h1 t ht
        · by_cases hi : inRun c = true
          · by_cases hk : (kindOf (c :: r.takeWhile inRun)).2 = 0
            · rw [split_run c r p hi hk] at h
              obtain ⟨us, h1, rfl⟩ := pre_mem h
              intro t ht
              rcases List.mem_cons.1 ht with rfl | ht
              · exact .inr ⟨(kind_ok _).1 hk, rfl⟩
              · exact ih _ _ us (Nat.le_trans (dropWhile_le r) hr) h1 t ht
            · rw [split_run_err c r p hi hk] at h
              cases h
          · by_cases h35 : c = 35
            · subst h35
              rw [split_hash] at h
              exact ih _ _ ts (Nat.le_trans (dropWhile_le r) hr) h
            · rw [split_bad c r p (by simpa using hb) (by simpa using hs) (by simpa using hi) h35] at h
              cases h
theorem dig_eq (c : UInt8) : Rt.isDig c = isDigit c := by
  have := u8_all (p := fun c => Rt.isDig c == isDigit c) (by decide +kernel) c
  simpa using this
theorem digs_eq (l : List UInt8) : digs l = digitsP l := by
  unfold digs digitsP
  have : (Rt.isDig : UInt8 → Bool) = isDigit := funext dig_eq
  rw [this, Bool.and_comm]
  cases l <;> simp
/-- A text that begins with neither a digit nor a minus sign is none of a ratio. -/
theorem read_no {l : List UInt8} (h : l.head? ≠ some 45) (h2 : ∀ c, l.head? = some c → isDigit c = false) : read1 l = (0, 0, 3) := by
  have h45 : (l.head? == some 45) = false := by
    cases hh : (l.head? == some 45) with
    | false => rfl
    | true => exact absurd (by simpa using hh) h
  unfold read1
  simp only [h45, Bool.false_eq_true, if_false]
  have key : ∀ a b : List UInt8, (a = [] ∨ (∃ c t, a = c :: t ∧ isDigit c = false)) → digs a = false := by
    intro a _ ha
    rw [digs_eq]
    unfold digitsP
    rcases ha with rfl | ⟨c, t, rfl, hc⟩
    · rfl
    · rw [List.all_cons, hc]; rfl
  have cutp : ∀ x : UInt8, (cutB x l).1 = [] ∨ (∃ c t, (cutB x l).1 = c :: t ∧ isDigit c = false) := by
    intro x
    unfold cutB
    split
    · cases l with
      | nil => exact .inl rfl
      | cons c t =>
        by_cases hx : c = x
        · exact .inl (by rw [List.takeWhile_cons_of_neg (by simpa using hx)])
        · exact .inr ⟨c, t.takeWhile (· != x), by rw [List.takeWhile_cons_of_pos (by simpa using hx)], h2 c rfl⟩
    · cases l with
      | nil => exact .inl rfl
      | cons c t => exact .inr ⟨c, t, rfl, h2 c rfl⟩
  have hd : digs (if (cutB 46 l).2.2 = true then ((cutB 46 l).1, (cutB 46 l).2.1, false) else cutB 47 l).1 = false := by
    split
    · exact key _ [] (cutp 46)
    · exact key _ [] (cutp 47)
  rw [hd]
  rfl
/-- A ratio or the error of a great number. -/
def ratOk (r : Int × Int × Int) : Prop := r.2.2 = 9 ∨ (r.2.2 = 0 ∧ 0 ≤ r.1)
theorem make_ok (n d : Nat) (hd : 0 < d) : ratOk (make (n : Int) (d : Int)) := by
  unfold make
  rw [if_neg (by omega)]
  split
  · exact .inl rfl
  · refine .inr ⟨rfl, ?_⟩
    have h1 : decide ((n : Int) < 0) = false := decide_eq_false (by omega)
    have h2 : decide ((d : Int) < 0) = false := decide_eq_false (by omega)
    rw [h1, h2]
    simp only [bne_self_eq_false, Bool.false_eq_true, if_false]
    exact Int.natCast_nonneg _
theorem tw_no {x : UInt8} {l : List UInt8} (h : x ∉ l) : l.takeWhile (· != x) = l := by
  induction l with
  | nil => rfl
  | cons c t ih =>
    rw [List.takeWhile_cons_of_pos (by simp; rintro rfl; exact h (List.mem_cons_self ..)), ih (fun hm => h (List.mem_cons_of_mem _ hm))]
theorem dig_mem {x : UInt8} {l : List UInt8} (h : l.all isDigit = true) (hx : isDigit x = false) : x ∉ l := fun hm => by
  have := List.all_eq_true.1 h x hm
  rw [hx] at this
  cases this
theorem read_num {l : List UInt8} (h : 0 < numN l) (h18 : numN l ≤ 18) : ratOk (read1 l) := by
  unfold numN at h h18
  split at h
  · rename_i hdw
    rw [hdw] at h18
    simp only at h18
    split at h
    · rename_i hdg
      have hall : l.all isDigit = true := by unfold digitsP at hdg; exact (Bool.and_eq_true _ _ ▸ hdg).1
      rw [if_pos hdg] at h18
      have n45 := dig_mem hall (x := 45) (by decide)
      have n46 := dig_mem hall (x := 46) (by decide)
      have n47 := dig_mem hall (x := 47) (by decide)
      have h45 : (l.head? == some 45) = false := by
        cases hh : (l.head? == some 45) with
        | false => rfl
        | true => exact absurd (List.mem_of_mem_head? (by simpa using hh)) n45
      have c46 : cutB 46 l = (l, [], false) := by unfold cutB; rw [if_neg (by simpa using n46)]
      have c47 : cutB 47 l = (l, [], false) := by unfold cutB; rw [if_neg (by simpa using n47)]
      unfold read1
      simp only [h45, c46, c47, Bool.false_eq_true, if_false, digs_eq, hdg]
      simp only [Bool.not_true, Bool.or_self, Bool.false_and, Bool.false_eq_true, if_false, List.append_nil, List.length_nil, Nat.add_zero]
      rw [if_neg (by omega)]
      exact make_ok _ _ (Nat.pow_pos (by omega))
    · omega
  · rename_i x b hdw
    rw [hdw] at h18
    simp only at h18
    split at h
    · rename_i hdg
      rw [if_pos hdg] at h18
      obtain ⟨ha, hb⟩ := Bool.and_eq_true _ _ ▸ hdg
      have hx : x = 46 := by
        have := List.head_dropWhile_not (p := fun c : UInt8 => c != 46) (l := l) (by rw [hdw]; simp)
        simp only [hdw, List.head_cons] at this
        simpa using this
      subst hx
      have hl : l = l.takeWhile (· != 46) ++ 46 :: b := by
        have := List.takeWhile_append_dropWhile (p := fun c : UInt8 => c != 46) (l := l)
        rw [hdw] at this
        exact this.symm
      have halla : (l.takeWhile (· != 46)).all isDigit = true := by unfold digitsP at ha; exact (Bool.and_eq_true _ _ ▸ ha).1
      have n45 := dig_mem halla (x := 45) (by decide)
      have hane : l.takeWhile (· != 46) ≠ [] := by
        intro e
        rw [e] at ha
        cases ha
      have h45 : (l.head? == some 45) = false := by
        cases hh : (l.head? == some 45) with
        | false => rfl
        | true =>
          exfalso
          have h1 : l.head? = some 45 := by simpa using hh
          rw [hl] at h1
          cases hq : l.takeWhile (· != 46) with
          | nil => exact hane hq
          | cons y t =>
            rw [hq] at h1 n45
            simp at h1
            exact n45 (by rw [h1]; exact List.mem_cons_self ..)
      have hm : l.contains 46 = true := by rw [List.contains_iff_mem, hl]; simp
      have c46 : cutB 46 l = (l.takeWhile (· != 46), b, true) := by
        unfold cutB
        rw [if_pos hm, hdw]
        rfl
      unfold read1
      simp only [h45, c46, Bool.false_eq_true, if_false, if_true, digs_eq, ha, hb]
      simp only [Bool.not_true, Bool.or_self, Bool.and_false, Bool.or_false, Bool.false_eq_true, if_false]
      rw [if_neg (by omega)]
      exact make_ok _ _ (Nat.pow_pos (by omega))
    · omega
theorem num_le (l : List UInt8) (h : (kindOf l).1 = 2) : numN l ≤ 18 := by
  unfold kindOf at h
  split at h
  · cases h
  · rename_i h1
    simp only [Bool.or_eq_true, decide_eq_true_eq, not_or] at h1
    omega
theorem num_len (l : List UInt8) (h : 0 < numN l) : l.length ≤ numN l + 1 := by
  unfold numN at h ⊢
  split at h
  · rename_i hdw
    split at h
    · rename_i hdg
      rw [if_pos hdg]
      omega
    · omega
  · rename_i x b hdw
    split at h
    · rename_i hdg
      rw [if_pos hdg]
      have := congrArg List.length (List.takeWhile_append_dropWhile (p := fun c : UInt8 => c != 46) (l := l))
      rw [hdw, List.length_append, List.length_cons] at this
      omega
    · omega
theorem tok_len {t : Tok} (h : tokOk t) : t.text.length ≤ 20 := by
  rcases h with ⟨_, c, hc, _⟩ | ⟨hk | hk, hkk⟩
  · rw [hc]; simp
  · exact (kind1 _ (hkk.trans hk)).2.2
  · have h1 := num_len _ (kind2 _ (hkk.trans hk)).2
    have h2 := num_le _ (hkk.trans hk)
    omega
/-- What ratio.Parse answers to a token's text. -/
theorem tok_read {t : Tok} (h : tokOk t) : (t.kind = 2 ∧ ratOk (read1 t.text)) ∨ (t.kind ≠ 2 ∧ (read1 t.text) = (0, 0, 3)) := by
  rcases h with ⟨hk, c, hc, hs⟩ | ⟨hk | hk, hkk⟩
  · refine .inr ⟨by omega, ?_⟩
    rw [hc]
    by_cases h45 : c = 45
    · subst h45; decide
    · refine read_no (by simpa using h45) ?_
      intro d hd
      have : c = d := by simpa using hd
      subst this
      have := u8_all (p := fun c => !isSym c || !isDigit c) (by decide +kernel) c
      simpa [hs] using this
  · refine .inr ⟨by omega, ?_⟩
    have h1 := (kind1 _ (hkk.trans hk)).2.1
    unfold wordP at h1
    obtain ⟨h2, _⟩ := Bool.and_eq_true _ _ ▸ h1
    have hp : ∀ c, t.text.head? = some c → isLetter c = true := by
      intro c hc
      cases ht : t.text with
      | nil => rw [ht] at hc; cases hc
      | cons y r =>
        rw [ht] at h2 hc
        have : y = c := by simpa using hc
        subst this
        exact h2
    refine read_no ?_ ?_
    · intro e
      have := hp 45 e
      revert this
      decide
    · intro c hc
      have := u8_all (p := fun c => !isLetter c || !isDigit c) (by decide +kernel) c
      simpa [hp c hc] using this
  · exact .inl ⟨hk, read_num (kind2 _ (hkk.trans hk)).2 (num_le _ (hkk.trans hk))⟩
end Go.Fl.Lx
