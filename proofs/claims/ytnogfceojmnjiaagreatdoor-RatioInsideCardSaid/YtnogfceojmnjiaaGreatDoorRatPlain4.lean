/-
  The text of a ratio is read as this ratio, in plain Lean. Of no program.
-/
import Derived.Test.YtnogfceojmnjiaaGreatDoorRatPlain
import Derived.Lib.ItoaMem
namespace Go.Fl.Rt
open Go.Lib

theorem dval_snoc (l : List UInt8) (b : UInt8) : dval (l ++ [b]) = 10 * dval l + (b.toNat - 48) := by simp [dval]
theorem dec_big {u : Nat} (h : ¬ u < 10) : decDigits u = decDigits (u / 10) ++ [UInt8.ofNat (48 + u % 10)] := by rw [decDigits, dif_neg h]
theorem dval_dec (v : Nat) : dval (decDigits v) = v := by
  induction v using Nat.strongRecOn with
  | ind v ih =>
    by_cases h : v < 10
    · rw [decDigits_one h]
      simp [dval]; omega
    · rw [dec_big h, dval_snoc, ih (v / 10) (by omega)]
      have : (UInt8.ofNat (48 + v % 10)).toNat = 48 + v % 10 := by simp; omega
      rw [this]; omega
theorem dec_digits (v : Nat) : (decDigits v).all isDig = true := by
  induction v using Nat.strongRecOn with
  | ind v ih =>
    by_cases h : v < 10
    · rw [decDigits_one h]
      simp [isDig]; omega
    · rw [dec_big h, List.all_append, ih (v / 10) (by omega)]
      simp [isDig]; omega
theorem dec_ne (v : Nat) : decDigits v ≠ [] := by
  intro h
  have h1 := congrArg List.length h
  rw [decDigits_length] at h1
  have := nDigits_pos v
  simp at h1
  omega
theorem dec_digs (v : Nat) : digs (decDigits v) = true := by
  unfold digs
  rw [dec_digits, decide_eq_true (dec_ne v)]
  rfl
theorem dec_no (v : Nat) {c : UInt8} (hc : isDig c = false) : c ∉ decDigits v := by
  intro h
  have := List.all_eq_true.1 (dec_digits v) c h
  rw [hc] at this
  cases this
theorem nDigits_le (k : Nat) : ∀ r, r < 10 ^ (k + 1) → nDigits r ≤ k + 1 := by
  induction k with
  | zero => intro r h; rw [nDigits_small (by simpa using h)]; omega
  | succ k ih =>
    intro r h
    by_cases h10 : r < 10
    · rw [nDigits_small h10]; omega
    · rw [nDigits_big h10]
      have := ih (r / 10) (by rw [Nat.div_lt_iff_lt_mul (by omega)]; rw [Nat.pow_succ] at h; exact h)
      omega
theorem dec_len9 {v : Nat} (h : v ≤ MX) : (decDigits v).length ≤ 10 := by
  rw [decDigits_length]
  exact nDigits_le 9 v (by unfold MX at h; omega)
/-- The text of a ratio. -/
def textR (n d : Int) : List UInt8 := itoa n ++ (if d = 1 then [] else 47 :: itoa d)
theorem head_dec (v : Nat) (r : List UInt8) : (decDigits v ++ r).head? ≠ some 45 := by
  cases hd : decDigits v with
  | nil => exact absurd hd (dec_ne v)
  | cons x t =>
    intro e
    simp at e
    exact dec_no v (c := 45) (by decide) (by rw [hd, e]; simp)
theorem read_text {n d : Int} (h : valid n d) : read1 (textR n d) = (n, d, 0) := by
  have hd := h.1
  have hv := h
  obtain ⟨_, hd2, hn1, hn2, _⟩ := h
  have hnl : (decDigits n.natAbs).length ≤ 10 := dec_len9 (by omega)
  have hdl : (decDigits d.natAbs).length ≤ 10 := dec_len9 (by omega)
  have hdd : itoa d = decDigits d.natAbs := by
    unfold itoa
    rw [if_neg (by omega)]
    congr 1
    omega
  have core : ∀ neg : Bool, ∀ r : List UInt8, r = decDigits n.natAbs ++ (if d = 1 then [] else 47 :: decDigits d.natAbs) → (if neg then -(n.natAbs : Int) else (n.natAbs : Int)) = n →
      (let p := cutB 46 r
       let q := if p.2.2 then (p.1, p.2.1, false) else cutB 47 r
       if !digs q.1 || ((p.2.2 || q.2.2) && !digs q.2.1) then ((0, 0, 3) : Int × Int × Int)
       else if 18 < (if q.2.2 then max q.1.length q.2.1.length else q.1.length + q.2.1.length) then (0, 0, 5)
       else
         let m : Int := if q.2.2 then dval q.1 else dval (q.1 ++ q.2.1)
         make (if neg then -m else m) (if q.2.2 then (dval q.2.1 : Int) else ((10 ^ q.2.1.length : Nat) : Int))) = (n, d, 0) := by
    intro neg r hr hneg
    have h46 : (46 : UInt8) ∉ r := by
      rw [hr]
      split
      · simpa using dec_no n.natAbs (c := 46) (by decide)
      · simp only [List.mem_append, List.mem_cons, not_or]
        exact ⟨dec_no _ (by decide), by decide, dec_no _ (by decide)⟩
    simp only [cut_none h46]
    by_cases h1 : d = 1
    · rw [if_pos h1, List.append_nil] at hr
      subst hr
      simp only [Bool.false_eq_true, if_false, cut_none (dec_no n.natAbs (c := 47) (by decide)), dec_digs, Bool.not_true, Bool.or_self, Bool.false_and, List.length_nil, Nat.add_zero, List.append_nil, dval_dec]
      rw [if_neg (by omega), hneg]
      exact make_of_eq hv (by decide) (by rw [h1]; rfl)
    · rw [if_neg h1] at hr
      subst hr
      simp only [Bool.false_eq_true, if_false, cut_some (dec_no n.natAbs (c := 47) (by decide)), dec_digs, Bool.not_true, Bool.false_or, Bool.or_self, Bool.and_false, if_true, dval_dec]
      rw [if_neg (by omega), hneg]
      refine make_of_eq hv (by omega) ?_
      congr 1
      omega
  unfold read1 textR
  by_cases hn : n < 0
  · have hi : itoa n = 45 :: decDigits n.natAbs := by unfold itoa; rw [if_pos hn]
    rw [hi, hdd]
    exact core true _ rfl (by simp; omega)
  · have hi : itoa n = decDigits n.natAbs := by
      unfold itoa
      rw [if_neg hn]
      congr 1
      omega
    rw [hi, hdd]
    have hh := head_dec n.natAbs (if d = 1 then [] else 47 :: decDigits d.natAbs)
    have hb : ((decDigits n.natAbs ++ if d = 1 then [] else 47 :: decDigits d.natAbs).head? == some 45) = false := by
      rw [beq_eq_false_iff_ne]; exact hh
    rw [hb]
    exact core false _ rfl (by simp; omega)
end Go.Fl.Rt
