/-
  Plain: what Parse reads in a decimal and in a quotient.
-/
import Derived.Test.YtnogfceojmnjiaaGreatDoorRatPlain4
namespace Go.Fl.Rt
open Go.Lib
theorem digs_of {l : List UInt8} (h : l.all isDig = true) (hn : l ≠ []) : digs l = true := by
  unfold digs
  cases l with
  | nil => exact absurd rfl hn
  | cons a t => simp_all
theorem no_of_all {l : List UInt8} {c : UInt8} (h : l.all isDig = true) (hc : isDig c = false) : c ∉ l := by
  intro hm
  have := List.all_eq_true.1 h c hm
  rw [hc] at this
  cases this
theorem head_no {l r : List UInt8} (h : l.all isDig = true) (hn : l ≠ []) : ((l ++ r).head? == some 45) = false := by
  cases l with
  | nil => exact absurd rfl hn
  | cons a t =>
    have ha : a ≠ 45 := fun e => no_of_all h (c := 45) (by decide) (by rw [e]; simp)
    simp [ha]
/-- A decimal. -/
theorem read_point {a b : List UInt8} (ha : a.all isDig = true) (hb : b.all isDig = true) (na : a ≠ []) (nb : b ≠ []) (hl : a.length + b.length ≤ 18) :
    read1 (a ++ 46 :: b) = make (dval (a ++ b) : Int) ((10 ^ b.length : Nat) : Int) := by
  unfold read1
  simp only [head_no ha na, Bool.false_eq_true, if_false, cut_some (no_of_all ha (c := 46) (by decide)), if_true, digs_of ha na, digs_of hb nb, Bool.not_true, Bool.or_false, Bool.true_and, Bool.or_self]
  rw [if_neg (by omega)]
/-- A negative quotient. -/
theorem read_slash {a b : List UInt8} (ha : a.all isDig = true) (hb : b.all isDig = true) (na : a ≠ []) (nb : b ≠ []) (hla : a.length ≤ 18) (hlb : b.length ≤ 18) :
    read1 (45 :: (a ++ 47 :: b)) = make (-(dval a : Int)) (dval b : Int) := by
  have h46 : (46 : UInt8) ∉ a ++ 47 :: b := by
    simp only [List.mem_append, List.mem_cons, not_or]
    exact ⟨no_of_all ha (by decide), by decide, no_of_all hb (by decide)⟩
  unfold read1
  simp only [List.head?_cons, beq_self_eq_true, if_true, List.tail_cons, cut_none h46, Bool.false_eq_true, if_false, cut_some (no_of_all ha (c := 47) (by decide)), digs_of ha na, digs_of hb nb, Bool.not_true, Bool.false_or, Bool.true_and, Bool.or_self]
  rw [if_neg (by omega)]
/-- Leading zeros. -/
theorem dval_zeros (k : Nat) (l : List UInt8) : dval (List.replicate k 48 ++ l) = dval l := by
  induction k with
  | zero => rfl
  | succ k ih =>
    rw [List.replicate_succ, List.cons_append]
    unfold dval at ih ⊢
    rw [List.foldl_cons]
    exact ih
end Go.Fl.Rt
