/-
  The decimal texts read again, in plain Lean. Of no program.
-/
import Derived.Test.YtffdkakogeofmaaGreatDoorDecG
set_option linter.unusedVariables false
namespace Go.Fl.Dy
open Go.Fl.Nm
open Go.Lib (decDigits)
theorem dg_not {c x : UInt8} (hx : Nm.isDig x = true) (hc : Nm.isDig c = false) : x ≠ c := fun e => by rw [e, hc] at hx; cases hx
theorem padD_all (q v : Nat) : (padD q (decDigits v)).all Nm.isDig = true := by
  unfold padD
  rw [List.all_append, dec_digits, Bool.and_true, List.all_eq_true]
  intro x hx
  rw [List.eq_of_mem_replicate hx]
  decide
theorem padD_len (q : Nat) (l : List UInt8) : (padD q l).length = max l.length (q + 1) := by
  unfold padD
  rw [List.length_append, List.length_replicate]
  omega
theorem dval_pad (q : Nat) (l : List UInt8) : dval (padD q l) = dval l := by
  unfold padD
  generalize q + 1 - l.length = k
  induction k with
  | zero => rfl
  | succ k ih => rw [List.replicate_succ, List.cons_append, dval_zero_cons, ih]
theorem dig_head {l : List UInt8} (h : l.all Nm.isDig = true) : ngD l = false := by
  unfold ngD
  cases l with
  | nil => rfl
  | cons x t =>
    have h1 : Nm.isDig x = true := by simp at h; exact h.1
    have h2 := dg_not h1 (c := 45) (by decide)
    simpa using h2
theorem dig_no {l : List UInt8} {c : UInt8} (h : l.all Nm.isDig = true) (hc : Nm.isDig c = false) : c ∉ l := fun h1 => dg_not (List.all_eq_true.1 h c h1) hc rfl
theorem ptD_zero (l : List UInt8) : ptD 0 l = l := by unfold ptD; rw [if_pos rfl]
theorem ptD_pos {q : Nat} {l : List UInt8} (h : 0 < q) : ptD q l = l.take (l.length - q) ++ 46 :: l.drop (l.length - q) := by unfold ptD; rw [if_neg (by omega)]; simp
theorem parts_zero {l : List UInt8} (h : l.all Nm.isDig = true) : ptB l = false ∧ whD l = l ∧ frD l = [] := by
  have h1 : ptB l = false := by
    unfold ptB
    rw [Bool.eq_false_iff]
    intro h2
    exact dig_no h (c := 46) (by decide) (by simpa using h2)
  unfold whD frD
  rw [h1]
  exact ⟨rfl, rfl, rfl⟩
theorem parts_pt {a b : List UInt8} (ha : a.all Nm.isDig = true) : ptB (a ++ 46 :: b) = true ∧ whD (a ++ 46 :: b) = a ∧ frD (a ++ 46 :: b) = b := by
  have h1 : ptB (a ++ 46 :: b) = true := by unfold ptB; simp
  have h2 := Rt.tw_stop (p := (· != 46)) (a := a) (b := b) (c := 46) (fun x hx => by simp; exact dg_not (List.all_eq_true.1 ha x hx) (by decide)) (by simp)
  unfold whD frD
  rw [h1, if_pos rfl, if_pos rfl, h2.1, h2.2]
  exact ⟨rfl, rfl, rfl⟩
theorem pt_head {q v : Nat} : ngD (ptD q (padD q (decDigits v))) = false := by
  have hl := padD_len q (decDigits v)
  have ha := padD_all q v
  rcases Nat.eq_zero_or_pos q with h | h
  · subst h
    rw [ptD_zero]
    exact dig_head ha
  · rw [ptD_pos h]
    obtain ⟨l, hl2⟩ : ∃ l, padD q (decDigits v) = l := ⟨_, rfl⟩
    rw [hl2] at hl ha ⊢
    have h1 : (l.take (l.length - q)).all Nm.isDig = true := by
      rw [List.all_eq_true] at ha ⊢
      exact fun x hx => ha x (List.mem_of_mem_take hx)
    have h3 : 0 < l.length - q := by omega
    cases l with
    | nil => simp at h3
    | cons x t =>
      have h4 := dig_head ha
      unfold ngD at h4 ⊢
      rw [show (x :: t).length - q = ((x :: t).length - q - 1) + 1 by omega, List.take_succ_cons]
      simpa using h4
theorem rs_text (neg : Bool) (q v : Nat) : ngD (textD neg v q) = neg ∧ rsD (textD neg v q) = ptD q (padD q (decDigits v)) := by
  unfold textD rsD
  cases neg with
  | false =>
    have h := pt_head (q := q) (v := v)
    simp only [Bool.false_eq_true, if_false, List.nil_append]
    rw [h]
    exact ⟨rfl, rfl⟩
  | true => exact ⟨rfl, rfl⟩
theorem parts_text (q v : Nat) : okD (ptD q (padD q (decDigits v))) = true ∧ whD (ptD q (padD q (decDigits v))) ++ frD (ptD q (padD q (decDigits v))) = padD q (decDigits v) ∧ (frD (ptD q (padD q (decDigits v)))).length = q := by
  have hl := padD_len q (decDigits v)
  have ha := padD_all q v
  obtain ⟨l, hl2⟩ : ∃ l, padD q (decDigits v) = l := ⟨_, rfl⟩
  rw [hl2] at hl ha ⊢
  rcases Nat.eq_zero_or_pos q with h | h
  · subst h
    rw [ptD_zero]
    obtain ⟨p1, p2, p3⟩ := parts_zero ha
    unfold okD Rt.digs
    rw [p1, p2, p3, Rt.isDig_eq, ha]
    have : l ≠ [] := by intro e; rw [e] at hl; simp at hl; omega
    simp [this]
  · rw [ptD_pos h]
    have h1 : (l.take (l.length - q)).all Nm.isDig = true := by
      rw [List.all_eq_true] at ha ⊢
      exact fun x hx => ha x (List.mem_of_mem_take hx)
    have h2 : (l.drop (l.length - q)).all Nm.isDig = true := by
      rw [List.all_eq_true] at ha ⊢
      exact fun x hx => ha x (List.mem_of_mem_drop hx)
    obtain ⟨p1, p2, p3⟩ := parts_pt (b := l.drop (l.length - q)) h1
    have n1 : l.take (l.length - q) ≠ [] := by
      intro e
      have := congrArg List.length e
      rw [List.length_take] at this
      simp at this
      omega
    have n2 : l.drop (l.length - q) ≠ [] := by
      intro e
      have := congrArg List.length e
      rw [List.length_drop] at this
      simp at this
      omega
    unfold okD Rt.digs
    rw [p1, p2, p3, Rt.isDig_eq, h1, h2]
    rw [decide_eq_true n1, decide_eq_true n2]
    refine ⟨rfl, List.take_append_drop _ _, ?_⟩
    rw [List.length_drop]
    omega
theorem rd_text {neg : Bool} {v q : Nat} (h : max (decDigits v).length (q + 1) ≤ 256) : rdN (textD neg v q) = (⟨neg && decide (0 < v), v, q, max (decDigits v).length (q + 1)⟩, true) := by
  obtain ⟨h1, h2⟩ := rs_text neg q v
  obtain ⟨p1, p2, p3⟩ := parts_text q v
  have hlen : (whD (ptD q (padD q (decDigits v)))).length + (frD (ptD q (padD q (decDigits v)))).length = max (decDigits v).length (q + 1) := by
    rw [← List.length_append, p2, padD_len]
  unfold rdN
  rw [h1, h2, p1, hlen, p2, p3, if_pos rfl, if_neg (by omega), dval_pad, dval_dec]
theorem textD_inj {n1 n2 : Bool} {v1 v2 q : Nat} (h : textD n1 v1 q = textD n2 v2 q) : n1 = n2 ∧ v1 = v2 := by
  have a1 := rs_text n1 q v1
  have a2 := rs_text n2 q v2
  rw [h] at a1
  have e1 : n1 = n2 := a1.1.symm.trans a2.1
  have e2 := a1.2.symm.trans a2.2
  have b1 := (parts_text q v1).2.1
  have b2 := (parts_text q v2).2.1
  rw [e2] at b1
  have e3 := b1.symm.trans b2
  refine ⟨e1, ?_⟩
  have := congrArg dval e3
  rwa [dval_pad, dval_pad, dval_dec, dval_dec] at this
/-- A number with its sign. -/
def sI (neg : Bool) (v : Nat) : Int := if neg then -(v : Int) else v
theorem sI_natAbs (neg : Bool) (v : Nat) : (sI neg v).natAbs = v := by unfold sI; split <;> omega
theorem sI_neg {neg : Bool} {v : Nat} (h : neg = true → 0 < v) : decide (sI neg v < 0) = neg := by
  unfold sI
  cases neg with
  | true => have := h rfl; simp; omega
  | false => simp
end Go.Fl.Dy
namespace Go.Proofs.YtffdkakogeofmaaGreatDoor
open Go.Fl.Nm Go.Fl.Dy
theorem abv_iff {na nb : Bool} {va vb ba bb : Nat} (h1 : na = true → 0 < va) (h2 : nb = true → 0 < vb) :
    abvB na va ba nb vb bb = decide (sI nb vb * ((10 ^ ba : Nat) : Int) < sI na va * ((10 ^ bb : Nat) : Int)) := by
  have e1 : ((va * 10 ^ bb : Nat) : Int) = (va : Int) * ((10 ^ bb : Nat) : Int) := by rw [Int.natCast_mul]
  have e2 : ((vb * 10 ^ ba : Nat) : Int) = (vb : Int) * ((10 ^ ba : Nat) : Int) := by rw [Int.natCast_mul]
  have p1 : 0 < 10 ^ bb := Nat.pow_pos (by omega)
  have p2 : 0 < 10 ^ ba := Nat.pow_pos (by omega)
  unfold abvB sI
  cases na with
  | false =>
    cases nb with
    | false => simp only [Bool.bne_false, Bool.false_eq_true, if_false]; rw [decide_eq_decide]; omega
    | true =>
      have := Nat.mul_pos (h2 rfl) p2
      simp only [Bool.bne_true, Bool.not_false, if_true, Bool.false_eq_true, if_false, Int.neg_mul]
      exact (decide_eq_true (by omega)).symm
  | true =>
    have q1 := Nat.mul_pos (h1 rfl) p1
    cases nb with
    | false =>
      simp only [Bool.bne_false, if_true, Bool.false_eq_true, if_false, Int.neg_mul]
      exact (decide_eq_false (by omega)).symm
    | true =>
      simp only [Bool.bne_true, Bool.not_true, Bool.false_eq_true, if_false, if_true, Int.neg_mul]
      rw [decide_eq_decide]
      omega
theorem round_enc {neg : Bool} {v b p : Nat} (up : Bool) (h : neg = true → 0 < v) (hv : blen v ≤ 1100) (hb : blen (10 ^ b) ≤ 1100) (hp : 8 ≤ p) (hp2 : p ≤ 512) :
    divE (canon neg v 0) (canon false (10 ^ b) 0) (p : Int) up = (encE (sI neg v) ((10 ^ b : Nat) : Int) p up, 0) := by
  have p2 : 10 ^ b ≠ 0 := Nat.pos_iff_ne_zero.1 (Nat.pow_pos (by omega))
  have hpr : precB (p : Int) = true := precB_iff.2 ⟨by omega, by omega⟩
  unfold divE
  rw [hpr]
  simp only [if_true, Int.toNat_natCast]
  unfold encE
  by_cases h0 : v = 0
  · subst h0
    have hs : sI neg 0 = 0 := by unfold sI; split <;> rfl
    rw [hs, if_pos rfl]
    unfold divR
    have hd : (canon false (10 ^ b) 0).k ≠ 0 := by rw [canon_pos p2]; exact od_ne p2
    rw [if_neg hd, if_pos (by rfl)]
  · have hs : sI neg v ≠ 0 := by unfold sI; split <;> omega
    rw [if_neg hs, sI_neg h, sI_natAbs, Int.natAbs_natCast]
    exact div_encB neg up h0 p2 hv hb hp hp2 (enc_spec h0 p2 (by omega)) (encX_iff p2)
end Go.Proofs.YtffdkakogeofmaaGreatDoor
