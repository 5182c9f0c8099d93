/-
  The decimal texts read again, in plain Lean. Of no program.
-/
import Derived.Test.YtffdkakogeofmaaGreatDoorDecG
set_option linter.unusedVariables false
namespace Go.Fl.Dy
open Go.Fl.Nm
open Go.Lib (decDigits)
theorem dg_not {c x : UInt8} (hx : Nm.isDig x = true) (hc : Nm.isDig c = false) : x ≠ c := fun e => by rw [e, hc] at hx; cases hx
theorem dig_no {l : List UInt8} {c : UInt8} (h : l.all Nm.isDig = true) (hc : Nm.isDig c = false) : c ∉ l := fun h1 => dg_not (List.all_eq_true.1 h c h1) hc rfl
theorem parts_zero {l : List UInt8} (h : l.all Nm.isDig = true) : ptB l = false ∧ whD l = l ∧ frD l = [] := by
  have h1 : ptB l = false := by
    unfold ptB
    rw [Bool.eq_false_iff]
    intro h2
    exact dig_no h (c := 46) (by decide) (by simpa using h2)
  unfold whD frD
  rw [h1]
  exact ⟨rfl, rfl, rfl⟩
theorem parts_pt {a b : List UInt8} (ha : a.all Nm.isDig = true) : ptB (a ++ 46 :: b) = true ∧ whD (a ++ 46 :: b) = a ∧ frD (a ++ 46 :: b) = b := by
  have h1 : ptB (a ++ 46 :: b) = true := by unfold ptB; simp
  have h2 := Rt.tw_stop (p := (· != 46)) (a := a) (b := b) (c := 46) (fun x hx => by simp; exact dg_not (List.all_eq_true.1 ha x hx) (by decide)) (by simp)
  unfold whD frD
  rw [h1, if_pos rfl, if_pos rfl, h2.1, h2.2]
  exact ⟨rfl, rfl, rfl⟩
/-- A number with its sign. -/
def sI (neg : Bool) (v : Nat) : Int := if neg then -(v : Int) else v
theorem sI_natAbs (neg : Bool) (v : Nat) : (sI neg v).natAbs = v := by unfold sI; split <;> omega
theorem sI_neg {neg : Bool} {v : Nat} (h : neg = true → 0 < v) : decide (sI neg v < 0) = neg := by
  unfold sI
  cases neg with
  | true => have := h rfl; simp; omega
  | false => simp
end Go.Fl.Dy
namespace Go.Proofs.YtffdkakogeofmaaGreatDoor
open Go.Fl.Nm Go.Fl.Dy
theorem abv_iff {na nb : Bool} {va vb ba bb : Nat} (h1 : na = true → 0 < va) (h2 : nb = true → 0 < vb) :
    abvB na va ba nb vb bb = decide (sI nb vb * ((10 ^ ba : Nat) : Int) < sI na va * ((10 ^ bb : Nat) : Int)) := by
  have e1 : ((va * 10 ^ bb : Nat) : Int) = (va : Int) * ((10 ^ bb : Nat) : Int) := by rw [Int.natCast_mul]
  have e2 : ((vb * 10 ^ ba : Nat) : Int) = (vb : Int) * ((10 ^ ba : Nat) : Int) := by rw [Int.natCast_mul]
  have p1 : 0 < 10 ^ bb := Nat.pow_pos (by omega)
  have p2 : 0 < 10 ^ ba := Nat.pow_pos (by omega)
  unfold abvB sI
  cases na with
  | false =>
    cases nb with
    | false => simp only [Bool.bne_false, Bool.false_eq_true, if_false]; rw [decide_eq_decide]; omega
    | true =>
      have := Nat.mul_pos (h2 rfl) p2
      simp only [Bool.bne_true, Bool.not_false, if_true, Bool.false_eq_true, if_false, Int.neg_mul]
      exact (decide_eq_true (by omega)).symm
  | true =>
    have q1 := Nat.mul_pos (h1 rfl) p1
    cases nb with
    | false =>
      simp only [Bool.bne_false, if_true, Bool.false_eq_true, if_false, Int.neg_mul]
      exact (decide_eq_false (by omega)).symm
    | true =>
      simp only [Bool.bne_true, Bool.not_true, Bool.false_eq_true, if_false, if_true, Int.neg_mul]
      rw [decide_eq_decide]
      omega
theorem round_enc {neg : Bool} {v b p : Nat} (up : Bool) (h : neg = true → 0 < v) (hv : blen v ≤ 1100) (hb : blen (10 ^ b) ≤ 1100) (hp : 8 ≤ p) (hp2 : p ≤ 512) :
    divE (canon neg v 0) (canon false (10 ^ b) 0) (p : Int) up = (encE (sI neg v) ((10 ^ b : Nat) : Int) p up, 0) := by
  have p2 : 10 ^ b ≠ 0 := Nat.pos_iff_ne_zero.1 (Nat.pow_pos (by omega))
  have hpr : precB (p : Int) = true := precB_iff.2 ⟨by omega, by omega⟩
  unfold divE
  rw [hpr]
  simp only [if_true, Int.toNat_natCast]
  unfold encE
  by_cases h0 : v = 0
  · subst h0
    have hs : sI neg 0 = 0 := by unfold sI; split <;> rfl
    rw [hs, if_pos rfl]
    unfold divR
    have hd : (canon false (10 ^ b) 0).k ≠ 0 := by rw [canon_pos p2]; exact od_ne p2
    rw [if_neg hd, if_pos (by rfl)]
  · have hs : sI neg v ≠ 0 := by unfold sI; split <;> omega
    rw [if_neg hs, sI_neg h, sI_natAbs, Int.natAbs_natCast]
    exact div_encB neg up h0 p2 hv hb hp hp2 (enc_spec h0 p2 (by omega)) (encX_iff p2)
end Go.Proofs.YtffdkakogeofmaaGreatDoor
