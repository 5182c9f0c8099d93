/-
  The plain model of the lexer: computing it.
-/
import Derived.Test.YtlmflomonbcjiaaDoorLexPlain2
namespace Go.Fl.Lx

/-- 'split' with fuel, to be computed. -/
def splitF : Nat → List UInt8 → Nat × Nat → Res
  | 0, _, _ => .ok []
  | n + 1, l, p =>
    match l with
    | [] => .ok []
    | c :: r =>
      if isBlank c then splitF n r (step1 p c)
      else if isSym c then pre [⟨3, [c], p.1, p.2⟩] (splitF n r (step1 p c))
      else if inRun c then
        if (kindOf (c :: r.takeWhile inRun)).2 = 0 then
          pre [⟨(kindOf (c :: r.takeWhile inRun)).1, c :: r.takeWhile inRun, p.1, p.2⟩] (splitF n (r.dropWhile inRun) (adv (c :: r.takeWhile inRun) p))
        else .error (p.1, p.2, (kindOf (c :: r.takeWhile inRun)).2)
      else if c == 35 then splitF n (r.dropWhile (· != 10)) (adv (c :: r.takeWhile (· != 10)) p)
      else .error (p.1, p.2, 3)
theorem split_eq_F (n : Nat) (l : List UInt8) (p : Nat × Nat) (h : l.length ≤ n) : split l p = splitF n l p := by
  induction n generalizing l p with
  | zero =>
    have : l = [] := List.eq_nil_of_length_eq_zero (by omega)
    subst this
    rw [split_nil]; rfl
  | succ n ih =>
    cases l with
    | nil => rw [split_nil]; rfl
    | cons c r =>
      simp only [List.length_cons] at h
      rw [split, splitF]
      have h1 := dropWhile_le (p := inRun) r
      have h2 := dropWhile_le (p := (· != 10)) r
      rw [ih r _ (by omega), ih (r.dropWhile inRun) _ (by omega), ih (r.dropWhile (· != 10)) _ (by omega)]
end Go.Fl.Lx
