/-
  Ratios of integers in lowest terms, the laws of fractions, and the texts of ratios, in plain Lean. Of no program.
-/
import Derived.Test.YtlmflomonbcjiaaDoorBase
set_option linter.unusedVariables false
namespace Go.Fl.Rt

/-- The greatest numerator and denominator. -/
def MX : Nat := 1073741824
/-- A valid ratio. -/
def valid (n d : Int) : Prop := 1 ≤ d ∧ d ≤ MX ∧ -(MX : Int) ≤ n ∧ n ≤ MX ∧ Nat.gcd n.natAbs d.natAbs = 1
instance (n d : Int) : Decidable (valid n d) := by unfold valid; infer_instance
/-- What Make returns: numerator, denominator, error number (10: zero, 9: too big). -/
def make (n d : Int) : Int × Int × Int :=
  if d = 0 then (0, 0, 10)
  else if MX < n.natAbs / Nat.gcd n.natAbs d.natAbs ∨ MX < d.natAbs / Nat.gcd n.natAbs d.natAbs then (0, 0, 9)
  else (if decide (n < 0) != decide (d < 0) then -((n.natAbs / Nat.gcd n.natAbs d.natAbs : Nat) : Int) else ((n.natAbs / Nat.gcd n.natAbs d.natAbs : Nat) : Int), ((d.natAbs / Nat.gcd n.natAbs d.natAbs : Nat) : Int), 0)

theorem gcd_pos_of {n d : Int} (h : d ≠ 0) : 0 < Nat.gcd n.natAbs d.natAbs := Nat.gcd_pos_of_pos_right _ (by omega)

/-- Two numbers in lowest terms with the same cross products are the same. -/
theorem lowest_unique {a b c e : Nat} (hb : 0 < b) (he : 0 < e) (h1 : Nat.gcd a b = 1) (h2 : Nat.gcd c e = 1) (h : a * e = c * b) : a = c ∧ b = e := by
  have hbe : b ∣ e := by
    have : b ∣ a * e := ⟨c, by rw [h, Nat.mul_comm]⟩
    exact Nat.Coprime.dvd_of_dvd_mul_left (Nat.Coprime.symm (show Nat.Coprime a b from h1)) this
  have heb : e ∣ b := by
    have : e ∣ c * b := ⟨a, by rw [← h, Nat.mul_comm]⟩
    exact Nat.Coprime.dvd_of_dvd_mul_left (Nat.Coprime.symm (show Nat.Coprime c e from h2)) this
  have hbe' := Nat.dvd_antisymm hbe heb
  subst hbe'
  exact ⟨Nat.eq_of_mul_eq_mul_right hb h, rfl⟩

theorem red_coprime {a b : Nat} (hb : 0 < b) : Nat.gcd (a / Nat.gcd a b) (b / Nat.gcd a b) = 1 := Nat.gcd_div_gcd_div_gcd_of_pos_right hb
theorem red_cross {a b : Nat} (hb : 0 < b) : (a / Nat.gcd a b) * b = a * (b / Nat.gcd a b) := by
  have hg : 0 < Nat.gcd a b := Nat.gcd_pos_of_pos_right _ hb
  obtain ⟨x, hx⟩ := Nat.gcd_dvd_left a b
  obtain ⟨y, hy⟩ := Nat.gcd_dvd_right a b
  have e1 : a / Nat.gcd a b = x := by
    have : a / Nat.gcd a b = Nat.gcd a b * x / Nat.gcd a b := by rw [← hx]
    rw [this, Nat.mul_div_cancel_left _ hg]
  have e2 : b / Nat.gcd a b = y := by
    have : b / Nat.gcd a b = Nat.gcd a b * y / Nat.gcd a b := by rw [← hy]
    rw [this, Nat.mul_div_cancel_left _ hg]
  rw [e1, e2]
  generalize Nat.gcd a b = g at *
  rw [hx, hy, Nat.mul_comm x (g * y), Nat.mul_assoc, Nat.mul_assoc, Nat.mul_comm y x]

/-- A valid ratio with the same value is what Make returns. -/
theorem make_of_eq {n d x y : Int} (hv : valid n d) (hy : y ≠ 0) (h : x * d = n * y) : make x y = (n, d, 0) := by
  obtain ⟨hd1, hd2, hn1, hn2, hg⟩ := hv
  have hyn : 0 < y.natAbs := by omega
  have hdn : 0 < d.natAbs := by omega
  have hcross : x.natAbs * d.natAbs = n.natAbs * y.natAbs := by rw [← Int.natAbs_mul, ← Int.natAbs_mul, h]
  have hr := red_cross (a := x.natAbs) hyn
  have hyp : 0 < y.natAbs / Nat.gcd x.natAbs y.natAbs := Nat.div_pos (Nat.gcd_le_right _ hyn) (Nat.gcd_pos_of_pos_right _ hyn)
  have key : (x.natAbs / Nat.gcd x.natAbs y.natAbs) * d.natAbs = n.natAbs * (y.natAbs / Nat.gcd x.natAbs y.natAbs) := by
    apply Nat.eq_of_mul_eq_mul_right hyn
    rw [Nat.mul_right_comm, hr, Nat.mul_right_comm x.natAbs, hcross, Nat.mul_right_comm n.natAbs]
  obtain ⟨e1, e2⟩ := lowest_unique hyp hdn (red_coprime hyn) hg key
  unfold make
  rw [if_neg hy, e1, e2, if_neg (by unfold MX at *; omega)]
  have hsign : (decide (x < 0) != decide (y < 0)) = decide (n < 0) ∨ n = 0 := by
    rcases Int.lt_trichotomy n 0 with hn | hn | hn
    · left
      rcases Int.lt_or_gt_of_ne hy with hy' | hy'
      · have : 0 < n * y := Int.mul_pos_of_neg_of_neg hn hy'
        have hx : 0 < x := by
          rcases Int.lt_trichotomy x 0 with h1 | h1 | h1
          · have := Int.mul_neg_of_neg_of_pos h1 (show 0 < d by omega); omega
          · rw [h1, Int.zero_mul] at h; omega
          · exact h1
        rw [decide_eq_false (by omega), decide_eq_true hy', decide_eq_true hn]; rfl
      · have : n * y < 0 := Int.mul_neg_of_neg_of_pos hn hy'
        have hx : x < 0 := by
          rcases Int.lt_trichotomy x 0 with h1 | h1 | h1
          · exact h1
          · rw [h1, Int.zero_mul] at h; omega
          · have := Int.mul_pos h1 (show 0 < d by omega); omega
        rw [decide_eq_true hx, decide_eq_false (by omega), decide_eq_true hn]; rfl
    · right; exact hn
    · left
      rcases Int.lt_or_gt_of_ne hy with hy' | hy'
      · have : n * y < 0 := Int.mul_neg_of_pos_of_neg hn hy'
        have hx : x < 0 := by
          rcases Int.lt_trichotomy x 0 with h1 | h1 | h1
          · exact h1
          · rw [h1, Int.zero_mul] at h; omega
          · have := Int.mul_pos h1 (show 0 < d by omega); omega
        rw [decide_eq_true hx, decide_eq_true hy', decide_eq_false (by omega)]; rfl
      · have : 0 < n * y := Int.mul_pos hn hy'
        have hx : 0 < x := by
          rcases Int.lt_trichotomy x 0 with h1 | h1 | h1
          · have := Int.mul_neg_of_neg_of_pos h1 (show 0 < d by omega); omega
          · rw [h1, Int.zero_mul] at h; omega
          · exact h1
        rw [decide_eq_false (by omega), decide_eq_false (by omega), decide_eq_false (by omega)]; rfl
  have hdd : ((d.natAbs : Nat) : Int) = d := by omega
  rw [hdd]
  rcases hsign with hs | hs
  · rw [hs]
    by_cases hn : n < 0
    · rw [if_pos (by simpa using hn)]
      congr 1
      omega
    · rw [if_neg (by simpa using hn)]
      congr 1
      omega
  · subst hs
    simp
/-- What Make returns is a valid ratio with the same value. -/
theorem make_ok {x y n d : Int} (h : make x y = (n, d, 0)) : valid n d ∧ y ≠ 0 ∧ x * d = n * y := by
  unfold make at h
  by_cases hy : y = 0
  · rw [if_pos hy] at h; cases h
  · rw [if_neg hy] at h
    have hyn : 0 < y.natAbs := by omega
    by_cases hb : MX < x.natAbs / Nat.gcd x.natAbs y.natAbs ∨ MX < y.natAbs / Nat.gcd x.natAbs y.natAbs
    · rw [if_pos hb] at h; cases h
    · rw [if_neg hb] at h
      have hr := red_cross (a := x.natAbs) hyn
      have hcop := red_coprime (a := x.natAbs) hyn
      have hyp : 0 < y.natAbs / Nat.gcd x.natAbs y.natAbs := Nat.div_pos (Nat.gcd_le_right _ hyn) (Nat.gcd_pos_of_pos_right _ hyn)
      generalize x.natAbs / Nat.gcd x.natAbs y.natAbs = p at *
      generalize y.natAbs / Nat.gcd x.natAbs y.natAbs = q at *
      have hr' : (p : Int) * y.natAbs = x.natAbs * q := by exact_mod_cast hr
      simp only [Prod.mk.injEq] at h
      obtain ⟨h1, h2, _⟩ := h
      subst h2
      refine ⟨?_, hy, ?_⟩
      · unfold valid
        refine ⟨by omega, by omega, ?_, ?_, ?_⟩
        · split at h1 <;> omega
        · split at h1 <;> omega
        · have : n.natAbs = p := by split at h1 <;> omega
          rw [this]; simpa using hcop
      · by_cases hx0 : x < 0
        · by_cases hy0 : y < 0
          · have hs : (decide (x < 0) != decide (y < 0)) = false := by rw [decide_eq_true hx0, decide_eq_true hy0]; rfl
            rw [if_neg (by rw [hs]; simp)] at h1
            have e1 : ((x.natAbs : Nat) : Int) = -x := by omega
            have e2 : ((y.natAbs : Nat) : Int) = -y := by omega
            rw [e1, e2] at hr'
            rw [← h1, Int.neg_mul, Int.mul_neg] at *
            omega
          · have hs : (decide (x < 0) != decide (y < 0)) = true := by rw [decide_eq_true hx0, decide_eq_false hy0]; rfl
            rw [if_pos hs] at h1
            have e1 : ((x.natAbs : Nat) : Int) = -x := by omega
            have e2 : ((y.natAbs : Nat) : Int) = y := by omega
            rw [e1, e2, Int.neg_mul] at hr'
            rw [← h1, Int.neg_mul]
            omega
        · by_cases hy0 : y < 0
          · have hs : (decide (x < 0) != decide (y < 0)) = true := by rw [decide_eq_false hx0, decide_eq_true hy0]; rfl
            rw [if_pos hs] at h1
            have e1 : ((x.natAbs : Nat) : Int) = x := by omega
            have e2 : ((y.natAbs : Nat) : Int) = -y := by omega
            rw [e1, e2, Int.mul_neg] at hr'
            rw [← h1, Int.neg_mul]
            omega
          · have hs : (decide (x < 0) != decide (y < 0)) = false := by rw [decide_eq_false hx0, decide_eq_false hy0]; rfl
            rw [if_neg (by rw [hs]; simp)] at h1
            have e1 : ((x.natAbs : Nat) : Int) = x := by omega
            have e2 : ((y.natAbs : Nat) : Int) = y := by omega
            rw [e1, e2] at hr'
            rw [← h1]
            omega
end Go.Fl.Rt
namespace Go.Fl.Rt

def addR (an ad bn bd : Int) : Int × Int × Int := make (an * bd + bn * ad) (ad * bd)
def subR (an ad bn bd : Int) : Int × Int × Int := make (an * bd - bn * ad) (ad * bd)
def mulR (an ad bn bd : Int) : Int × Int × Int := make (an * bn) (ad * bd)
def divR (an ad bn bd : Int) : Int × Int × Int := make (an * bd) (ad * bn)
def cmpR (an ad bn bd : Int) : Int := if an * bd < bn * ad then -1 else if bn * ad < an * bd then 1 else 0

theorem valid_pos {n d : Int} (h : valid n d) : 0 < d := by have := h.1; omega
theorem addR_comm (an ad bn bd : Int) : addR an ad bn bd = addR bn bd an ad := by
  unfold addR
  rw [Int.add_comm, Int.mul_comm ad bd]
theorem mulR_comm (an ad bn bd : Int) : mulR an ad bn bd = mulR bn bd an ad := by
  unfold mulR
  rw [Int.mul_comm an bn, Int.mul_comm ad bd]
theorem mul_ne {a b : Int} (ha : 0 < a) (hb : 0 < b) : a * b ≠ 0 := by have := Int.mul_pos ha hb; omega
/-- A sum less one of its terms is the other one. -/
theorem sub_add {an ad bn bd n d : Int} (ha : valid an ad) (hb : valid bn bd) (h : addR an ad bn bd = (n, d, 0)) : subR n d bn bd = (an, ad, 0) := by
  obtain ⟨hv, _, e⟩ := make_ok h
  refine make_of_eq ha (mul_ne (valid_pos hv) (valid_pos hb)) ?_
  have e1 : (n * bd - bn * d) * ad = n * (ad * bd) - bn * ad * d := by
    rw [Int.sub_mul, Int.mul_assoc n, Int.mul_comm bd ad, Int.mul_right_comm bn]
  rw [e1, ← e, Int.add_mul, Int.mul_assoc an, Int.mul_comm d bd]
  omega
/-- A product divided by one of its factors is the other one. -/
theorem div_mul {an ad bn bd n d : Int} (ha : valid an ad) (hb0 : bn ≠ 0) (h : mulR an ad bn bd = (n, d, 0)) : divR n d bn bd = (an, ad, 0) := by
  obtain ⟨hv, _, e⟩ := make_ok h
  have hd := valid_pos hv
  refine make_of_eq ha (Int.mul_ne_zero (by omega) hb0) ?_
  rw [Int.mul_assoc n, Int.mul_comm bd ad, ← e, Int.mul_assoc an, Int.mul_comm d bn]
theorem make_unique {x y x' y' n d n' d' : Int} (h : make x y = (n, d, 0)) (h' : make x' y' = (n', d', 0)) (hc : x * y' = x' * y) : n = n' ∧ d = d' := by
  obtain ⟨hv, hy, e⟩ := make_ok h
  obtain ⟨hv', hy', e'⟩ := make_ok h'
  have key : x * d' = n' * y := by
    apply Int.eq_of_mul_eq_mul_right hy'
    rw [Int.mul_right_comm, hc, Int.mul_right_comm, e', Int.mul_right_comm]
  have := make_of_eq hv' hy key
  rw [h] at this
  simp only [Prod.mk.injEq] at this
  exact ⟨this.1, this.2.1⟩
/-- A product distributes over a sum. -/
theorem mul_dist {cn cd an ad bn bd sn sd kn kd ln ld xn xd yn yd : Int} (hs : addR an ad bn bd = (sn, sd, 0)) (hk : mulR cn cd an ad = (kn, kd, 0)) (hl : mulR cn cd bn bd = (ln, ld, 0)) (hx : mulR cn cd sn sd = (xn, xd, 0)) (hy : addR kn kd ln ld = (yn, yd, 0)) :
    xn = yn ∧ xd = yd := by
  obtain ⟨_, hs0, es⟩ := make_ok hs
  obtain ⟨_, hk0, ek⟩ := make_ok hk
  obtain ⟨_, hl0, el⟩ := make_ok hl
  refine make_unique hx hy ?_
  have hcd : cd ≠ 0 := fun h => hk0 (by rw [h, Int.zero_mul])
  have had : ad ≠ 0 := fun h => hs0 (by rw [h, Int.zero_mul])
  have hbd : bd ≠ 0 := fun h => hs0 (by rw [h, Int.mul_zero])
  -- both sides times cd * ad * bd
  apply Int.eq_of_mul_eq_mul_right (Int.mul_ne_zero hcd (Int.mul_ne_zero had hbd))
  have e1 : cn * sn * (kd * ld) * (cd * (ad * bd)) = (sn * (ad * bd)) * (cn * kd * (ld * cd)) := by
    simp only [Int.mul_comm, Int.mul_left_comm]
  have e2 : (kn * ld + ln * kd) * (cd * sd) * (cd * (ad * bd)) = (kn * (cd * ad)) * (ld * (sd * (cd * bd))) + (ln * (cd * bd)) * (kd * (sd * (cd * ad))) := by
    simp only [Int.mul_add, Int.mul_comm, Int.mul_left_comm]
  have e3 : (an * bd + bn * ad) * sd * (cn * kd * (ld * cd)) = (cn * an * kd) * (ld * (sd * (cd * bd))) + (cn * bn * ld) * (kd * (sd * (cd * ad))) := by
    simp only [Int.mul_add, Int.mul_comm, Int.mul_left_comm]
  rw [e1, e2, ← es, ← ek, ← el, e3]
/-- A ratio is greater exactly if the difference is positive. -/
theorem cmp_sub {an ad bn bd n d : Int} (ha : valid an ad) (hb : valid bn bd) (h : subR an ad bn bd = (n, d, 0)) : cmpR an ad bn bd = cmpR n d 0 1 := by
  obtain ⟨hv, _, e⟩ := make_ok h
  have hd := valid_pos hv
  have hp : 0 < ad * bd := Int.mul_pos (valid_pos ha) (valid_pos hb)
  unfold cmpR
  rw [Int.mul_one, Int.zero_mul]
  generalize an * bd = x at *
  generalize bn * ad = y at *
  generalize ad * bd = p at *
  rcases Int.lt_trichotomy n 0 with hn | hn | hn
  · have h1 : n * p < 0 := Int.mul_neg_of_neg_of_pos hn hp
    have h2 : x - y < 0 := by
      rcases Int.lt_trichotomy (x - y) 0 with h3 | h3 | h3
      · exact h3
      · rw [h3, Int.zero_mul] at e; omega
      · have := Int.mul_pos h3 hd; omega
    rw [if_pos (by omega), if_pos hn]
  · subst hn
    rw [Int.zero_mul] at e
    have h2 : x - y = 0 := by
      rcases Int.mul_eq_zero.1 e with h3 | h3 <;> omega
    rw [if_neg (by omega), if_neg (by omega), if_neg (by omega), if_neg (by omega)]
  · have h1 : 0 < n * p := Int.mul_pos hn hp
    have h2 : 0 < x - y := by
      rcases Int.lt_trichotomy (x - y) 0 with h3 | h3 | h3
      · have := Int.mul_neg_of_neg_of_pos h3 hd; omega
      · rw [h3, Int.zero_mul] at e; omega
      · exact h3
    rw [if_neg (by omega), if_pos (by omega), if_neg (by omega), if_pos hn]
end Go.Fl.Rt
namespace Go.Fl.Rt

def isDig (b : UInt8) : Bool := decide (48 ≤ b.toNat) && decide (b.toNat ≤ 57)
/-- Digits, at least one. -/
def digs (l : List UInt8) : Bool := decide (l ≠ []) && l.all isDig
/-- The value of a numeral. -/
def dval (l : List UInt8) : Nat := l.foldl (fun v b => 10 * v + (b.toNat - 48)) 0
/-- A text cut at the first byte c: what is before, what is behind, whether there is one. -/
def cutB (c : UInt8) (l : List UInt8) : List UInt8 × List UInt8 × Bool := if l.contains c then (l.takeWhile (· != c), (l.dropWhile (· != c)).tail, true) else (l, [], false)
/-- As the program reads a text. -/
def read1 (l : List UInt8) : Int × Int × Int :=
  let neg := l.head? == some 45
  let rest := if neg then l.tail else l
  let p := cutB 46 rest
  let q := if p.2.2 then (p.1, p.2.1, false) else cutB 47 rest
  if !digs q.1 || ((p.2.2 || q.2.2) && !digs q.2.1) then (0, 0, 3)
  else if 18 < (if q.2.2 then max q.1.length q.2.1.length else q.1.length + q.2.1.length) then (0, 0, 5)
  else
    let n : Int := if q.2.2 then dval q.1 else dval (q.1 ++ q.2.1)
    make (if neg then -n else n) (if q.2.2 then (dval q.2.1 : Int) else ((10 ^ q.2.1.length : Nat) : Int))
/-- Neither a point nor a slash. -/
def plainB (b : UInt8) : Bool := b != 46 && b != 47
/-- As the reference reads a text. -/
def read2 (l : List UInt8) : Int × Int × Int :=
  let neg := l.head? == some 45
  let rest := if neg then l.tail else l
  let a := rest.takeWhile plainB
  let b := (rest.dropWhile plainB).tail
  let mark := (rest.dropWhile plainB).head?
  if !digs a || (mark.isSome && !digs b) then (0, 0, 3)
  else if mark = some 47 then
    if 18 < max a.length b.length then (0, 0, 5) else make (if neg then -(dval a : Int) else dval a) (dval b)
  else if 18 < a.length + b.length then (0, 0, 5) else make (if neg then -(dval (a ++ b) : Int) else dval (a ++ b)) ((10 ^ b.length : Nat) : Int)

theorem digs_no {l : List UInt8} {c : UInt8} (h : c ∈ l) (hc : isDig c = false) : digs l = false := by
  unfold digs
  rw [Bool.and_eq_false_iff]
  right
  rw [List.all_eq_false]
  exact ⟨c, h, by rw [hc]; simp⟩
theorem not_cons {c x : UInt8} {l : List UInt8} (h1 : x ≠ c) (h2 : c ∉ l) : c ∉ x :: l := by
  intro h
  rcases List.mem_cons.1 h with e | e
  · exact h1 e.symm
  · exact h2 e
/-- Where the first of the two marks lies. -/
theorem split_plain (l : List UInt8) : (46 ∉ l ∧ 47 ∉ l) ∨ ∃ a c b, l = a ++ c :: b ∧ (c = 46 ∨ c = 47) ∧ 46 ∉ a ∧ 47 ∉ a := by
  induction l with
  | nil => left; simp
  | cons x l ih =>
    by_cases hx : x = 46 ∨ x = 47
    · right; exact ⟨[], x, l, rfl, hx, by simp, by simp⟩
    · have x1 : x ≠ 46 := fun e => hx (.inl e)
      have x2 : x ≠ 47 := fun e => hx (.inr e)
      rcases ih with h | ⟨a, c, b, rfl, hc, h1, h2⟩
      · left
        exact ⟨not_cons x1 h.1, not_cons x2 h.2⟩
      · right
        exact ⟨x :: a, c, b, rfl, hc, not_cons x1 h1, not_cons x2 h2⟩
theorem tw_stop {p : UInt8 → Bool} {a b : List UInt8} {c : UInt8} (ha : ∀ x ∈ a, p x = true) (hc : p c = false) : (a ++ c :: b).takeWhile p = a ∧ (a ++ c :: b).dropWhile p = c :: b := by
  induction a with
  | nil => simp [hc]
  | cons x a ih =>
    have hx := ha x (by simp)
    obtain ⟨i1, i2⟩ := ih (fun y hy => ha y (by simp [hy]))
    simp [hx, i1, i2]
theorem tw_all {p : UInt8 → Bool} {l : List UInt8} (h : ∀ x ∈ l, p x = true) : l.takeWhile p = l ∧ l.dropWhile p = [] := by
  induction l with
  | nil => simp
  | cons x l ih =>
    have hx := h x (by simp)
    obtain ⟨i1, i2⟩ := ih (fun y hy => h y (by simp [hy]))
    simp [hx, i1, i2]
theorem cut_none {c : UInt8} {l : List UInt8} (h : c ∉ l) : cutB c l = (l, [], false) := by
  unfold cutB
  rw [if_neg (by simpa using h)]
theorem cut_some {c : UInt8} {a b : List UInt8} (h : c ∉ a) : cutB c (a ++ c :: b) = (a, b, true) := by
  unfold cutB
  obtain ⟨h1, h2⟩ := tw_stop (p := (· != c)) (a := a) (b := b) (c := c) (fun x hx => by simp; exact fun e => h (e ▸ hx)) (by simp)
  rw [if_pos (by simp), h1, h2]
  rfl
theorem read_eq (l : List UInt8) : read1 l = read2 l := by
  unfold read1 read2
  simp only
  generalize (l.head? == some 45) = neg
  generalize (if neg = true then l.tail else l) = r
  rcases split_plain r with ⟨h1, h2⟩ | ⟨a, c, b, rfl, hc, h1, h2⟩
  · obtain ⟨t1, t2⟩ := tw_all (p := plainB) (l := r) (fun x hx => by unfold plainB; simp; exact ⟨fun e => h1 (e ▸ hx), fun e => h2 (e ▸ hx)⟩)
    rw [t1, t2, cut_none h1, cut_none h2]
    simp
  · obtain ⟨t1, t2⟩ := tw_stop (p := plainB) (a := a) (b := b) (c := c) (fun x hx => by unfold plainB; simp; exact ⟨fun e => h1 (e ▸ hx), fun e => h2 (e ▸ hx)⟩) (by unfold plainB; rcases hc with rfl | rfl <;> rfl)
    rw [t1, t2]
    rcases hc with rfl | rfl
    · rw [cut_some h1]
      simp
      by_cases hh : digs a = false ∨ digs b = false <;> cases neg <;> simp [hh] <;> rfl
    · by_cases hp : (46 : UInt8) ∈ b
      · have hd : digs b = false := digs_no hp (by decide)
        obtain ⟨p, q, hb⟩ := List.append_of_mem hp
        have hpt : (cutB 46 (a ++ 47 :: b)).2.2 = true ∧ digs (cutB 46 (a ++ 47 :: b)).1 = false := by
          unfold cutB
          rw [if_pos (by simp [hp])]
          refine ⟨rfl, digs_no (c := 47) ?_ (by decide)⟩
          have : (a ++ 47 :: b).takeWhile (· != 46) = a ++ 47 :: b.takeWhile (· != 46) := by
            rw [List.takeWhile_append_of_pos (fun x hx => by simp; exact fun e => h1 (e ▸ hx))]
            simp
          rw [this]
          simp
        rw [hpt.1]
        simp [hpt.2, hd]
      · have h3 : (46 : UInt8) ∉ a ++ 47 :: b := by simp [h1, hp]
        rw [cut_none h3, cut_some h2]
        simp
        by_cases hh : digs a = false ∨ digs b = false <;> cases neg <;> simp [hh] <;> rfl
end Go.Fl.Rt
