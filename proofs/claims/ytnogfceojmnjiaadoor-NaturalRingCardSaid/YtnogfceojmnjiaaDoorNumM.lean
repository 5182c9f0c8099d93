/-
  Plain mathematics of the long division.
-/
import Derived.Test.YtnogfceojmnjiaaDoorNumL
set_option linter.unusedVariables false
namespace Go.Fl.Nm
open Go.RowKit Go.Fl

/-- A list of n + 2 limbs by its two last ones. -/
theorem val_top2 {l : List Nat} {m x y : Nat} (hok : ok l) (hl : l.length = m + 2) (hx : l[m + 1]? = some x) (hy : l[m]? = some y) : ∃ r, r < BB ^ m ∧ val l = (x * BB + y) * BB ^ m + r := by
  have h1 := val_take_succ hx
  rw [List.take_of_length_le (by omega)] at h1
  rw [val_take_succ hy] at h1
  have h2 := val_lt (ok_take hok m)
  rw [List.length_take, Nat.min_eq_left (by omega)] at h2
  refine ⟨_, h2, ?_⟩
  rw [h1, Nat.pow_succ, Nat.add_mul, Nat.mul_comm (BB ^ m) y, Nat.mul_assoc x, Nat.mul_comm x, Nat.mul_comm BB]
  omega
/-- What the upper limbs of a dividend and a divisor say of a digit of the quotient. -/
theorem digit_top {V W P v1 v2 t1 t2 t3 rv rw : Nat} (hV : V = (v1 * BB + v2) * P + rv) (hW : W = ((t1 * BB + t2) * BB + t3) * P + rw) (hrv : rv < P) (hrw : rw < P) (hv2 : v2 < BB)
    (hWV : W < BB * V) : t1 ≤ v1 ∧ (W / V) * (v1 * BB + v2) ≤ (t1 * BB + t2) * BB + t3 := by
  have hP : 0 < P := by omega
  have hQ := Nat.div_mul_le_self W V
  constructor
  · rcases Nat.lt_or_ge v1 t1 with h | h
    · exfalso
      have h1 : (v1 + 1) * BB * BB * P ≤ t1 * BB * BB * P := Nat.mul_le_mul_right _ (Nat.mul_le_mul_right _ (Nat.mul_le_mul_right _ h))
      have h2 : BB * V ≤ (v1 + 1) * BB * BB * P := by
        have h3 : V ≤ (v1 * BB + v2 + 1) * P := by rw [hV, Nat.add_mul _ 1 P]; omega
        have h4 : v1 * BB + v2 + 1 ≤ (v1 + 1) * BB := by rw [Nat.add_mul]; omega
        calc BB * V ≤ BB * ((v1 * BB + v2 + 1) * P) := Nat.mul_le_mul_left _ h3
          _ ≤ BB * (((v1 + 1) * BB) * P) := Nat.mul_le_mul_left _ (Nat.mul_le_mul_right _ h4)
          _ = (v1 + 1) * BB * BB * P := by rw [← Nat.mul_assoc, Nat.mul_comm BB]
      have h5 : t1 * BB * BB * P ≤ W := by
        rw [hW]
        have : t1 * BB * BB ≤ (t1 * BB + t2) * BB + t3 := by rw [Nat.add_mul]; omega
        exact Nat.le_trans (Nat.mul_le_mul_right _ this) (Nat.le_add_right _ _)
      omega
    · exact h
  · have h1 : (W / V) * (v1 * BB + v2) * P ≤ W := by
      refine Nat.le_trans ?_ hQ
      rw [hV, Nat.mul_assoc]
      exact Nat.mul_le_mul_left _ (Nat.le_add_right _ _)
    have h2 : (W / V) * (v1 * BB + v2) * P < ((t1 * BB + t2) * BB + t3 + 1) * P := by
      rw [Nat.add_mul _ 1 P]; omega
    have := Nat.lt_of_mul_lt_mul_right h2
    omega
theorem digit_near {V W P v1 v2 t1 t2 t3 rv rw x : Nat} (hV : V = (v1 * BB + v2) * P + rv) (hW : W = ((t1 * BB + t2) * BB + t3) * P + rw) (hrv : rv < P) (hv1 : 0 < v1) (hv2 : v2 < BB) (hx : x < BB)
    (h : x * v1 + BB ≤ t1 * BB + t2 ∨ x * (v1 * BB + v2) ≤ (t1 * BB + t2) * BB + t3) : x * V ≤ W + V := by
  rcases h with h | h
  · have h1 : x * V ≤ x * ((v1 + 1) * BB * P) := by
      apply Nat.mul_le_mul_left
      rw [hV]
      have : (v1 * BB + v2 + 1) * P ≤ (v1 + 1) * BB * P := Nat.mul_le_mul_right _ (by rw [Nat.add_mul]; omega)
      rw [Nat.add_mul _ 1 P] at this
      omega
    have h2 : x * ((v1 + 1) * BB * P) = (x * v1 + x) * (BB * P) := by rw [Nat.mul_assoc (v1 + 1), ← Nat.mul_assoc, Nat.mul_add, Nat.mul_one]
    have h3 : (x * v1 + x) * (BB * P) ≤ (t1 * BB + t2) * (BB * P) := Nat.mul_le_mul_right _ (by omega)
    have h4 : (t1 * BB + t2) * (BB * P) ≤ W := by
      rw [hW, ← Nat.mul_assoc, Nat.add_mul _ t3 P]; omega
    omega
  · have h1 : x * V ≤ x * ((v1 * BB + v2) * P) + x * P := by
      rw [hV, ← Nat.mul_add]
      exact Nat.mul_le_mul_left _ (by omega)
    have h2 : x * ((v1 * BB + v2) * P) ≤ ((t1 * BB + t2) * BB + t3) * P := by
      rw [← Nat.mul_assoc]; exact Nat.mul_le_mul_right _ h
    have h3 : x * P ≤ BB * P := Nat.mul_le_mul_right _ (by omega)
    have h4 : BB * P ≤ V := by
      rw [hV]
      have : 1 * BB ≤ v1 * BB := Nat.mul_le_mul_right _ hv1
      have : BB * P ≤ (v1 * BB + v2) * P := Nat.mul_le_mul_right _ (by omega)
      omega
    omega
theorem div_of_near {x V W : Nat} (hV : 0 < V) (h1 : W / V ≤ x) (h2 : x * V ≤ W + V) : x = W / V ∨ x = W / V + 1 := by
  have h3 : x ≤ W / V + 1 := by
    rcases Nat.lt_or_ge (W / V + 1) x with h | h
    · exfalso
      have h4 : (W / V + 2) * V ≤ x * V := Nat.mul_le_mul_right _ h
      have h5 : W < (W / V + 1) * V := by
        have := Nat.div_add_mod W V
        have := Nat.mod_lt W hV
        rw [Nat.add_mul, Nat.mul_comm (W / V)]; omega
      rw [Nat.add_mul] at h4 h5
      omega
    · exact h
  omega
/-- The lower part of a list does not matter for what is above. -/
theorem low_part {us : List Nat} {j : Nat} (hok : ok us) (hj : j ≤ us.length) : ∃ r, r < BB ^ j ∧ val us = r + BB ^ j * val (us.drop j) := by
  have h2 := val_lt (ok_take hok j)
  rw [List.length_take, Nat.min_eq_left hj] at h2
  exact ⟨_, h2, val_split us j hj⟩
theorem drop_small {us : List Nat} {j : Nat} {X : Nat} (hok : ok us) (hj : j ≤ us.length) (h : val us < BB ^ j * X) : val (us.drop j) < X := by
  obtain ⟨r, hr, e⟩ := low_part hok hj
  rw [e] at h
  exact Nat.lt_of_mul_lt_mul_left (Nat.lt_of_le_of_lt (Nat.le_add_left _ _) h)
theorem zero_above {us : List Nat} {k : Nat} (hok : ok us) (h : val us < BB ^ k) : ∀ i y, k ≤ i → us[i]? = some y → y = 0 := by
  intro i y hi hy
  have hl := (List.getElem?_eq_some_iff.1 hy).1
  have h1 := val_split us i (by omega)
  rw [val_drop hy] at h1
  rcases Nat.eq_zero_or_pos y with h0 | h0
  · exact h0
  · exfalso
    have h2 : BB ^ k ≤ BB ^ i := Nat.pow_le_pow_right BB_pos hi
    have h3 : BB ^ i * 1 ≤ BB ^ i * (y + BB * val (us.drop (i + 1))) := Nat.mul_le_mul_left _ (by omega)
    omega
theorem val_lt_of_zeros {us : List Nat} {k : Nat} (hok : ok us) (h : ∀ i y, k ≤ i → us[i]? = some y → y = 0) : val us < BB ^ k := by
  by_cases hk : k ≤ us.length
  · have h1 := val_split us k hk
    have h2 : val (us.drop k) = 0 := by
      apply val_zero_of
      intro x hx
      obtain ⟨i, hi⟩ := List.getElem?_of_mem hx
      rw [List.getElem?_drop] at hi
      exact h _ _ (by omega) hi
    have h3 := val_lt (ok_take hok k)
    rw [List.length_take, Nat.min_eq_left hk] at h3
    rw [h1, h2]; omega
  · exact Nat.lt_of_lt_of_le (val_lt hok) (Nat.pow_le_pow_right BB_pos (by omega))

/-- One digit: what guess gets, and what it means. 'us' has the dividend, 'v' the divisor of m + 2 limbs. -/
theorem round_guess {us v : List Nat} {j m t1 t2 t3 v1 v2 : Nat} (hok : ok us) (hv : ok v) (hvl : v.length = m + 2) (hj : j + (m + 2) < us.length) (hlt : val us < val v * BB ^ (j + 1))
    (h1 : us[j + (m + 2)]? = some t1) (h2 : us[j + (m + 1)]? = some t2) (h3 : us[j + m]? = some t3) (g1 : v[m + 1]? = some v1) (g2 : v[m]? = some v2) (hv1 : 0 < v1) :
    t1 ≤ v1 ∧ guessF t1 t2 t3 v1 v2 < BB ∧ (guessF t1 t2 t3 v1 v2 = val (us.drop j) / val v ∨ guessF t1 t2 t3 v1 v2 = val (us.drop j) / val v + 1) := by
  obtain ⟨rv, hrv, eV⟩ := val_top2 hv hvl g1 g2
  have hV : 0 < val v := by
    rw [eV]
    have : 0 < (v1 * BB + v2) * BB ^ m := Nat.mul_pos (by have := Nat.mul_pos hv1 BB_pos; omega) (Nat.pow_pos BB_pos)
    omega
  have hWV : val (us.drop j) < BB * val v := drop_small hok (by omega) (by rw [Nat.pow_succ, Nat.mul_comm, Nat.mul_assoc] at hlt; exact hlt)
  have hz : val (us.drop j) < BB ^ (m + 3) := by
    have := val_lt hv
    rw [hvl] at this
    calc val (us.drop j) < BB * val v := hWV
      _ ≤ BB * BB ^ (m + 2) := Nat.mul_le_mul_left _ (by omega)
      _ = BB ^ (m + 3) := by rw [Nat.mul_comm, ← Nat.pow_succ]
  have hW : val (us.drop j) = ((t1 * BB + t2) * BB + t3) * BB ^ m + val ((us.drop j).take m) := by
    have e0 := val_split (us.drop j) (m + 3) (by rw [List.length_drop]; omega)
    have e1 : val ((us.drop j).drop (m + 3)) = 0 := by
      apply val_zero_of
      intro x hx
      obtain ⟨i, hi⟩ := List.getElem?_of_mem hx
      rw [List.getElem?_drop] at hi
      exact zero_above (ok_drop hok j) hz _ _ (by omega) hi
    rw [e1, val_take_succ (x := t1) (by rw [List.getElem?_drop]; exact h1), val_take_succ (x := t2) (by rw [List.getElem?_drop]; exact h2), val_take_succ (x := t3) (by rw [List.getElem?_drop]; exact h3)] at e0
    have p1 : BB ^ (m + 1) = BB ^ m * BB := Nat.pow_succ _ _
    have p2 : BB ^ (m + 2) = BB ^ m * BB * BB := by rw [Nat.pow_succ, Nat.pow_succ]
    rw [p1, p2] at e0
    rw [e0]
    have a1 : (t1 * BB + t2) * BB + t3 = t1 * BB * BB + t2 * BB + t3 := by rw [Nat.add_mul]
    rw [a1, Nat.add_mul, Nat.add_mul]
    have a2 : BB ^ m * BB * BB * t1 = t1 * BB * BB * BB ^ m := by
      rw [Nat.mul_assoc (BB ^ m), Nat.mul_assoc (BB ^ m), Nat.mul_comm (BB ^ m), Nat.mul_comm (BB * BB) t1, ← Nat.mul_assoc]
    have a3 : BB ^ m * BB * t2 = t2 * BB * BB ^ m := by
      rw [Nat.mul_assoc, Nat.mul_comm (BB ^ m), Nat.mul_comm BB t2]
    have a4 : BB ^ m * t3 = t3 * BB ^ m := Nat.mul_comm _ _
    omega
  have hrw : val ((us.drop j).take m) < BB ^ m := by
    have := val_lt (ok_take (ok_drop hok j) m)
    rwa [List.length_take, List.length_drop, Nat.min_eq_left (by omega)] at this
  have hv2B := ok_at hv g2
  obtain ⟨htop, hQ⟩ := digit_top eV hW hrv hrw hv2B hWV
  have hQB : val (us.drop j) / val v < BB := by
    rw [Nat.div_lt_iff_lt_mul hV]; exact hWV
  obtain ⟨s1, s2, s3, s4⟩ := guessF_spec t1 t2 t3 v1 v2 (val (us.drop j) / val v) (ok_at hok h3) (ok_at hok h2) hv1 htop hQB hQ
  exact ⟨htop, s2, div_of_near hV s1 (digit_near eV hW hrv hv1 hv2B s2 s4)⟩

theorem ar_exact {u u' low PD PQ PR PP PV r : Nat} (e : u = low + PD) (he : u' + PQ = u + PP * r) (hd : PD = PQ + PR) (hub' : u' < PP) (hr : r ≤ 1) (hlow : low + PR < PV) : r = 0 ∧ u' + PQ = u ∧ u' < PV := by
  rcases Nat.eq_zero_or_pos r with h | h
  · subst h; rw [Nat.mul_zero] at he; exact ⟨rfl, by omega, by omega⟩
  · obtain rfl : r = 1 := by omega
    rw [Nat.mul_one] at he; omega
theorem ar_back {u u' low PD PQ PR PP PV r L S C O M : Nat} (e : u = low + PD) (he : u' + (PQ + PV) = u + PP * r) (hd : PD = PQ + PR) (hr : r ≤ 1) (hlow : low + PR < PV) (ha : L + C = u' + PV) (hS : S + O = L + M) (hub : S < PP)
    (hc : M = O + C ∨ M + PP = O + C) : r = 1 ∧ S + PQ = u ∧ S < PV := by
  rcases Nat.eq_zero_or_pos r with h | h
  · subst h; rw [Nat.mul_zero] at he; omega
  · obtain rfl : r = 1 := by omega
    rw [Nat.mul_one] at he
    exact ⟨rfl, by omega, by omega⟩
theorem low_rest {us : List Nat} {j V : Nat} (hok : ok us) (hj : j ≤ us.length) (hV : 0 < V) : ∃ low, val us = low + BB ^ j * val (us.drop j) ∧ BB ^ j * val (us.drop j) = BB ^ j * ((val (us.drop j) / V) * V) + BB ^ j * (val (us.drop j) % V) ∧ low + BB ^ j * (val (us.drop j) % V) < V * BB ^ j := by
  obtain ⟨low, hlow, e⟩ := low_part hok hj
  refine ⟨low, e, by rw [← Nat.mul_add, Nat.mul_comm (val (us.drop j) / V), Nat.div_add_mod], ?_⟩
  have hM2 := Nat.mod_lt (val (us.drop j)) hV
  have h3 : BB ^ j * (val (us.drop j) % V + 1) ≤ BB ^ j * V := Nat.mul_le_mul_left _ hM2
  rw [Nat.mul_add, Nat.mul_one] at h3
  rw [Nat.mul_comm V]
  generalize BB ^ j * (val (us.drop j) % V) = X at *
  generalize BB ^ j = P at *
  omega
theorem up_bound {us : List Nat} {j n V : Nat} (hlt : val us < V * BB ^ (j + 1)) (hvn : V < BB ^ n) : val us < BB ^ (j + n + 1) := by
  have h1 : V * BB ^ (j + 1) ≤ BB ^ n * BB ^ (j + 1) := Nat.mul_le_mul_right _ (Nat.le_of_lt hvn)
  rw [← Nat.pow_add, show n + (j + 1) = j + n + 1 by omega] at h1
  exact Nat.lt_of_lt_of_le hlt h1
/-- take with the digit itself. -/
theorem round_exact {us us' v : List Nat} {j n r : Nat} (hok : ok us) (hok' : ok us') (hl : us'.length = us.length) (hj : j + n < us.length) (hlt : val us < val v * BB ^ (j + 1)) (hvn : val v < BB ^ n) (hV : 0 < val v)
    (he : val us' + BB ^ j * ((val (us.drop j) / val v) * val v) = val us + BB ^ (j + n + 1) * r) (hk : ∀ x, x < j ∨ j + n < x → us'[x]? = us[x]?) (hr : r ≤ 1) :
    r = 0 ∧ val us' + BB ^ j * ((val (us.drop j) / val v) * val v) = val us ∧ val us' < val v * BB ^ j := by
  obtain ⟨low, e, hd, hlow⟩ := low_rest hok (show j ≤ us.length by omega) hV
  have hub' : val us' < BB ^ (j + n + 1) := val_lt_of_zeros hok' fun i y hi hy => zero_above hok (up_bound hlt hvn) i y hi (by rw [← hk i (by omega)]; exact hy)
  exact ar_exact e he hd hub' hr hlow
/-- take with one too much, and the divisor added again. -/
theorem round_back {us us' l v : List Nat} {j n r cc o : Nat} (hok : ok us) (hok' : ok us') (hokl : ok l) (hl : us'.length = us.length) (hll : l.length = us.length) (hj : j + n < us.length) (hlt : val us < val v * BB ^ (j + 1)) (hvn : val v < BB ^ n) (hV : 0 < val v)
    (he : val us' + BB ^ j * ((val (us.drop j) / val v + 1) * val v) = val us + BB ^ (j + n + 1) * r) (hk : ∀ x, x < j ∨ j + n < x → us'[x]? = us[x]?) (hr : r ≤ 1)
    (ha : val l + BB ^ (j + n) * cc = val us' + BB ^ j * val v) (hkl : ∀ x, x < j ∨ j + n ≤ x → l[x]? = us'[x]?) (ho : l[j + n]? = some o) (hoB : o < BB) (hcc : cc ≤ 1) :
    r = 1 ∧ val (l.set (j + n) ((o + cc) % BB)) + BB ^ j * ((val (us.drop j) / val v) * val v) = val us ∧ val (l.set (j + n) ((o + cc) % BB)) < val v * BB ^ j ∧ ok (l.set (j + n) ((o + cc) % BB)) ∧ (l.set (j + n) ((o + cc) % BB)).length = us.length := by
  obtain ⟨low, e, hd, hlow⟩ := low_rest hok (show j ≤ us.length by omega) hV
  have hokS : ok (l.set (j + n) ((o + cc) % BB)) := ok_set hokl _ _ (Nat.mod_lt _ BB_pos)
  have hubS : val (l.set (j + n) ((o + cc) % BB)) < BB ^ (j + n + 1) := val_lt_of_zeros hokS fun i y hi hy => zero_above hok (up_bound hlt hvn) i y hi (by
    rw [← hk i (by omega), ← hkl i (by omega)]
    rwa [at_set_ne _ (by omega)] at hy)
  have hS := val_set ((o + cc) % BB) ho
  rw [Nat.add_mul, Nat.mul_add, Nat.one_mul, Nat.mul_comm (BB ^ j) (val v)] at he
  rw [Nat.mul_comm (BB ^ j) (val v)] at ha
  have hc : BB ^ (j + n) * ((o + cc) % BB) = BB ^ (j + n) * o + BB ^ (j + n) * cc ∨ BB ^ (j + n) * ((o + cc) % BB) + BB ^ (j + n + 1) = BB ^ (j + n) * o + BB ^ (j + n) * cc := by
    by_cases hc : o + cc < BB
    · left; rw [Nat.mod_eq_of_lt hc, Nat.mul_add]
    · right
      have h4 : (o + cc) % BB + BB = o + cc := by
        rw [Nat.mod_eq_sub_mod (by omega), Nat.mod_eq_of_lt (by omega)]
        omega
      rw [Nat.pow_succ, ← Nat.mul_add, h4, Nat.mul_add]
  obtain ⟨h1, h2, h3⟩ := ar_back e he hd hr hlow ha hS hubS hc
  exact ⟨h1, h2, h3, hokS, by simp [hll]⟩
/-- The quotient so far. -/
theorem round_quo {ql : List Nat} {j Q V U0 u u' : Nat} (hj : j < ql.length) (h : u + V * BB ^ (j + 1) * val (ql.drop (j + 1)) = U0) (hu : u' + BB ^ j * (Q * V) = u) : u' + V * BB ^ j * val ((ql.set j Q).drop j) = U0 := by
  have h1 : (ql.set j Q)[j]? = some Q := by rw [List.getElem?_set_self hj]
  rw [val_drop h1, show (ql.set j Q).drop (j + 1) = ql.drop (j + 1) by rw [List.drop_set_of_lt (by omega)], Nat.mul_add, ← h, ← hu, Nat.pow_succ]
  have a1 : V * BB ^ j * Q = BB ^ j * (Q * V) := by rw [Nat.mul_comm V, Nat.mul_assoc, Nat.mul_comm V]
  have a2 : V * BB ^ j * (BB * val (ql.drop (j + 1))) = V * (BB ^ j * BB) * val (ql.drop (j + 1)) := by rw [← Nat.mul_assoc, Nat.mul_assoc V]
  omega
end Go.Fl.Nm
