/-
  The digits that both ends share, in plain Lean. Of no program.
-/
import Derived.Test.YtffdkakogeofmaaGreatDoorDecV
set_option linter.unusedVariables false
namespace Go.Proofs.YtffdkakogeofmaaGreatDoor
open Go.Fl.Nm Go.Fl.Dy
open Go.Lib (decDigits)
theorem digF_spec (x y : D) : ∀ (f j : Nat), j ≤ digF x y f j ∧ digF x y f j ≤ j + f ∧ (∀ i, j ≤ i → i < digF x y f j → flD x i = flD y i) ∧ (digF x y f j < j + f → flD x (digF x y f j) ≠ flD y (digF x y f j)) := by
  intro f
  induction f with
  | zero =>
    intro j
    refine ⟨Nat.le_refl _, Nat.le_refl _, fun i h1 h2 => ?_, fun h => ?_⟩
    · unfold digF at h2; omega
    · unfold digF at h; omega
  | succ f ih =>
    intro j
    unfold digF
    by_cases h : flD x j = flD y j
    · rw [if_pos h]
      obtain ⟨a, b, c, d⟩ := ih (j + 1)
      refine ⟨by omega, by omega, fun i h1 h2 => ?_, fun h3 => d (by omega)⟩
      rcases Nat.eq_or_lt_of_le h1 with rfl | h1
      · exact h
      · exact c i (by omega) h2
    · rw [if_neg h]
      exact ⟨Nat.le_refl _, by omega, fun i h1 h2 => by omega, fun _ => h⟩
theorem flD_iff (x y : D) (j k : Nat) : flD x j = flD y j ↔ textD (scN x j false) (scQ x j false) k = textD (scN y j false) (scQ y j false) k := by
  unfold flD
  constructor
  · intro h
    obtain ⟨h1, h2⟩ := textD_inj h
    rw [h1, h2]
  · intro h
    obtain ⟨h1, h2⟩ := textD_inj h
    rw [h1, h2]
/-- The end rounded down that is shown of a point, with its bracket. -/
def dnS (d : D) (k : Nat) : List UInt8 := if topB d ≤ 1000 then 91 :: textD (scN d k false) (scQ d k false) k else []
/-- How many digits, and one more. -/
def digM (x y : D) : Nat := if topB x ≤ 1000 ∧ topB y ≤ 1000 then digF x y 51 0 else 0
theorem digR_eq (x y : D) : digR x y = (digM x y : Int) - 1 := by
  unfold digR digM
  split <;> rfl
theorem digM_le (x y : D) : digM x y ≤ 51 := by
  unfold digM
  split
  · have := (digF_spec x y 51 0).2.1; omega
  · omega
theorem dn_same {x y : D} {j : Nat} (h : j < digM x y) : dnS x j = dnS y j := by
  unfold digM at h
  split at h
  · rename_i ht
    have := (digF_spec x y 51 0).2.2.1 j (by omega) h
    unfold dnS
    rw [if_pos ht.1, if_pos ht.2, (flD_iff x y j j).1 this]
  · omega
theorem dn_other {x y : D} (h1 : topB x ≤ 1000) (h2 : topB y ≤ 1000) (h : digM x y ≠ 51) : dnS x (digM x y) ≠ dnS y (digM x y) := by
  have e : digM x y = digF x y 51 0 := by unfold digM; rw [if_pos ⟨h1, h2⟩]
  have hle := (digF_spec x y 51 0).2.1
  have := (digF_spec x y 51 0).2.2.2 (by omega)
  rw [e]
  unfold dnS
  rw [if_pos h1, if_pos h2]
  intro h
  injection h with _ h
  exact this ((flD_iff x y _ _).2 h)
theorem digM_zero {x y : D} (h : ¬ (topB x ≤ 1000 ∧ topB y ≤ 1000)) : digM x y = 0 := by unfold digM; rw [if_neg h]
theorem dnS_ne {d : D} {k : Nat} (h : topB d ≤ 1000) : dnS d k ≠ [] := by unfold dnS; rw [if_pos h]; simp
/-- The text of a point, cut at its comma. -/
theorem dn_text {d : D} {k : Nat} (h : topB d ≤ 1000) : txtI d d k = dnS d k ++ 44 :: (32 :: textD (scN d k true) (scQ d k true) k ++ [93]) ∧ (44 : UInt8) ∉ dnS d k := by
  constructor
  · unfold txtI dnS textI
    rw [if_pos ⟨h, h⟩, if_pos h]
    simp
  · unfold dnS
    rw [if_pos h]
    intro hm
    rcases List.mem_cons.1 hm with hm | hm
    · cases hm
    · exact text_no (by decide) (by decide) (by decide) hm
theorem dn_none {d : D} {k : Nat} (h : ¬ topB d ≤ 1000) : txtI d d k = [] ∧ dnS d k = [] := by
  unfold txtI dnS
  rw [if_neg (fun h2 => h h2.1), if_neg h]
  exact ⟨rfl, rfl⟩
theorem txtI_len {d : D} {k : Nat} (vd : vld d) (hk : k ≤ 51) : (txtI d d k).length ≤ 90000 := by
  by_cases h : topB d ≤ 1000
  · have b1 := scQ_blen (q := k) (T := 1000) (up := false) vd (by omega)
    have b2 := scQ_blen (q := k) (T := 1000) (up := true) vd (by omega)
    have l1 := dec_bits (N := 2000) (v := scQ d k false) (by omega)
    have l2 := dec_bits (N := 2000) (v := scQ d k true) (by omega)
    have t1 := text_len (scN d k false) (scQ d k false) k
    have t2 := text_len (scN d k true) (scQ d k true) k
    unfold txtI textI
    rw [if_pos ⟨h, h⟩]
    simp only [List.length_append, List.length_cons, List.length_nil]
    omega
  · rw [(dn_none h).1]; simp
end Go.Proofs.YtffdkakogeofmaaGreatDoor
