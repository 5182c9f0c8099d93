/-
  Digits of quotients: digit, guess.
-/
import Derived.Test.YtnogfceojmnjiaaDoorNumJ
set_option linter.unusedVariables false
namespace Go.Fl.Nm
open Go.RowKit Go.Fl

/-- What digit returns. -/
def digF : Nat → Nat → Nat → Nat → Nat → Nat
  | 0, _, _, _, _ => 0
  | q + 1, r, t, v, u => if r < BB ∧ r * BB + t < (q + 1) * u then digF q (r + v) t v u else q + 1
theorem digF_step (q r t v u : Nat) (h1 : r < BB) (h2 : r * BB + t < (q + 1) * u) : digF (q + 1) r t v u = digF q (r + v) t v u := by
  rw [digF, if_pos ⟨h1, h2⟩]
theorem digF_stop (q r t v u : Nat) (h : ¬ (r < BB ∧ r * BB + t < q * u)) : digF q r t v u = q := by
  cases q with
  | zero => rfl
  | succ q => rw [digF, if_neg h]
theorem digF_spec (q r t v u : Nat) (Q : Nat) (hQ : Q * (v * BB + u) ≤ (q * v + r) * BB + t) (hQq : Q ≤ q) (ht : t < BB) :
    Q ≤ digF q r t v u ∧ digF q r t v u ≤ q ∧ digF q r t v u * v ≤ q * v + r ∧ (digF q r t v u * v + BB ≤ q * v + r ∨ digF q r t v u * (v * BB + u) ≤ (q * v + r) * BB + t) := by
  induction q generalizing r with
  | zero => exact ⟨hQq, Nat.le_refl _, by simp [digF], .inr (by simp [digF])⟩
  | succ q ih =>
    by_cases h : r < BB ∧ r * BB + t < (q + 1) * u
    · rw [digF, if_pos h]
      have e : q * v + (r + v) = (q + 1) * v + r := by rw [Nat.add_mul]; omega
      have h2 : Q ≤ q := by
        rcases Nat.lt_or_ge q Q with hlt | hge
        · exfalso
          have hq : Q = q + 1 := by omega
          rw [hq, Nat.mul_add, ← Nat.mul_assoc, Nat.add_mul ((q + 1) * v) r BB] at hQ
          omega
        · exact hge
      have := ih (r + v) (by rw [e]; exact hQ) h2
      rw [e] at this
      exact ⟨this.1, by omega, this.2.2⟩
    · rw [digF, if_neg h]
      refine ⟨hQq, Nat.le_refl _, by omega, ?_⟩
      by_cases h1 : r < BB
      · right
        have h2 : (q + 1) * u ≤ r * BB + t := by
          rcases Nat.lt_or_ge (r * BB + t) ((q + 1) * u) with h3 | h3
          · exact absurd ⟨h1, h3⟩ h
          · exact h3
        rw [Nat.mul_add, ← Nat.mul_assoc, Nat.add_mul ((q + 1) * v) r BB]
        omega
      · left; omega
theorem digF_le (q r t v u : Nat) : digF q r t v u ≤ q := by
  induction q generalizing r with
  | zero => exact Nat.le_refl _
  | succ q ih =>
    rw [digF]
    split
    · have := ih (r + v); omega
    · exact Nat.le_refl _
/-- What guess returns. -/
def guessF (top next t v u : Nat) : Nat := if v ≤ top then digF (BB - 1) (next + v) t v u else digF ((top * BB + next) / v) ((top * BB + next) % v) t v u
theorem guessF_spec (top next t v u Q : Nat) (ht : t < BB) (hn : next < BB) (hv : 0 < v) (htop : top ≤ v) (hQB : Q < BB) (hQ : Q * (v * BB + u) ≤ (top * BB + next) * BB + t) :
    Q ≤ guessF top next t v u ∧ guessF top next t v u < BB ∧ guessF top next t v u * v ≤ top * BB + next ∧
      (guessF top next t v u * v + BB ≤ top * BB + next ∨ guessF top next t v u * (v * BB + u) ≤ (top * BB + next) * BB + t) := by
  unfold guessF
  by_cases h : v ≤ top
  · rw [if_pos h]
    have e : (BB - 1) * v + (next + v) = top * BB + next := by
      have : top = v := by omega
      rw [this, Nat.sub_mul, Nat.one_mul, Nat.mul_comm v]
      have : 1 * v ≤ BB * v := Nat.mul_le_mul_right _ BB_pos
      omega
    have := digF_spec (BB - 1) (next + v) t v u Q (by rw [e]; exact hQ) (by omega) ht
    rw [e] at this
    have hB := BB_pos
    exact ⟨this.1, by omega, this.2.2⟩
  · rw [if_neg h]
    have e : (top * BB + next) / v * v + (top * BB + next) % v = top * BB + next := Nat.div_add_mod' _ _
    have h1 : (top * BB + next) / v < BB := by
      rw [Nat.div_lt_iff_lt_mul hv]
      have : (top + 1) * BB ≤ v * BB := Nat.mul_le_mul_right _ (by omega)
      rw [Nat.mul_comm v, Nat.add_mul] at this
      omega
    have h2 : Q ≤ (top * BB + next) / v := by
      rw [Nat.le_div_iff_mul_le hv]
      rw [Nat.mul_add, ← Nat.mul_assoc] at hQ
      have : Q * v * BB < (top * BB + next + 1) * BB := by
        rw [Nat.add_mul (top * BB + next)]
        have : 0 ≤ Q * u := Nat.zero_le _
        omega
      have := Nat.lt_of_mul_lt_mul_right this
      omega
    have := digF_spec _ ((top * BB + next) % v) t v u Q (by rw [e]; exact hQ) h2 ht
    rw [e] at this
    exact ⟨this.1, by omega, this.2.2⟩
end Go.Fl.Nm

namespace Go.Proofs.YtnogfceojmnjiaaDoor
open Go.RowKit Go.Fl Go.Fl.Nm

theorem quiet_left {P : Program} {f : FuncId} {args : Array Value} {w : World} {n : Nat} {v : Value}
    (h : Calls P f args (w.drewN n) fun e w' => e = .returned v ∧ w.drewN n = w') : Calls P f args (w.drewN n) fun e w'' => e = .returned v ∧ ∃ m, w'' = w.drewN m :=
  h.mono fun _ _ ⟨he, hm⟩ => ⟨he, n, hm.symm⟩

def DigRel (q0 r0 t v u : Nat) (qv rv : Value) : Prop := ∃ q r : Nat, qv = .int .u64 q ∧ rv = .int .u64 r ∧ q < 4294967296 ∧ r < 8589934592 ∧ Hid (digF q r t v u = digF q0 r0 t v u)

set_option maxHeartbeats 800000 in
set_option maxRecDepth 100000 in
theorem digit_any (q0 r0 t v u : Nat) (w : World) (hq0 : q0 < 4294967296) (hr0 : r0 < 8589934592) (ht : t < 4294967296) (hv : v < 4294967296) (hu : u < 4294967296) :
    Calls Tryd.prog 50 #[.int .u64 q0, .int .u64 r0, .int .u32 t, .int .u32 v, .int .u32 u] w fun e w' => e = .returned (.int .u64 (digF q0 r0 t v u : Nat)) ∧ w = w' := by
  generalize hD : digF q0 r0 t v u = D
  have HD := Lib.hid hD
  clear hD
  go_enter Tryd.func50, Tryd.ntmps50
  go_wp2_with fail
  go_loop [0, 1] (DigRel q0 r0 t v u) (fun q _ => (intOf q).toNat)
  case atStart => exact ⟨q0, r0, rfl, rfl, hq0, hr0, Lib.hid rfl⟩
  case round =>
    obtain ⟨q, r, rfl, rfl, hq, hr, HQ⟩ := hrel
    rw [HD.out] at HQ
    by_cases hrB : r < 4294967296
    · have hz := or_join64 (r * 4294967296) t (by omega) (by omega) ht
      rw [show ((r * 4294967296 : Nat) : Int) = (r : Int) * 4294967296 by omega] at hz
      generalize hzz : r * 4294967296 + t = z at *
      have hz64 : z < 18446744073709551616 := by omega
      have HZ := Lib.hid hzz
      clear hzz
      have hb := (mul_bd hq hu).2.2
      have hp : (q : Int) * u = ((q * u : Nat) : Int) := by simp
      generalize hpp : q * u = p at *
      have HP := Lib.hid hpp
      clear hpp
      by_cases hzp : z < p
      · obtain ⟨q', rfl⟩ : ∃ q', q = q' + 1 := by
          cases q with
          | zero => have := HP.out; simp at this; omega
          | succ q => exact ⟨q, rfl⟩
        have HN := Lib.hid (show digF q' (r + v) t v u = D by
          rw [← HQ.out]
          refine (digF_step q' r t v u (by unfold BB; omega) ?_).symm
          have h1 := HZ.out
          have h2 := HP.out
          unfold BB; omega)
        rw [show ((q' + 1 : Nat) : Int) = (q' : Int) + 1 by omega] at hp
        have hd : decide ((r : Int) < 4294967296) = true := by simp; omega
        have hd2 : decide (z < p) = true := by simp; omega
        have hrI : (r : Int) ≤ 4294967295 := by omega
        clear hzp hrB
        go_wp2_with fail
        go_round
        case rel => exact ⟨q', r + v, by go_num, by go_num, by omega, by omega, Lib.hid (by rw [HN.out, HD.out])⟩
        case measure => simp [intOf]
      · have HN := Lib.hid (show q = D by
          rw [← HQ.out]
          refine (digF_stop q r t v u ?_).symm
          rintro ⟨_, h3⟩
          have h1 := HZ.out
          have h2 := HP.out
          unfold BB at h3; omega)
        have hd : decide ((r : Int) < 4294967296) = true := by simp; omega
        have hd2 : decide (z < p) = false := by simp; omega
        have hrI : (r : Int) ≤ 4294967295 := by omega
        clear hzp hrB
        go_wp2_with fail
        go_ret
        exact ⟨ret_int (by rw [HN.out]), rfl⟩
    · have HN := Lib.hid (show q = D by
        rw [← HQ.out]
        exact (digF_stop q r t v u (by rintro ⟨h3, _⟩; unfold BB at h3; omega)).symm)
      have hd : decide ((r : Int) < 4294967296) = false := by simp; omega
      clear hrB
      go_wp2_with fail
      go_ret
      exact ⟨ret_int (by rw [HN.out]), rfl⟩

set_option maxHeartbeats 800000 in
set_option maxRecDepth 100000 in
theorem guess_any (top next t v u : Nat) (w : World) (htop : top ≤ v) (hn : next < 4294967296) (ht : t < 4294967296) (hv : v < 4294967296) (hv0 : 0 < v) (hu : u < 4294967296) :
    Calls Tryd.prog 39 #[.int .u32 top, .int .u32 next, .int .u32 t, .int .u32 v, .int .u32 u] w fun e w' => e = .returned (.int .u64 (guessF top next t v u : Nat)) ∧ ∃ n, w' = w.drewN n := by
  by_cases h : v ≤ top
  · obtain rfl : top = v := by omega
    have HG := Lib.hid (show guessF top next t top u = digF 4294967295 (next + top) t top u by unfold guessF; rw [if_pos h]; rfl)
    go_enter Tryd.func39, Tryd.ntmps39
    go_wp2_with fail
    have K := digit_any 4294967295 (next + top) t top u w (by omega) (by omega) ht hv hu
    rw [show ((next + top : Nat) : Int) = (next : Int) + top by omega] at K
    refine K.mono ?_
    rintro e w1 ⟨rfl, rfl⟩
    clear K
    go_wp2_with fail
    go_ret
    exact ⟨ret_int (by rw [HG.out]), 0, rfl⟩
  · have hd : decide (v ≤ top) = false := by simp; omega
    have HG := Lib.hid (show guessF top next t v u = digF ((top * BB + next) / v) ((top * BB + next) % v) t v u by unfold guessF; rw [if_neg h])
    have hz := or_join64 (top * 4294967296) next (by omega) (by omega) hn
    rw [show ((top * 4294967296 : Nat) : Int) = (top : Int) * 4294967296 by omega] at hz
    have hq : (top * 4294967296 + next) / v < 4294967296 := by
      rw [Nat.div_lt_iff_lt_mul hv0]
      have : (top + 1) * 4294967296 ≤ v * 4294967296 := Nat.mul_le_mul_right _ (by omega)
      omega
    have hr : (top * 4294967296 + next) % v < v := Nat.mod_lt _ hv0
    have hv1 : ((v : Int) == 0) = false := by rw [beq_eq_false_iff_ne]; omega
    have hv2 : ¬ ((v : Int) = 0) := by omega
    have HZ := Lib.hid (show top * BB + next = top * 4294967296 + next from rfl)
    have hzz : top * 4294967296 + next < 18446744073709551616 := by omega
    generalize top * 4294967296 + next = z at *
    have K := fun W => digit_any (z / v) (z % v) t v u W hq (by omega) ht hv hu
    rw [Int.natCast_ediv, Int.natCast_emod] at K
    have HK := Lib.hid K
    have HQ := Lib.hid hq
    clear K hq hr
    go_enter Tryd.func39, Tryd.ntmps39
    go_wp2_with fail
    have hwr : IntKind.u64.wrap ((z : Int) / v) = (z : Int) / v := by
      have h1 := HQ.out
      rw [← Int.natCast_ediv]
      simp only [IntKind.wrap, IntKind.bits, IntKind.signed]
      generalize z / v = y at *
      simp
      omega
    go_quiet ((go_at_call 50; exact quiet_left (HK.out _)))
    clear hwr
    go_wp2_with fail
    go_ret
    exact ⟨ret_int (by rw [HG.out, HZ.out]), _, rfl⟩
end Go.Proofs.YtnogfceojmnjiaaDoor
