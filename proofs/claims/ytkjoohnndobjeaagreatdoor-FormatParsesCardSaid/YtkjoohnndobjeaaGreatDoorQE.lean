/-
  The walk of shr.
  The walk of shl.
  Digits of quotients: digit, guess.
  The walk of take.
  Plain mathematics of the long division.
  The walk of divide: small numbers, and one limb.
  The walk of divide: the long division.
  The walks of natural's exported functions Add, Sub, Mul, Shl, Shr, DivMod.
  The walks of natural's Sqrt and Gcd.
-/
import Derived.Test.YtkjoohnndobjeaaGreatDoorQD
import Derived.Lib.LazyBuf
import Derived.Outline
set_option linter.unusedVariables false
namespace Go.Fl.Nm
open Go.RowKit Go.Fl

theorem or_join64b (x y : Nat) (hx : x < 4294967296) (hy : y < 4294967296) : bits .or .u64 (x : Int) ((y : Int) * 4294967296) = (x : Int) + y * 4294967296 := by
  have h := or_join64 (y * 4294967296) x (by omega) (by omega) hx
  have hb := fun a b (ha : a < 2 ^ 64) (hb : b < 2 ^ 64) => (bits_nat .u64 64 (by decide) (fun n h0 h1 => by simp [IntKind.wrap, IntKind.bits, IntKind.signed]; omega) a b ha hb).2
  have e : (y : Int) * 4294967296 = ((y * 4294967296 : Nat) : Int) := by omega
  rw [e, hb x (y * 4294967296) (by omega) (by omega), Nat.or_comm, ← hb (y * 4294967296) x (by omega) (by omega), h]
  omega
theorem pow_split (n : Nat) : 2 ^ n = BB ^ (n / 32) * 2 ^ (n % 32) := by
  rw [BB_pow, ← Nat.pow_mul, ← Nat.pow_add, Nat.div_add_mod]
theorem BB_dvd (s : Nat) (hs : s < 32) : ∃ c, BB = 2 ^ s * c := ⟨2 ^ (32 - s), by rw [← Nat.pow_add, BB_pow]; congr 1; omega⟩
/-- The limb at the head of a shifted number. -/
theorem shr_limb (x y v s : Nat) (hs : s < 32) (hx : x < BB) : (x + BB * (y + BB * v)) / 2 ^ s = ((x + y * BB) / 2 ^ s) % BB + BB * ((y + BB * v) / 2 ^ s) := by
  obtain ⟨c, hc⟩ := BB_dvd s hs
  have hp : 0 < 2 ^ s := Nat.two_pow_pos s
  have h1 : (x + BB * (y + BB * v)) / 2 ^ s / BB = (y + BB * v) / 2 ^ s := by
    rw [Nat.div_div_eq_div_mul, Nat.mul_comm (2 ^ s) BB, ← Nat.div_div_eq_div_mul, Nat.add_mul_div_left _ _ BB_pos, Nat.div_eq_of_lt hx, Nat.zero_add]
  have h2 : (x + BB * (y + BB * v)) / 2 ^ s % BB = ((x + y * BB) / 2 ^ s) % BB := by
    have : x + BB * (y + BB * v) = x + y * BB + 2 ^ s * (BB * (c * v)) := by
      rw [Nat.mul_add, Nat.mul_comm BB y, Nat.add_assoc]
      congr 2
      calc BB * (BB * v) = (2 ^ s * c) * (BB * v) := by rw [← hc]
        _ = 2 ^ s * (BB * (c * v)) := by rw [Nat.mul_assoc, Nat.mul_left_comm c BB v]
    rw [this, Nat.add_mul_div_left _ _ hp, Nat.add_mul_mod_self_left]
  have := Nat.mod_add_div ((x + BB * (y + BB * v)) / 2 ^ s) BB
  rw [h1, h2] at this
  exact this.symm
end Go.Fl.Nm

namespace Go.Proofs.YtkjoohnndobjeaaGreatDoor
open Go.RowKit Go.Fl Go.Fl.Nm

theorem shr_cast (q y s : Nat) : (((q + y * BB) / 2 ^ s % BB : Nat) : Int) = ((q : Int) + y * 4294967296) / 2 ^ s % 4294967296 := by
  unfold BB; simp

def ShrRel (w : World) (g n s : Nat) (a : List Nat) (k : Nat) (iv : Value) (wr : World) : Prop :=
  ∃ (i : Nat) (l : List Nat), iv = .int .i64 i ∧ i ≤ n ∧ k = n - i ∧ Hid (l.length = n) ∧ Hid (ok l) ∧ Hid (Blk wr g tU (UA l)) ∧
    Hid (val l + BB ^ i * (val (a.drop i) / 2 ^ s) = val a / 2 ^ s) ∧ Hid (∀ j, i ≤ j → j < n → l[j]? = some 0) ∧ Hid (Below w.heap.size w wr)
theorem shr_step {l a : List Nat} {i n s x y v : Nat} (hl : l.length = n) (hok : ok l) (hi : i < n) (hs : s < 32) (hv : val l + BB ^ i * (val (a.drop i) / 2 ^ s) = val a / 2 ^ s)
    (hz : ∀ j, i ≤ j → j < n → l[j]? = some 0) (hx : a[i]? = some x) (hxB : x < BB) (hy : val (a.drop (i + 1)) = y + BB * v) :
    (l.set i (((x + y * BB) / 2 ^ s) % BB)).length = n ∧ ok (l.set i (((x + y * BB) / 2 ^ s) % BB)) ∧
      val (l.set i (((x + y * BB) / 2 ^ s) % BB)) + BB ^ (i + 1) * (val (a.drop (i + 1)) / 2 ^ s) = val a / 2 ^ s ∧ (∀ j, i + 1 ≤ j → j < n → (l.set i (((x + y * BB) / 2 ^ s) % BB))[j]? = some 0) := by
  refine ⟨by simp [hl], ok_set hok _ _ (Nat.mod_lt _ BB_pos), ?_, fun j h1 h2 => by rw [at_set_ne _ (by omega)]; exact hz j (by omega) h2⟩
  rw [val_set0 _ (hz i (by omega) hi), ← hv, val_drop hx, hy, shr_limb x y v s hs hxB, Nat.pow_succ, Nat.mul_add, Nat.mul_assoc]
  omega

end Go.Proofs.YtkjoohnndobjeaaGreatDoor
namespace Go.Fl.Nm
open Go.RowKit Go.Fl

theorem two_pow_le31 (s : Nat) (h : s < 32) : 2 ^ s ≤ 2147483648 := by
  have : 2 ^ s ≤ 2 ^ 31 := Nat.pow_le_pow_right (by omega) (by omega)
  simpa using this
theorem shl_lt (x s cc : Nat) (hx : x < BB) (hs : s < 32) (hc : cc < 2 ^ s) : x * 2 ^ s + cc < BB * 2 ^ s := by
  have : (x + 1) * 2 ^ s ≤ BB * 2 ^ s := Nat.mul_le_mul_right _ hx
  rw [Nat.add_mul] at this
  omega
theorem or_shl (x s cc : Nat) (hx : x < 4294967296) (hs : s < 32) (hc : cc < 2 ^ s) : bits .or .u64 ((x : Int) * 2 ^ s) (cc : Int) = (x : Int) * 2 ^ s + cc := by
  have h1 := shl_lt x s cc hx hs hc
  have h2 := two_pow_le31 s hs
  have e : (x : Int) * 2 ^ s = ((x * 2 ^ s : Nat) : Int) := by simp
  have h3 : BB * 2 ^ s ≤ BB * 2147483648 := Nat.mul_le_mul_left _ h2
  unfold BB at h1 h3
  rw [e]
  have := bits_join .u64 64 (by decide) (fun n h0 h1 => by simp [IntKind.wrap, IntKind.bits, IntKind.signed]; omega) s ((x * 2 ^ s : Nat) : Int) cc (by omega)
    (by
      have : (2 : Int) ^ s = ((2 ^ s : Nat) : Int) := by simp
      rw [this, ← Int.natCast_emod, Nat.mul_mod_left]; rfl) (by omega) (by omega)
    (by
      have : (2 : Int) ^ s = ((2 ^ s : Nat) : Int) := by simp
      rw [this]; omega) (by omega)
  exact this

theorem Nw.of_own {w : World} {t : TypeId} {base n : Nat} {v : Value} {l : List Nat} (h : w.ownsRow base t 1 v n (U l)) (hok : ok l) : ∃ A c, v = .slice A n c ∧ Nw w t base A n c l := by
  have hl : l.length = n := by have := h.1; rw [U_len] at this; omega
  obtain ⟨A, c, hv, hrd, hnc, hcm⟩ := Rd.of_own h
  rcases h.2 with ⟨h1, h2⟩ | ⟨g, cap, cur, h1, hb, hg, _, _, _, _⟩
  · rw [h1] at hv
    injection hv with h3 h4 h5
    subst h3 h4 h5
    exact ⟨none, 0, h1, ⟨hl, hok, by omega, hcm, fun _ => rfl, hrd⟩, fun h => absurd h (by omega)⟩
  · rw [h1] at hv
    injection hv with h3 h4 h5
    subst h3 h5
    exact ⟨_, _, h1, ⟨hl, hok, hnc, hcm, fun h => (by cases h), hrd⟩, fun _ => ⟨g, cur, rfl, hb, hg⟩⟩
end Go.Fl.Nm

namespace Go.Proofs.YtkjoohnndobjeaaGreatDoor
open Go.RowKit Go.Fl Go.Fl.Nm

theorem below_of_grown {B : Nat} {w w' : World} {row : Option Nat} (h : w.grownBy w' row) (hr : ∀ g, row = some g → B ≤ g) (hB : B ≤ w.heap.size) : Below B w w' :=
  ⟨h.os, h.tape, h.output, h.size, fun k hk => h.block k (by omega) (fun e => by have := hr k e.symm; omega)⟩

def ShlRel (w : World) (k x s : Nat) (a : List Nat) (m : Nat) (vv cv iv : Value) (wr : World) : Prop :=
  ∃ (i cc : Nat) (o : List Nat), iv = .int .i64 i ∧ cv = .int .u64 cc ∧ cc < 2 ^ s ∧ i ≤ x ∧ m = x - i ∧ Hid (o.length = k + i) ∧ Hid (ok o) ∧ vv = .slice (some ⟨w.heap.size, 0, none⟩) (k + i) (k + x + 1) ∧ Hid (wr.ownsRow w.heap.size tU 1 (.slice (some ⟨w.heap.size, 0, none⟩) (k + i) (k + x + 1)) (k + i) (U o)) ∧
    Hid (val o + BB ^ (k + i) * cc = BB ^ k * (2 ^ s * val (a.take i))) ∧ Hid (Below w.heap.size w wr)
theorem shl_step {o a : List Nat} {i k x s cc : Nat} (hl : o.length = k + i) (hok : ok o) (hv : val o + BB ^ (k + i) * cc = BB ^ k * (2 ^ s * val (a.take i))) (ha : val (a.take (i + 1)) = val (a.take i) + BB ^ i * x) :
    (o ++ [(x * 2 ^ s + cc) % BB]).length = k + (i + 1) ∧ ok (o ++ [(x * 2 ^ s + cc) % BB]) ∧ val (o ++ [(x * 2 ^ s + cc) % BB]) + BB ^ (k + (i + 1)) * ((x * 2 ^ s + cc) / BB) = BB ^ k * (2 ^ s * val (a.take (i + 1))) := by
  refine ⟨by simp [hl]; omega, ok_append.2 ⟨hok, ok_cons.2 ⟨Nat.mod_lt _ BB_pos, ok_nil⟩⟩, ?_⟩
  rw [val_snoc, hl, ← Nat.add_assoc k i 1, Nat.pow_succ BB (k + i), Nat.mul_assoc (BB ^ (k + i)), Nat.add_assoc, ← Nat.mul_add, Nat.mod_add_div, ha, Nat.mul_add (2 ^ s), Nat.mul_add (BB ^ k), ← hv, Nat.mul_add, Nat.pow_add, Nat.mul_comm x]
  have : BB ^ k * BB ^ i * (2 ^ s * x) = BB ^ k * (2 ^ s * (BB ^ i * x)) := by rw [Nat.mul_assoc, Nat.mul_left_comm (BB ^ i)]
  omega
theorem shl_end {o a : List Nat} {k x s p cc : Nat} (hl : o.length = k + x) (hok : ok o) (hv : val o + BB ^ (k + x) * cc = BB ^ k * (2 ^ s * val a)) (hp : 2 ^ p = BB ^ k * 2 ^ s) (hc : cc < BB) :
    ok (o ++ [cc]) ∧ val (o ++ [cc]) = val a * 2 ^ p := by
  refine ⟨ok_append.2 ⟨hok, ok_cons.2 ⟨hc, ok_nil⟩⟩, ?_⟩
  rw [val_snoc, hl, hv, hp, Nat.mul_comm (val a), Nat.mul_assoc]

/-- What shl returns: a block of just the limbs of the product. -/
def ShlPost (N v : Nat) (w : World) (e : Ending) (w' : World) : Prop :=
  ∃ l : List Nat, e = .returned (.slice (some ⟨w.heap.size, 0, none⟩) N N) ∧ Hid (Blk w' w.heap.size tU (UA l)) ∧ Hid (l.length = N) ∧ Hid (ok l) ∧ Hid (val l = v) ∧ Hid (Below w.heap.size w w')
theorem blk_of_own {w : World} {g n base : Nat} {l : List Nat} (h : w.ownsRow base tU 1 (.slice (some ⟨g, 0, none⟩) n n) n (U l)) : Blk w g tU (UA l) := by
  rcases h.2 with ⟨h1, _⟩ | ⟨g', cap, cur, h1, _, hg, _, _, hc, ht⟩
  · cases h1
  · injection h1 with h1 h2 h3
    injection h1 with h1
    injection h1 with h1
    subst h1 h3
    rw [List.take_of_length_le (by simp; omega)] at ht
    unfold Blk UA
    rw [← ht]
    simpa using hg

end Go.Proofs.YtkjoohnndobjeaaGreatDoor
namespace Go.Fl.Nm
open Go.RowKit Go.Fl

/-- What digit returns. -/
def digF : Nat → Nat → Nat → Nat → Nat → Nat
  | 0, _, _, _, _ => 0
  | q + 1, r, t, v, u => if r < BB ∧ r * BB + t < (q + 1) * u then digF q (r + v) t v u else q + 1
theorem digF_step (q r t v u : Nat) (h1 : r < BB) (h2 : r * BB + t < (q + 1) * u) : digF (q + 1) r t v u = digF q (r + v) t v u := by
  rw [digF, if_pos ⟨h1, h2⟩]
theorem digF_stop (q r t v u : Nat) (h : ¬ (r < BB ∧ r * BB + t < q * u)) : digF q r t v u = q := by
  cases q with
  | zero => rfl
  | succ q => rw [digF, if_neg h]
theorem digF_spec (q r t v u : Nat) (Q : Nat) (hQ : Q * (v * BB + u) ≤ (q * v + r) * BB + t) (hQq : Q ≤ q) (ht : t < BB) :
    Q ≤ digF q r t v u ∧ digF q r t v u ≤ q ∧ digF q r t v u * v ≤ q * v + r ∧ (digF q r t v u * v + BB ≤ q * v + r ∨ digF q r t v u * (v * BB + u) ≤ (q * v + r) * BB + t) := by
  induction q generalizing r with
  | zero => exact ⟨hQq, Nat.le_refl _, by simp [digF], .inr (by simp [digF])⟩
  | succ q ih =>
    by_cases h : r < BB ∧ r * BB + t < (q + 1) * u
    · rw [digF, if_pos h]
      have e : q * v + (r + v) = (q + 1) * v + r := by rw [Nat.add_mul]; omega
      have h2 : Q ≤ q := by
        rcases Nat.lt_or_ge q Q with hlt | hge
        · exfalso
          have hq : Q = q + 1 := by omega
          rw [hq, Nat.mul_add, ← Nat.mul_assoc, Nat.add_mul ((q + 1) * v) r BB] at hQ
          omega
        · exact hge
      have := ih (r + v) (by rw [e]; exact hQ) h2
      rw [e] at this
      exact ⟨this.1, by omega, this.2.2⟩
    · rw [digF, if_neg h]
      refine ⟨hQq, Nat.le_refl _, by omega, ?_⟩
      by_cases h1 : r < BB
      · right
        have h2 : (q + 1) * u ≤ r * BB + t := by
          rcases Nat.lt_or_ge (r * BB + t) ((q + 1) * u) with h3 | h3
          · exact absurd ⟨h1, h3⟩ h
          · exact h3
        rw [Nat.mul_add, ← Nat.mul_assoc, Nat.add_mul ((q + 1) * v) r BB]
        omega
      · left; omega
theorem digF_le (q r t v u : Nat) : digF q r t v u ≤ q := by
  induction q generalizing r with
  | zero => exact Nat.le_refl _
  | succ q ih =>
    rw [digF]
    split
    · have := ih (r + v); omega
    · exact Nat.le_refl _
/-- What guess returns. -/
def guessF (top next t v u : Nat) : Nat := if v ≤ top then digF (BB - 1) (next + v) t v u else digF ((top * BB + next) / v) ((top * BB + next) % v) t v u
theorem guessF_spec (top next t v u Q : Nat) (ht : t < BB) (hn : next < BB) (hv : 0 < v) (htop : top ≤ v) (hQB : Q < BB) (hQ : Q * (v * BB + u) ≤ (top * BB + next) * BB + t) :
    Q ≤ guessF top next t v u ∧ guessF top next t v u < BB ∧ guessF top next t v u * v ≤ top * BB + next ∧
      (guessF top next t v u * v + BB ≤ top * BB + next ∨ guessF top next t v u * (v * BB + u) ≤ (top * BB + next) * BB + t) := by
  unfold guessF
  by_cases h : v ≤ top
  · rw [if_pos h]
    have e : (BB - 1) * v + (next + v) = top * BB + next := by
      have : top = v := by omega
      rw [this, Nat.sub_mul, Nat.one_mul, Nat.mul_comm v]
      have : 1 * v ≤ BB * v := Nat.mul_le_mul_right _ BB_pos
      omega
    have := digF_spec (BB - 1) (next + v) t v u Q (by rw [e]; exact hQ) (by omega) ht
    rw [e] at this
    have hB := BB_pos
    exact ⟨this.1, by omega, this.2.2⟩
  · rw [if_neg h]
    have e : (top * BB + next) / v * v + (top * BB + next) % v = top * BB + next := Nat.div_add_mod' _ _
    have h1 : (top * BB + next) / v < BB := by
      rw [Nat.div_lt_iff_lt_mul hv]
      have : (top + 1) * BB ≤ v * BB := Nat.mul_le_mul_right _ (by omega)
      rw [Nat.mul_comm v, Nat.add_mul] at this
      omega
    have h2 : Q ≤ (top * BB + next) / v := by
      rw [Nat.le_div_iff_mul_le hv]
      rw [Nat.mul_add, ← Nat.mul_assoc] at hQ
      have : Q * v * BB < (top * BB + next + 1) * BB := by
        rw [Nat.add_mul (top * BB + next)]
        have : 0 ≤ Q * u := Nat.zero_le _
        omega
      have := Nat.lt_of_mul_lt_mul_right this
      omega
    have := digF_spec _ ((top * BB + next) % v) t v u Q (by rw [e]; exact hQ) h2 ht
    rw [e] at this
    exact ⟨this.1, by omega, this.2.2⟩
end Go.Fl.Nm

namespace Go.Proofs.YtkjoohnndobjeaaGreatDoor
open Go.RowKit Go.Fl Go.Fl.Nm

theorem quiet_left {P : Program} {f : FuncId} {args : Array Value} {w : World} {n : Nat} {v : Value}
    (h : Calls P f args (w.drewN n) fun e w' => e = .returned v ∧ w.drewN n = w') : Calls P f args (w.drewN n) fun e w'' => e = .returned v ∧ ∃ m, w'' = w.drewN m :=
  h.mono fun _ _ ⟨he, hm⟩ => ⟨he, n, hm.symm⟩

def DigRel (q0 r0 t v u : Nat) (qv rv : Value) : Prop := ∃ q r : Nat, qv = .int .u64 q ∧ rv = .int .u64 r ∧ q < 4294967296 ∧ r < 8589934592 ∧ Hid (digF q r t v u = digF q0 r0 t v u)

end Go.Proofs.YtkjoohnndobjeaaGreatDoor
namespace Go.Fl.Nm
open Go.RowKit Go.Fl

theorem and_mask64 (x : Nat) (h : x < 18446744073709551616) : bits .and .u64 (x : Int) 4294967295 = ((x % 4294967296 : Nat) : Int) := by
  have := bits_mask .u64 64 (by decide) (fun n h0 h1 => by simp [IntKind.wrap, IntKind.bits, IntKind.signed]; omega) 32 (by decide) (x : Int) (by omega) (by omega)
  have e : ((2 : Int) ^ 32 - 1) = 4294967295 := by decide
  rw [e] at this
  rw [this]; omega
/-- A step of take: what is left of a limb, and what is borrowed. -/
theorem take_limb (o m b : Nat) (ho : o < BB) (hm : m < BB) (hb : b ≤ 1) : ∃ d r : Nat, d < BB ∧ r ≤ 1 ∧ d + m + b = o + BB * r ∧
    IntKind.u64.wrap (IntKind.u64.wrap ((o : Int) - m) - b) % 4294967296 = d ∧ IntKind.u64.wrap (IntKind.u64.wrap ((o : Int) - m) - b) / 9223372036854775808 = r := by
  have hw : ∀ x : Int, IntKind.u64.wrap x = x % 18446744073709551616 := fun x => by simp [IntKind.wrap, IntKind.bits, IntKind.signed]
  rw [hw, hw]
  unfold BB at *
  by_cases h : o < m + b
  · exact ⟨o + 4294967296 - m - b, 1, by omega, by omega, by omega, by omega, by omega⟩
  · exact ⟨o - m - b, 0, by omega, by omega, by omega, by omega, by omega⟩
theorem take_step {us l v : List Nat} {i j n q y o cc bb d r : Nat} (hl : l.length = us.length) (hok : ok l) (hj : j + n < us.length) (hi : i < n)
    (hv : val l + BB ^ j * (q * val (v.take i)) = val us + BB ^ (j + i) * (cc + bb)) (hk : ∀ x, x < j ∨ j + i ≤ x → l[x]? = us[x]?)
    (hy : val (v.take (i + 1)) = val (v.take i) + BB ^ i * y) (ho : l[j + i]? = some o) (hd : d < BB) (he : d + (q * y + cc) % BB + bb = o + BB * r) :
    (l.set (j + i) d).length = us.length ∧ ok (l.set (j + i) d) ∧ val (l.set (j + i) d) + BB ^ j * (q * val (v.take (i + 1))) = val us + BB ^ (j + (i + 1)) * ((q * y + cc) / BB + r) ∧
      (∀ x, x < j ∨ j + (i + 1) ≤ x → (l.set (j + i) d)[x]? = us[x]?) := by
  refine ⟨by simp [hl], ok_set hok _ _ hd, ?_, fun x hx => by rw [at_set_ne _ (by omega)]; exact hk x (by omega)⟩
  have h1 := val_set d ho
  rw [hy, ← Nat.add_assoc j i 1, Nat.pow_succ, Nat.mul_assoc (BB ^ (j + i))]
  have e2 : BB ^ j * (q * (val (v.take i) + BB ^ i * y)) = BB ^ j * (q * val (v.take i)) + BB ^ (j + i) * (q * y) := by
    rw [Nat.mul_add q, Nat.mul_add, Nat.pow_add, Nat.mul_left_comm q, Nat.mul_assoc (BB ^ j)]
  rw [e2]
  have e3 : BB ^ (j + i) * (d + (q * y + cc) % BB + bb) = BB ^ (j + i) * (o + BB * r) := by rw [he]
  have e4 : BB ^ (j + i) * (q * y + cc) = BB ^ (j + i) * ((q * y + cc) % BB) + BB ^ (j + i) * (BB * ((q * y + cc) / BB)) := by rw [← Nat.mul_add, Nat.mod_add_div]
  simp only [Nat.mul_add] at e3 e4 h1 hv ⊢
  omega
theorem take_end {us l v : List Nat} {j n q o cc bb d r : Nat} (hl : l.length = us.length) (hok : ok l) (hj : j + n < us.length)
    (hv : val l + BB ^ j * (q * val v) = val us + BB ^ (j + n) * (cc + bb)) (hk : ∀ x, x < j ∨ j + n ≤ x → l[x]? = us[x]?)
    (ho : l[j + n]? = some o) (hd : d < BB) (he : d + cc + bb = o + BB * r) :
    (l.set (j + n) d).length = us.length ∧ ok (l.set (j + n) d) ∧ val (l.set (j + n) d) + BB ^ j * (q * val v) = val us + BB ^ (j + n + 1) * r ∧
      (∀ x, x < j ∨ j + n < x → (l.set (j + n) d)[x]? = us[x]?) := by
  refine ⟨by simp [hl], ok_set hok _ _ hd, ?_, fun x hx => by rw [at_set_ne _ (by omega)]; exact hk x (by omega)⟩
  have h1 := val_set d ho
  rw [Nat.pow_succ, Nat.mul_assoc (BB ^ (j + n))]
  have e3 : BB ^ (j + n) * (d + cc + bb) = BB ^ (j + n) * (o + BB * r) := by rw [he]
  simp only [Nat.mul_add] at e3 h1 hv ⊢
  omega
theorem grown_setCell (w : World) (g i : Nat) (v : Value) : w.grownBy (w.setCell ⟨g, i, none⟩ v) (some g) :=
  ⟨rfl, rfl, rfl, by simp [World.setCell], fun k _ hk => Below.heap_setCell w ⟨g, i, none⟩ v k (fun e => hk (by rw [e]))⟩
theorem grown_trans {a b c : World} {row : Option Nat} (h1 : a.grownBy b row) (h2 : b.grownBy c row) : a.grownBy c row :=
  ⟨h2.os.trans h1.os, h2.tape.trans h1.tape, h2.output.trans h1.output, Nat.le_trans h1.size h2.size, fun k hk hr => (h2.block k (by have := h1.size; omega) hr).trans (h1.block k hk hr)⟩
theorem grown_refl (w : World) (row : Option Nat) : w.grownBy w row := World.grownBy.refl w row
end Go.Fl.Nm

namespace Go.Proofs.YtkjoohnndobjeaaGreatDoor
open Go.RowKit Go.Fl Go.Fl.Nm

def TakePost (w : World) (g j n q : Nat) (us v : List Nat) (e : Ending) (w' : World) : Prop :=
  ∃ (us' : List Nat) (r : Nat), e = .returned (.bool (decide (r = 1))) ∧ r ≤ 1 ∧ Hid (us'.length = us.length) ∧ Hid (ok us') ∧ Hid (Blk w' g tU (UA us')) ∧
    Hid (val us' + BB ^ j * (q * val v) = val us + BB ^ (j + n + 1) * r) ∧ Hid (∀ x, x < j ∨ j + n < x → us'[x]? = us[x]?) ∧ Hid (w.grownBy w' (some g))
def TakeRel (w : World) (g j n q : Nat) (us v : List Nat) (k : Nat) (cv bv iv : Value) (wr : World) : Prop :=
  ∃ (i cc bb : Nat) (l : List Nat), iv = .int .i64 i ∧ cv = .int .u64 cc ∧ bv = .int .u64 bb ∧ cc < 4294967296 ∧ bb ≤ 1 ∧ i ≤ n ∧ k = n - i ∧ Hid (l.length = us.length) ∧ Hid (ok l) ∧ Hid (Blk wr g tU (UA l)) ∧
    Hid (val l + BB ^ j * (q * val (v.take i)) = val us + BB ^ (j + i) * (cc + bb)) ∧ Hid (∀ x, x < j ∨ j + i ≤ x → l[x]? = us[x]?) ∧ Hid (w.grownBy wr (some g))

end Go.Proofs.YtkjoohnndobjeaaGreatDoor
namespace Go.Fl.Nm
open Go.RowKit Go.Fl

/-- A list of n + 2 limbs by its two last ones. -/
theorem val_top2 {l : List Nat} {m x y : Nat} (hok : ok l) (hl : l.length = m + 2) (hx : l[m + 1]? = some x) (hy : l[m]? = some y) : ∃ r, r < BB ^ m ∧ val l = (x * BB + y) * BB ^ m + r := by
  have h1 := val_take_succ hx
  rw [List.take_of_length_le (by omega)] at h1
  rw [val_take_succ hy] at h1
  have h2 := val_lt (ok_take hok m)
  rw [List.length_take, Nat.min_eq_left (by omega)] at h2
  refine ⟨_, h2, ?_⟩
  rw [h1, Nat.pow_succ, Nat.add_mul, Nat.mul_comm (BB ^ m) y, Nat.mul_assoc x, Nat.mul_comm x, Nat.mul_comm BB]
  omega
/-- What the upper limbs of a dividend and a divisor say of a digit of the quotient. -/
theorem digit_top {V W P v1 v2 t1 t2 t3 rv rw : Nat} (hV : V = (v1 * BB + v2) * P + rv) (hW : W = ((t1 * BB + t2) * BB + t3) * P + rw) (hrv : rv < P) (hrw : rw < P) (hv2 : v2 < BB)
    (hWV : W < BB * V) : t1 ≤ v1 ∧ (W / V) * (v1 * BB + v2) ≤ (t1 * BB + t2) * BB + t3 := by
  have hP : 0 < P := by omega
  have hQ := Nat.div_mul_le_self W V
  constructor
  · rcases Nat.lt_or_ge v1 t1 with h | h
    · exfalso
      have h1 : (v1 + 1) * BB * BB * P ≤ t1 * BB * BB * P := Nat.mul_le_mul_right _ (Nat.mul_le_mul_right _ (Nat.mul_le_mul_right _ h))
      have h2 : BB * V ≤ (v1 + 1) * BB * BB * P := by
        have h3 : V ≤ (v1 * BB + v2 + 1) * P := by rw [hV, Nat.add_mul _ 1 P]; omega
        have h4 : v1 * BB + v2 + 1 ≤ (v1 + 1) * BB := by rw [Nat.add_mul]; omega
        calc BB * V ≤ BB * ((v1 * BB + v2 + 1) * P) := Nat.mul_le_mul_left _ h3
          _ ≤ BB * (((v1 + 1) * BB) * P) := Nat.mul_le_mul_left _ (Nat.mul_le_mul_right _ h4)
          _ = (v1 + 1) * BB * BB * P := by rw [← Nat.mul_assoc, Nat.mul_comm BB]
      have h5 : t1 * BB * BB * P ≤ W := by
        rw [hW]
        have : t1 * BB * BB ≤ (t1 * BB + t2) * BB + t3 := by rw [Nat.add_mul]; omega
        exact Nat.le_trans (Nat.mul_le_mul_right _ this) (Nat.le_add_right _ _)
      omega
    · exact h
  · have h1 : (W / V) * (v1 * BB + v2) * P ≤ W := by
      refine Nat.le_trans ?_ hQ
      rw [hV, Nat.mul_assoc]
      exact Nat.mul_le_mul_left _ (Nat.le_add_right _ _)
    have h2 : (W / V) * (v1 * BB + v2) * P < ((t1 * BB + t2) * BB + t3 + 1) * P := by
      rw [Nat.add_mul _ 1 P]; omega
    have := Nat.lt_of_mul_lt_mul_right h2
    omega
theorem digit_near {V W P v1 v2 t1 t2 t3 rv rw x : Nat} (hV : V = (v1 * BB + v2) * P + rv) (hW : W = ((t1 * BB + t2) * BB + t3) * P + rw) (hrv : rv < P) (hv1 : 0 < v1) (hv2 : v2 < BB) (hx : x < BB)
    (h : x * v1 + BB ≤ t1 * BB + t2 ∨ x * (v1 * BB + v2) ≤ (t1 * BB + t2) * BB + t3) : x * V ≤ W + V := by
  rcases h with h | h
  · have h1 : x * V ≤ x * ((v1 + 1) * BB * P) := by
      apply Nat.mul_le_mul_left
      rw [hV]
      have : (v1 * BB + v2 + 1) * P ≤ (v1 + 1) * BB * P := Nat.mul_le_mul_right _ (by rw [Nat.add_mul]; omega)
      rw [Nat.add_mul _ 1 P] at this
      omega
    have h2 : x * ((v1 + 1) * BB * P) = (x * v1 + x) * (BB * P) := by rw [Nat.mul_assoc (v1 + 1), ← Nat.mul_assoc, Nat.mul_add, Nat.mul_one]
    have h3 : (x * v1 + x) * (BB * P) ≤ (t1 * BB + t2) * (BB * P) := Nat.mul_le_mul_right _ (by omega)
    have h4 : (t1 * BB + t2) * (BB * P) ≤ W := by
      rw [hW, ← Nat.mul_assoc, Nat.add_mul _ t3 P]; omega
    omega
  · have h1 : x * V ≤ x * ((v1 * BB + v2) * P) + x * P := by
      rw [hV, ← Nat.mul_add]
      exact Nat.mul_le_mul_left _ (by omega)
    have h2 : x * ((v1 * BB + v2) * P) ≤ ((t1 * BB + t2) * BB + t3) * P := by
      rw [← Nat.mul_assoc]; exact Nat.mul_le_mul_right _ h
    have h3 : x * P ≤ BB * P := Nat.mul_le_mul_right _ (by omega)
    have h4 : BB * P ≤ V := by
      rw [hV]
      have : 1 * BB ≤ v1 * BB := Nat.mul_le_mul_right _ hv1
      have : BB * P ≤ (v1 * BB + v2) * P := Nat.mul_le_mul_right _ (by omega)
      omega
    omega
theorem div_of_near {x V W : Nat} (hV : 0 < V) (h1 : W / V ≤ x) (h2 : x * V ≤ W + V) : x = W / V ∨ x = W / V + 1 := by
  have h3 : x ≤ W / V + 1 := by
    rcases Nat.lt_or_ge (W / V + 1) x with h | h
    · exfalso
      have h4 : (W / V + 2) * V ≤ x * V := Nat.mul_le_mul_right _ h
      have h5 : W < (W / V + 1) * V := by
        have := Nat.div_add_mod W V
        have := Nat.mod_lt W hV
        rw [Nat.add_mul, Nat.mul_comm (W / V)]; omega
      rw [Nat.add_mul] at h4 h5
      omega
    · exact h
  omega
/-- The lower part of a list does not matter for what is above. -/
theorem low_part {us : List Nat} {j : Nat} (hok : ok us) (hj : j ≤ us.length) : ∃ r, r < BB ^ j ∧ val us = r + BB ^ j * val (us.drop j) := by
  have h2 := val_lt (ok_take hok j)
  rw [List.length_take, Nat.min_eq_left hj] at h2
  exact ⟨_, h2, val_split us j hj⟩
theorem drop_small {us : List Nat} {j : Nat} {X : Nat} (hok : ok us) (hj : j ≤ us.length) (h : val us < BB ^ j * X) : val (us.drop j) < X := by
  obtain ⟨r, hr, e⟩ := low_part hok hj
  rw [e] at h
  exact Nat.lt_of_mul_lt_mul_left (Nat.lt_of_le_of_lt (Nat.le_add_left _ _) h)
theorem zero_above {us : List Nat} {k : Nat} (hok : ok us) (h : val us < BB ^ k) : ∀ i y, k ≤ i → us[i]? = some y → y = 0 := by
  intro i y hi hy
  have hl := (List.getElem?_eq_some_iff.1 hy).1
  have h1 := val_split us i (by omega)
  rw [val_drop hy] at h1
  rcases Nat.eq_zero_or_pos y with h0 | h0
  · exact h0
  · exfalso
    have h2 : BB ^ k ≤ BB ^ i := Nat.pow_le_pow_right BB_pos hi
    have h3 : BB ^ i * 1 ≤ BB ^ i * (y + BB * val (us.drop (i + 1))) := Nat.mul_le_mul_left _ (by omega)
    omega
theorem val_lt_of_zeros {us : List Nat} {k : Nat} (hok : ok us) (h : ∀ i y, k ≤ i → us[i]? = some y → y = 0) : val us < BB ^ k := by
  by_cases hk : k ≤ us.length
  · have h1 := val_split us k hk
    have h2 : val (us.drop k) = 0 := by
      apply val_zero_of
      intro x hx
      obtain ⟨i, hi⟩ := List.getElem?_of_mem hx
      rw [List.getElem?_drop] at hi
      exact h _ _ (by omega) hi
    have h3 := val_lt (ok_take hok k)
    rw [List.length_take, Nat.min_eq_left hk] at h3
    rw [h1, h2]; omega
  · exact Nat.lt_of_lt_of_le (val_lt hok) (Nat.pow_le_pow_right BB_pos (by omega))

/-- One digit: what guess gets, and what it means. 'us' has the dividend, 'v' the divisor of m + 2 limbs. -/
theorem round_guess {us v : List Nat} {j m t1 t2 t3 v1 v2 : Nat} (hok : ok us) (hv : ok v) (hvl : v.length = m + 2) (hj : j + (m + 2) < us.length) (hlt : val us < val v * BB ^ (j + 1))
    (h1 : us[j + (m + 2)]? = some t1) (h2 : us[j + (m + 1)]? = some t2) (h3 : us[j + m]? = some t3) (g1 : v[m + 1]? = some v1) (g2 : v[m]? = some v2) (hv1 : 0 < v1) :
    t1 ≤ v1 ∧ guessF t1 t2 t3 v1 v2 < BB ∧ (guessF t1 t2 t3 v1 v2 = val (us.drop j) / val v ∨ guessF t1 t2 t3 v1 v2 = val (us.drop j) / val v + 1) := by
  obtain ⟨rv, hrv, eV⟩ := val_top2 hv hvl g1 g2
  have hV : 0 < val v := by
    rw [eV]
    have : 0 < (v1 * BB + v2) * BB ^ m := Nat.mul_pos (by have := Nat.mul_pos hv1 BB_pos; omega) (Nat.pow_pos BB_pos)
    omega
  have hWV : val (us.drop j) < BB * val v := drop_small hok (by omega) (by rw [Nat.pow_succ, Nat.mul_comm, Nat.mul_assoc] at hlt; exact hlt)
  have hz : val (us.drop j) < BB ^ (m + 3) := by
    have := val_lt hv
    rw [hvl] at this
    calc val (us.drop j) < BB * val v := hWV
      _ ≤ BB * BB ^ (m + 2) := Nat.mul_le_mul_left _ (by omega)
      _ = BB ^ (m + 3) := by rw [Nat.mul_comm, ← Nat.pow_succ]
  have hW : val (us.drop j) = ((t1 * BB + t2) * BB + t3) * BB ^ m + val ((us.drop j).take m) := by
    have e0 := val_split (us.drop j) (m + 3) (by rw [List.length_drop]; omega)
    have e1 : val ((us.drop j).drop (m + 3)) = 0 := by
      apply val_zero_of
      intro x hx
      obtain ⟨i, hi⟩ := List.getElem?_of_mem hx
      rw [List.getElem?_drop] at hi
      exact zero_above (ok_drop hok j) hz _ _ (by omega) hi
    rw [e1, val_take_succ (x := t1) (by rw [List.getElem?_drop]; exact h1), val_take_succ (x := t2) (by rw [List.getElem?_drop]; exact h2), val_take_succ (x := t3) (by rw [List.getElem?_drop]; exact h3)] at e0
    have p1 : BB ^ (m + 1) = BB ^ m * BB := Nat.pow_succ _ _
    have p2 : BB ^ (m + 2) = BB ^ m * BB * BB := by rw [Nat.pow_succ, Nat.pow_succ]
    rw [p1, p2] at e0
    rw [e0]
    have a1 : (t1 * BB + t2) * BB + t3 = t1 * BB * BB + t2 * BB + t3 := by rw [Nat.add_mul]
    rw [a1, Nat.add_mul, Nat.add_mul]
    have a2 : BB ^ m * BB * BB * t1 = t1 * BB * BB * BB ^ m := by
      rw [Nat.mul_assoc (BB ^ m), Nat.mul_assoc (BB ^ m), Nat.mul_comm (BB ^ m), Nat.mul_comm (BB * BB) t1, ← Nat.mul_assoc]
    have a3 : BB ^ m * BB * t2 = t2 * BB * BB ^ m := by
      rw [Nat.mul_assoc, Nat.mul_comm (BB ^ m), Nat.mul_comm BB t2]
    have a4 : BB ^ m * t3 = t3 * BB ^ m := Nat.mul_comm _ _
    omega
  have hrw : val ((us.drop j).take m) < BB ^ m := by
    have := val_lt (ok_take (ok_drop hok j) m)
    rwa [List.length_take, List.length_drop, Nat.min_eq_left (by omega)] at this
  have hv2B := ok_at hv g2
  obtain ⟨htop, hQ⟩ := digit_top eV hW hrv hrw hv2B hWV
  have hQB : val (us.drop j) / val v < BB := by
    rw [Nat.div_lt_iff_lt_mul hV]; exact hWV
  obtain ⟨s1, s2, s3, s4⟩ := guessF_spec t1 t2 t3 v1 v2 (val (us.drop j) / val v) (ok_at hok h3) (ok_at hok h2) hv1 htop hQB hQ
  exact ⟨htop, s2, div_of_near hV s1 (digit_near eV hW hrv hv1 hv2B s2 s4)⟩

theorem ar_exact {u u' low PD PQ PR PP PV r : Nat} (e : u = low + PD) (he : u' + PQ = u + PP * r) (hd : PD = PQ + PR) (hub' : u' < PP) (hr : r ≤ 1) (hlow : low + PR < PV) : r = 0 ∧ u' + PQ = u ∧ u' < PV := by
  rcases Nat.eq_zero_or_pos r with h | h
  · subst h; rw [Nat.mul_zero] at he; exact ⟨rfl, by omega, by omega⟩
  · obtain rfl : r = 1 := by omega
    rw [Nat.mul_one] at he; omega
theorem ar_back {u u' low PD PQ PR PP PV r L S C O M : Nat} (e : u = low + PD) (he : u' + (PQ + PV) = u + PP * r) (hd : PD = PQ + PR) (hr : r ≤ 1) (hlow : low + PR < PV) (ha : L + C = u' + PV) (hS : S + O = L + M) (hub : S < PP)
    (hc : M = O + C ∨ M + PP = O + C) : r = 1 ∧ S + PQ = u ∧ S < PV := by
  rcases Nat.eq_zero_or_pos r with h | h
  · subst h; rw [Nat.mul_zero] at he; omega
  · obtain rfl : r = 1 := by omega
    rw [Nat.mul_one] at he
    exact ⟨rfl, by omega, by omega⟩
theorem low_rest {us : List Nat} {j V : Nat} (hok : ok us) (hj : j ≤ us.length) (hV : 0 < V) : ∃ low, val us = low + BB ^ j * val (us.drop j) ∧ BB ^ j * val (us.drop j) = BB ^ j * ((val (us.drop j) / V) * V) + BB ^ j * (val (us.drop j) % V) ∧ low + BB ^ j * (val (us.drop j) % V) < V * BB ^ j := by
  obtain ⟨low, hlow, e⟩ := low_part hok hj
  refine ⟨low, e, by rw [← Nat.mul_add, Nat.mul_comm (val (us.drop j) / V), Nat.div_add_mod], ?_⟩
  have hM2 := Nat.mod_lt (val (us.drop j)) hV
  have h3 : BB ^ j * (val (us.drop j) % V + 1) ≤ BB ^ j * V := Nat.mul_le_mul_left _ hM2
  rw [Nat.mul_add, Nat.mul_one] at h3
  rw [Nat.mul_comm V]
  generalize BB ^ j * (val (us.drop j) % V) = X at *
  generalize BB ^ j = P at *
  omega
theorem up_bound {us : List Nat} {j n V : Nat} (hlt : val us < V * BB ^ (j + 1)) (hvn : V < BB ^ n) : val us < BB ^ (j + n + 1) := by
  have h1 : V * BB ^ (j + 1) ≤ BB ^ n * BB ^ (j + 1) := Nat.mul_le_mul_right _ (Nat.le_of_lt hvn)
  rw [← Nat.pow_add, show n + (j + 1) = j + n + 1 by omega] at h1
  exact Nat.lt_of_lt_of_le hlt h1
/-- take with the digit itself. -/
theorem round_exact {us us' v : List Nat} {j n r : Nat} (hok : ok us) (hok' : ok us') (hl : us'.length = us.length) (hj : j + n < us.length) (hlt : val us < val v * BB ^ (j + 1)) (hvn : val v < BB ^ n) (hV : 0 < val v)
    (he : val us' + BB ^ j * ((val (us.drop j) / val v) * val v) = val us + BB ^ (j + n + 1) * r) (hk : ∀ x, x < j ∨ j + n < x → us'[x]? = us[x]?) (hr : r ≤ 1) :
    r = 0 ∧ val us' + BB ^ j * ((val (us.drop j) / val v) * val v) = val us ∧ val us' < val v * BB ^ j := by
  obtain ⟨low, e, hd, hlow⟩ := low_rest hok (show j ≤ us.length by omega) hV
  have hub' : val us' < BB ^ (j + n + 1) := val_lt_of_zeros hok' fun i y hi hy => zero_above hok (up_bound hlt hvn) i y hi (by rw [← hk i (by omega)]; exact hy)
  exact ar_exact e he hd hub' hr hlow
/-- take with one too much, and the divisor added again. -/
theorem round_back {us us' l v : List Nat} {j n r cc o : Nat} (hok : ok us) (hok' : ok us') (hokl : ok l) (hl : us'.length = us.length) (hll : l.length = us.length) (hj : j + n < us.length) (hlt : val us < val v * BB ^ (j + 1)) (hvn : val v < BB ^ n) (hV : 0 < val v)
    (he : val us' + BB ^ j * ((val (us.drop j) / val v + 1) * val v) = val us + BB ^ (j + n + 1) * r) (hk : ∀ x, x < j ∨ j + n < x → us'[x]? = us[x]?) (hr : r ≤ 1)
    (ha : val l + BB ^ (j + n) * cc = val us' + BB ^ j * val v) (hkl : ∀ x, x < j ∨ j + n ≤ x → l[x]? = us'[x]?) (ho : l[j + n]? = some o) (hoB : o < BB) (hcc : cc ≤ 1) :
    r = 1 ∧ val (l.set (j + n) ((o + cc) % BB)) + BB ^ j * ((val (us.drop j) / val v) * val v) = val us ∧ val (l.set (j + n) ((o + cc) % BB)) < val v * BB ^ j ∧ ok (l.set (j + n) ((o + cc) % BB)) ∧ (l.set (j + n) ((o + cc) % BB)).length = us.length := by
  obtain ⟨low, e, hd, hlow⟩ := low_rest hok (show j ≤ us.length by omega) hV
  have hokS : ok (l.set (j + n) ((o + cc) % BB)) := ok_set hokl _ _ (Nat.mod_lt _ BB_pos)
  have hubS : val (l.set (j + n) ((o + cc) % BB)) < BB ^ (j + n + 1) := val_lt_of_zeros hokS fun i y hi hy => zero_above hok (up_bound hlt hvn) i y hi (by
    rw [← hk i (by omega), ← hkl i (by omega)]
    rwa [at_set_ne _ (by omega)] at hy)
  have hS := val_set ((o + cc) % BB) ho
  rw [Nat.add_mul, Nat.mul_add, Nat.one_mul, Nat.mul_comm (BB ^ j) (val v)] at he
  rw [Nat.mul_comm (BB ^ j) (val v)] at ha
  have hc : BB ^ (j + n) * ((o + cc) % BB) = BB ^ (j + n) * o + BB ^ (j + n) * cc ∨ BB ^ (j + n) * ((o + cc) % BB) + BB ^ (j + n + 1) = BB ^ (j + n) * o + BB ^ (j + n) * cc := by
    by_cases hc : o + cc < BB
    · left; rw [Nat.mod_eq_of_lt hc, Nat.mul_add]
    · right
      have h4 : (o + cc) % BB + BB = o + cc := by
        rw [Nat.mod_eq_sub_mod (by omega), Nat.mod_eq_of_lt (by omega)]
        omega
      rw [Nat.pow_succ, ← Nat.mul_add, h4, Nat.mul_add]
  obtain ⟨h1, h2, h3⟩ := ar_back e he hd hr hlow ha hS hubS hc
  exact ⟨h1, h2, h3, hokS, by simp [hll]⟩
/-- The quotient so far. -/
theorem round_quo {ql : List Nat} {j Q V U0 u u' : Nat} (hj : j < ql.length) (h : u + V * BB ^ (j + 1) * val (ql.drop (j + 1)) = U0) (hu : u' + BB ^ j * (Q * V) = u) : u' + V * BB ^ j * val ((ql.set j Q).drop j) = U0 := by
  have h1 : (ql.set j Q)[j]? = some Q := by rw [List.getElem?_set_self hj]
  rw [val_drop h1, show (ql.set j Q).drop (j + 1) = ql.drop (j + 1) by rw [List.drop_set_of_lt (by omega)], Nat.mul_add, ← h, ← hu, Nat.pow_succ]
  have a1 : V * BB ^ j * Q = BB ^ j * (Q * V) := by rw [Nat.mul_comm V, Nat.mul_assoc, Nat.mul_comm V]
  have a2 : V * BB ^ j * (BB * val (ql.drop (j + 1))) = V * (BB ^ j * BB) * val (ql.drop (j + 1)) := by rw [← Nat.mul_assoc, Nat.mul_assoc V]
  omega
end Go.Fl.Nm
namespace Go.Proofs.YtkjoohnndobjeaaGreatDoor
open Go.RowKit Go.Fl Go.Fl.Nm

def ClonePost (n : Nat) (l : List Nat) (w : World) (e : Ending) (w' : World) : Prop :=
  ∃ (A : Option Addr) (c : Nat), e = .returned (.slice A n c) ∧ Hid (Nw w' tU w.heap.size A n c l) ∧ Hid (Below w.heap.size w w')
theorem U_one (l : List Nat) : ∀ u ∈ U l, u.oneCell' = true := by
  intro u hu
  unfold U at hu
  obtain ⟨x, _, rfl⟩ := List.mem_map.1 hu
  rfl
def DPost (N M v u : Nat) (w : World) (e : Ending) (w' : World) : Prop :=
  ∃ (A : Option Addr) (n c : Nat) (l : List Nat) (B : Option Addr) (m d : Nat) (r : List Nat), e = .returned (.tuple #[.slice A n c, .slice B m d]) ∧ Hid (Nw w' tU w.heap.size A n c l) ∧ Hid (Nw w' tU w.heap.size B m d r) ∧
    Hid (val l = v / u) ∧ Hid (val r = v % u) ∧ n ≤ N ∧ m ≤ M ∧ Hid (Below w.heap.size w w')

theorem trim_sl {w : World} {A : Option Addr} {n c : Nat} {a : List Nat} (ha : Sl w A n c a) : tl a ≤ n ∧ Sl w A (tl a) c (a.take (tl a)) := by
  have hta : tl a ≤ n := by rw [← ha.len]; exact tl_le a
  exact ⟨hta, ha.cut hta (by have := ha.cap; omega) ha.capMax ha.nil⟩

end Go.Proofs.YtkjoohnndobjeaaGreatDoor
namespace Go.Fl.Nm
open Go.RowKit Go.Fl
theorem Sl.grown {w w' : World} {A : Option Addr} {n c g : Nat} {l : List Nat} (h : Sl w A n c l) (hg : w.grownBy w' (some g)) (hne : ∀ b o, A = some ⟨b, o, none⟩ → b ≠ g) : Sl w' A n c l :=
  ⟨h.1, h.2.1, h.2.2.1, h.2.2.2.1, h.2.2.2.2.1, h.rd.1, fun h0 => by
    obtain ⟨b, off, hA, hb, hc⟩ := h.rd.2 h0
    refine ⟨b, off, hA, by have := hg.size; omega, fun j u hu => hg.cell (hc j u hu) ?_⟩
    intro e
    injection e with e
    exact hne b off hA e⟩
/-- The divisor, shifted so that its first bit is set, has as many limbs as before. -/
theorem norm_len {b l : List Nat} {y s t : Nat} (hb : ok b) (hl : ok l) (hy : tl b = y + 1) (ht : b[y]? = some t) (hs : s + blen t = 32) (hv : val l = val b * 2 ^ s) : tl l = y + 1 := by
  have h0 : 0 < tl b := by omega
  have hge := val_ge h0
  rw [hy] at hge
  have hbl := blen_val hb h0 (show b[tl b - 1]? = some t by rw [hy]; exact ht)
  rw [hy] at hbl
  have hv0 : val b ≠ 0 := by have := Nat.pow_pos (n := y + 1 - 1) BB_pos; omega
  have hlt := (blen_spec hv0).2
  have hlt2 : val l < BB ^ (y + 1) := by
    rw [hv, BB_pow, ← Nat.pow_mul]
    have h1 : val b * 2 ^ s < 2 ^ blen (val b) * 2 ^ s := Nat.mul_lt_mul_of_pos_right hlt (Nat.two_pow_pos s)
    rw [← Nat.pow_add, hbl] at h1
    rw [show 32 * (y + 1) = 32 * (y + 1 - 1) + blen t + s by omega]
    exact h1
  have hge2 : BB ^ y ≤ val l := by
    rw [hv]
    have : val b * 1 ≤ val b * 2 ^ s := Nat.mul_le_mul_left _ (Nat.two_pow_pos s)
    simp at hge
    omega
  rw [tl_limbs hl]
  have h1 := limbs_len_le hlt2
  have h2 : val l ≠ 0 := by have := Nat.pow_pos (n := y) BB_pos; omega
  have h3 := (limbs_len h2).2
  rcases Nat.lt_or_ge (limbs (val l)).length (y + 1) with h | h
  · have : BB ^ (limbs (val l)).length ≤ BB ^ y := Nat.pow_le_pow_right BB_pos (by omega)
    omega
  · omega
theorem div_start {a b u v : List Nat} {x m s : Nat} (ha : ok a) (hx : tl a = x) (hy : tl b = m + 2) (hxy : m + 2 ≤ x) (hu : val u = val a * 2 ^ s) (hv : val v = val b * 2 ^ s) : val u < val v * BB ^ (x + 1 - (m + 2)) := by
  rw [hu, hv]
  have h1 := val_lt_tl ha
  have h2 := val_ge (l := b) (by omega)
  rw [hx] at h1
  rw [hy] at h2
  have h3 : BB ^ (m + 2 - 1) * BB ^ (x + 1 - (m + 2)) ≤ val b * BB ^ (x + 1 - (m + 2)) := Nat.mul_le_mul_right _ h2
  rw [← Nat.pow_add, show m + 2 - 1 + (x + 1 - (m + 2)) = x by omega] at h3
  have h4 : val a * 2 ^ s < val b * BB ^ (x + 1 - (m + 2)) * 2 ^ s := Nat.mul_lt_mul_of_pos_right (by omega) (Nat.two_pow_pos s)
  rw [Nat.mul_assoc, Nat.mul_comm (2 ^ s), ← Nat.mul_assoc]
  exact h4
theorem div_finish {va vb s u q V : Nat} (hV : V = vb * 2 ^ s) (h : u + V * q = va * 2 ^ s) (hu : u < V) : q = va / vb ∧ u / 2 ^ s = va % vb := by
  have hp : 0 < 2 ^ s := Nat.two_pow_pos s
  have hV0 : 0 < V := by omega
  have h1 : (va * 2 ^ s) / V = q := by
    rw [← h, Nat.add_mul_div_left _ _ hV0, Nat.div_eq_of_lt hu]; omega
  have h2 : (va * 2 ^ s) % V = u := by
    rw [← h, Nat.add_mul_mod_self_left, Nat.mod_eq_of_lt hu]
  rw [hV, Nat.mul_div_mul_right _ _ hp] at h1
  rw [hV, Nat.mul_mod_mul_right] at h2
  exact ⟨h1.symm, by rw [← h2, Nat.mul_div_cancel _ hp]⟩
end Go.Fl.Nm

namespace Go.Proofs.YtkjoohnndobjeaaGreatDoor
open Go.RowKit Go.Fl Go.Fl.Nm

theorem back_step {us l v : List Nat} {i j n y o cc : Nat} (hl : l.length = us.length) (hok : ok l) (hj : j + n < us.length) (hi : i < n) (hv : val l + BB ^ (j + i) * cc = val us + BB ^ j * val (v.take i))
    (hk : ∀ x, x < j ∨ j + i ≤ x → l[x]? = us[x]?) (hy : val (v.take (i + 1)) = val (v.take i) + BB ^ i * y) (ho : l[j + i]? = some o) :
    (l.set (j + i) ((o + y + cc) % BB)).length = us.length ∧ ok (l.set (j + i) ((o + y + cc) % BB)) ∧
    val (l.set (j + i) ((o + y + cc) % BB)) + BB ^ (j + (i + 1)) * ((o + y + cc) / BB) = val us + BB ^ j * val (v.take (i + 1)) ∧ (∀ x, x < j ∨ j + (i + 1) ≤ x → (l.set (j + i) ((o + y + cc) % BB))[x]? = us[x]?) := by
  refine ⟨by simp [hl], ok_set hok _ _ (Nat.mod_lt _ BB_pos), ?_, fun x hx => ?_⟩
  · have h1 := val_set ((o + y + cc) % BB) ho
    have h2 := Nat.div_add_mod (o + y + cc) BB
    rw [hy, Nat.mul_add, ← Nat.mul_assoc, ← Nat.pow_add, show j + (i + 1) = j + i + 1 by omega, Nat.pow_succ, Nat.mul_assoc]
    have h3 : BB ^ (j + i) * (BB * ((o + y + cc) / BB)) + BB ^ (j + i) * ((o + y + cc) % BB) = BB ^ (j + i) * (o + y + cc) := by rw [← Nat.mul_add, h2]
    rw [Nat.mul_add, Nat.mul_add] at h3
    omega
  · rw [at_set_ne _ (by omega)]
    exact hk x (by omega)

theorem quiet_left2 {P : Program} {f : FuncId} {args : Array Value} {w : World} {n : Nat} {v : Value}
    (h : Calls P f args (w.drewN n) fun e w' => e = .returned v ∧ ∃ k, w' = (w.drewN n).drewN k) : Calls P f args (w.drewN n) fun e w'' => e = .returned v ∧ ∃ m, w'' = w.drewN m :=
  h.mono fun _ _ ⟨he, k, hm⟩ => ⟨he, n + k, by rw [hm, drewN_drewN]⟩

theorem round_over {us us' v : List Nat} {j n r : Nat} (hok : ok us) (hj : j + n < us.length) (hV : 0 < val v)
    (he : val us' + BB ^ j * ((val (us.drop j) / val v + 1) * val v) = val us + BB ^ (j + n + 1) * r) (hr : r ≤ 1) : r = 1 := by
  obtain ⟨low, e, hd, hlow⟩ := low_rest hok (show j ≤ us.length by omega) hV
  rcases Nat.eq_zero_or_pos r with h | h
  · subst h
    rw [Nat.mul_zero, Nat.add_mul, Nat.mul_add, Nat.one_mul, Nat.mul_comm (BB ^ j) (val v)] at he
    omega
  · omega
theorem top_zero {us : List Nat} {k : Nat} (hok : ok us) (hk : k ≤ us.length) (h : val us < BB ^ k) : val (us.take k) = val us := by
  have e := val_split us k hk
  rcases Nat.eq_zero_or_pos (val (us.drop k)) with h0 | h0
  · rw [h0] at e; omega
  · have : BB ^ k * 1 ≤ BB ^ k * val (us.drop k) := Nat.mul_le_mul_left _ h0
    omega

def LongRel (w : World) (gu gq gv m x cv K U0 : Nat) (v : List Nat) (k : Nat) (iv : Value) (wr : World) : Prop :=
  ∃ (us ql : List Nat), iv = .int .i64 ((k : Int) - 1) ∧ k ≤ K ∧ Hid (us.length = x + 1) ∧ Hid (ok us) ∧ Hid (Blk wr gu tU (UA us)) ∧ Hid (ql.length = K) ∧ Hid (ok ql) ∧ Hid (Blk wr gq tU (UA ql)) ∧
    Hid (Sl wr (some ⟨gv, 0, none⟩) (m + 2) cv v) ∧ Hid (val us + val v * BB ^ k * val (ql.drop k) = U0) ∧ Hid (val us < val v * BB ^ k) ∧ Hid (Below w.heap.size w wr)
def BackRel (w : World) (g j n : Nat) (us v : List Nat) (k : Nat) (cv iv : Value) (wr : World) : Prop :=
  ∃ (i cc : Nat) (l : List Nat), iv = .int .i64 i ∧ cv = .int .u32 cc ∧ cc ≤ 1 ∧ i ≤ n ∧ k = n - i ∧ Hid (l.length = us.length) ∧ Hid (ok l) ∧ Hid (Blk wr g tU (UA l)) ∧
    Hid (val l + BB ^ (j + i) * cc = val us + BB ^ j * val (v.take i)) ∧ Hid (∀ x, x < j ∨ j + i ≤ x → l[x]? = us[x]?) ∧ Hid (w.grownBy wr (some g))

end Go.Proofs.YtkjoohnndobjeaaGreatDoor
namespace Go.Proofs.YtkjoohnndobjeaaGreatDoor
open Go.RowKit Go.Fl Go.Fl.Nm

/-- What a result is: the limbs of a number, or ErrBig. -/
def ResV (v : Nat) (l : List Nat) (er : Int) : Prop := (er = 0 ∧ l = limbs v ∧ (limbs v).length ≤ 256) ∨ (er = 9 ∧ l = [] ∧ 256 < (limbs v).length)
def Res (base v : Nat) (w : World) (e : Ending) (w' : World) : Prop :=
  ∃ (A : Option Addr) (n : Nat) (l : List Nat) (er : Int), e = .returned (.tuple #[.slice A n n, .int .i64 er]) ∧ Hid (Nw w' tU base A n n l) ∧ Hid (ResV v l er) ∧ Hid (Below w.heap.size w w')
def ErrP (er : Int) (w : World) (e : Ending) (w' : World) : Prop := e = .returned (.tuple #[.slice none 0 0, .int .i64 er]) ∧ Hid (Below w.heap.size w w')
theorem ResV.len {v : Nat} {l : List Nat} {er : Int} (h : ResV v l er) : l.length ≤ 256 := by
  rcases h with ⟨_, rfl, h⟩ | ⟨_, rfl, _⟩
  · exact h
  · simp

def DivRes (q r : Nat) (w : World) (e : Ending) (w' : World) : Prop :=
  ∃ (A B : Option Addr) (n m : Nat), e = .returned (.tuple #[.slice A n n, .slice B m m, .int .i64 0]) ∧ Hid (Nw w' tU w.heap.size A n n (limbs q)) ∧ Hid (Nw w' tU w.heap.size B m m (limbs r)) ∧ Hid (Below w.heap.size w w')
def DivErr (er : Int) (w : World) (e : Ending) (w' : World) : Prop := e = .returned (.tuple #[.slice none 0 0, .slice none 0 0, .int .i64 er]) ∧ Hid (Below w.heap.size w w')

end Go.Proofs.YtkjoohnndobjeaaGreatDoor
namespace Go.Fl.Nm
/-- A step of Newton's method stays above the root. -/
theorem newton_up (a x : Nat) (hx : 0 < x) : a < ((x + a / x) / 2 + 1) * ((x + a / x) / 2 + 1) := by
  have h1 : a < x * (a / x + 1) := by
    have := Nat.div_add_mod a x
    have := Nat.mod_lt a hx
    rw [Nat.mul_add]; omega
  generalize a / x = q at *
  have h2 : x + (q + 1) ≤ 2 * ((x + q) / 2 + 1) := by omega
  generalize (x + q) / 2 + 1 = y at *
  have h3 : x * (q + 1) ≤ y * y := by
    generalize q + 1 = z at *
    rcases Nat.le_total x z with h | h
    · obtain ⟨d, rfl⟩ := Nat.exists_eq_add_of_le h
      obtain ⟨f, rfl⟩ := Nat.exists_eq_add_of_le (show x ≤ y by omega)
      have h5 : x * d ≤ x * (f + f) := Nat.mul_le_mul_left _ (by omega)
      have h6 := Nat.mul_comm f x
      simp only [Nat.mul_add, Nat.add_mul] at h5 ⊢
      omega
    · obtain ⟨d, rfl⟩ := Nat.exists_eq_add_of_le h
      obtain ⟨f, rfl⟩ := Nat.exists_eq_add_of_le (show z ≤ y by omega)
      have h5 : d * z ≤ (f + f) * z := Nat.mul_le_mul_right _ (by omega)
      have h6 := Nat.mul_comm f z
      simp only [Nat.mul_add, Nat.add_mul] at h5 ⊢
      omega
  omega
theorem newton_end (a x : Nat) (hx : 0 < x) (h : x ≤ (x + a / x) / 2) : x * x ≤ a := by
  have h1 : x ≤ a / x := by omega
  have h2 : x * x ≤ x * (a / x) := Nat.mul_le_mul_left _ h1
  have := Nat.mul_div_le a x
  omega
theorem newton_start (a n : Nat) (h : a < 2 ^ n) : a < (2 ^ ((n + 1) / 2) + 1) * (2 ^ ((n + 1) / 2) + 1) := by
  have h1 : 2 ^ n ≤ 2 ^ ((n + 1) / 2) * 2 ^ ((n + 1) / 2) := by
    rw [← Nat.pow_add]; exact Nat.pow_le_pow_right (by omega) (by omega)
  have h2 : 2 ^ ((n + 1) / 2) * 2 ^ ((n + 1) / 2) ≤ (2 ^ ((n + 1) / 2) + 1) * (2 ^ ((n + 1) / 2) + 1) := Nat.mul_le_mul (by omega) (by omega)
  omega
theorem blen_limbs (a : Nat) : blen a ≤ 32 * (limbs a).length := by
  apply blen_le
  by_cases h : a = 0
  · subst h; exact Nat.two_pow_pos _
  · have := (limbs_len h).2
    rw [BB_pow, ← Nat.pow_mul] at this
    exact this
theorem len_two_pow {x p k : Nat} (h : x ≤ 2 ^ p) (hp : p < 32 * k) : (limbs x).length ≤ k := by
  apply limbs_len_le
  rw [BB_pow, ← Nat.pow_mul]
  exact Nat.lt_of_le_of_lt h (Nat.pow_lt_pow_right (by omega) hp)
end Go.Fl.Nm

namespace Go.Proofs.YtkjoohnndobjeaaGreatDoor
open Go.RowKit Go.Fl Go.Fl.Nm

def SqrtP (a : Nat) (w : World) (e : Ending) (w' : World) : Prop := ∃ r, r * r ≤ a ∧ a < (r + 1) * (r + 1) ∧ Res w.heap.size r w e w'
def SqRel (w : World) (a x0 : Nat) (k : Nat) (xv : Value) (wr : World) : Prop :=
  ∃ (X : Option Addr) (nx cx : Nat) (lx : List Nat), xv = .slice X nx cx ∧ Hid (Nw wr tU w.heap.size X nx cx lx) ∧ Hid (val lx = k) ∧ nx ≤ 200 ∧ Hid (a < (k + 1) * (k + 1)) ∧ 0 < k ∧ Hid (k ≤ x0) ∧ Hid (Below w.heap.size w wr)

theorem trim_nw {w : World} {base : Nat} {A : Option Addr} {n c : Nat} {l : List Nat} (h : Nw w tU base A n c l) : tl l ≤ n ∧ Nw w tU base A (tl l) c (l.take (tl l)) := by
  have hta := (trim_sl h.sl).1
  exact ⟨hta, h.cut hta (by have := h.sl.cap; omega) h.sl.capMax h.sl.nil⟩

def GcdRel (w : World) (G : Nat) (k : Nat) (av bv : Value) (wr : World) : Prop :=
  ∃ (X : Option Addr) (nx cx : Nat) (lx : List Nat) (Y : Option Addr) (ny cy : Nat) (ly : List Nat), av = .slice X nx cx ∧ bv = .slice Y ny cy ∧ Hid (Nw wr tU w.heap.size X nx cx lx) ∧ Hid (Nw wr tU w.heap.size Y ny cy ly) ∧
    Hid (val ly = k) ∧ nx ≤ 256 ∧ ny ≤ 256 ∧ Hid (tl ly = ny) ∧ Hid (Nat.gcd (val lx) k = G) ∧ Hid (Below w.heap.size w wr)

end Go.Proofs.YtkjoohnndobjeaaGreatDoor
