/-
  The walks of the reference: Sub, Shl, Shr.
-/
import Derived.Test.YtnogfceojmnjiaaDoorNumW
set_option linter.unusedVariables false
namespace Go.Fl.Nm
open Go.RowKit Go.Fl
theorem rsub_limb (x y cc : Nat) (hx : x < BB) (hy : y < BB) (hc : cc ≤ 1) : (x + BB - y - cc) / BB ≤ 1 ∧ (x + BB - y - cc) % BB + y + cc = x + BB * (1 - (x + BB - y - cc) / BB) := by
  unfold BB at *
  omega
theorem rsub_step {o a b : List Nat} {i cc d r : Nat} (hl : o.length = i) (hok : ok o) (hv : val o + val (b.take i) = val (a.take i) + BB ^ i * cc) (hd : d < BB) (he : d + at0 b i + cc = at0 a i + BB * r) :
    (o ++ [d]).length = i + 1 ∧ ok (o ++ [d]) ∧ val (o ++ [d]) + val (b.take (i + 1)) = val (a.take (i + 1)) + BB ^ (i + 1) * r := by
  refine ⟨by simp [hl], ok_append.2 ⟨hok, ok_cons.2 ⟨hd, ok_nil⟩⟩, ?_⟩
  rw [val_snoc, hl, take_at0 a, take_at0 b, Nat.pow_succ, Nat.mul_assoc]
  have h3 : BB ^ i * (d + at0 b i + cc) = BB ^ i * (at0 a i + BB * r) := by rw [he]
  rw [Nat.mul_add, Nat.mul_add, Nat.mul_add] at h3
  omega
theorem rsub_end {o a b : List Nat} {n cc : Nat} (hl : o.length = n) (hok : ok o) (hoa : ok a) (ha : a.length = n) (hv : val o + val (b.take n) = val (a.take n) + BB ^ n * cc) (hle : val b ≤ val a) : val o = val a - val b := by
  have h1 := val_lt hok
  have h2 := val_lt hoa
  rw [hl] at h1
  rw [ha] at h2
  rw [List.take_of_length_le (show a.length ≤ n by omega)] at hv
  have h3 : val (b.take n) = val b := by
    rcases Nat.lt_or_ge b.length n with h | h
    · rw [List.take_of_length_le (by omega)]
    · have e := val_split b n h
      rcases Nat.eq_zero_or_pos (val (b.drop n)) with h0 | h0
      · rw [h0] at e; omega
      · have : BB ^ n * 1 ≤ BB ^ n * val (b.drop n) := Nat.mul_le_mul_left _ h0
        omega
  rw [h3] at hv
  rcases Nat.eq_zero_or_pos cc with h | h
  · subst h; omega
  · have : BB ^ n * 1 ≤ BB ^ n * cc := Nat.mul_le_mul_left _ h
    omega
theorem or_low32 (s cc X : Nat) (hs : s < 32) (hX : X % 2 ^ s = 0) (hXb : X < 4294967296) (hc : cc < 2 ^ s) (hsum : X + cc < 4294967296) : bits .or .u32 (cc : Int) (X : Int) = ((cc + X : Nat) : Int) := by
  have h2 := two_pow_le31 s hs
  have hb := fun a b (ha : a < 2 ^ 32) (hb : b < 2 ^ 32) => (bits_nat .u32 32 (by decide) (fun n h0 h1 => by simp [IntKind.wrap, IntKind.bits, IntKind.signed]; omega) a b ha hb).2
  have := bits_join .u32 32 (by decide) (fun n h0 h1 => by simp [IntKind.wrap, IntKind.bits, IntKind.signed]; omega) s (X : Int) cc (by omega)
    (by
      have : (2 : Int) ^ s = ((2 ^ s : Nat) : Int) := by simp
      rw [this, ← Int.natCast_emod, hX]; rfl) (by omega) (by omega)
    (by
      have : (2 : Int) ^ s = ((2 ^ s : Nat) : Int) := by simp
      rw [this]; omega) (by omega)
  rw [hb X cc (by omega) (by omega)] at this
  rw [hb cc X (by omega) (by omega), Nat.or_comm, this]
  omega
/-- The low part of a shifted limb. -/
theorem low_part32 (x s : Nat) (hs : s < 32) : (x * 2 ^ s) % BB % 2 ^ s = 0 := by
  obtain ⟨c, hc⟩ := BB_dvd s hs
  rw [hc, Nat.mul_comm x, Nat.mul_mod_mul_left, Nat.mul_mod_right]
theorem low_sum (x s cc : Nat) (hs : s < 32) (hc : cc < 2 ^ s) : (x * 2 ^ s) % BB + cc < BB := by
  obtain ⟨c, hcc⟩ := BB_dvd s hs
  have hp : 0 < 2 ^ s := Nat.two_pow_pos s
  have hc0 : 0 < c := by
    rcases Nat.eq_zero_or_pos c with h | h
    · rw [h] at hcc; unfold BB at hcc; omega
    · exact h
  rw [hcc, Nat.mul_comm x, Nat.mul_mod_mul_left]
  have h1 : x % c + 1 ≤ c := Nat.mod_lt _ hc0
  have h2 : 2 ^ s * (x % c + 1) ≤ 2 ^ s * c := Nat.mul_le_mul_left _ h1
  rw [Nat.mul_add] at h2
  omega
theorem high_lt (x s : Nat) (hx : x < BB) : x * 2 ^ s / BB < 2 ^ s := by
  rw [Nat.div_lt_iff_lt_mul BB_pos, Nat.mul_comm]
  exact Nat.mul_lt_mul_of_pos_left hx (Nat.two_pow_pos s)
theorem rshl_step {l a : List Nat} {i k n s x cc : Nat} (hl : l.length = k + n + 1) (hok : ok l) (hi : i < n) (hs : s < 32) (hv : val l = BB ^ k * (2 ^ s * val (a.take i))) (hcc : l[k + i]? = some cc) (hcb : cc < 2 ^ s)
    (hz : ∀ j, k + i < j → j < k + n + 1 → l[j]? = some 0) (hx : a[i]? = some x) (hxB : x < BB) :
    ((l.set (k + i) (cc + x * 2 ^ s % BB)).set (k + i + 1) (x * 2 ^ s / BB)).length = k + n + 1 ∧ ok ((l.set (k + i) (cc + x * 2 ^ s % BB)).set (k + i + 1) (x * 2 ^ s / BB)) ∧
    val ((l.set (k + i) (cc + x * 2 ^ s % BB)).set (k + i + 1) (x * 2 ^ s / BB)) = BB ^ k * (2 ^ s * val (a.take (i + 1))) ∧
    ((l.set (k + i) (cc + x * 2 ^ s % BB)).set (k + i + 1) (x * 2 ^ s / BB))[k + (i + 1)]? = some (x * 2 ^ s / BB) ∧
    (∀ j, k + (i + 1) < j → j < k + n + 1 → ((l.set (k + i) (cc + x * 2 ^ s % BB)).set (k + i + 1) (x * 2 ^ s / BB))[j]? = some 0) := by
  have h2 := low_sum x s cc hs hcb
  have h3 := high_lt x s hxB
  have h4 := two_pow_le31 s hs
  refine ⟨by simp [hl], ok_set (ok_set hok _ _ (by omega)) _ _ (by unfold BB at *; omega), ?_, ?_, fun j h1 h2 => ?_⟩
  · have e1 := val_set (cc + x * 2 ^ s % BB) hcc
    have e2 := val_set0 (l := l.set (k + i) (cc + x * 2 ^ s % BB)) (j := k + i + 1) (x * 2 ^ s / BB) (by rw [at_set_ne _ (by omega)]; exact hz _ (by omega) (by omega))
    rw [e2, val_take_succ hx]
    have e3 := Nat.div_add_mod (x * 2 ^ s) BB
    have e4 : BB ^ (k + i) * (BB * (x * 2 ^ s / BB)) + BB ^ (k + i) * (x * 2 ^ s % BB) = BB ^ (k + i) * (x * 2 ^ s) := by rw [← Nat.mul_add, e3]
    rw [Nat.pow_succ, Nat.mul_assoc]
    have e5 : BB ^ k * (2 ^ s * (val (a.take i) + BB ^ i * x)) = BB ^ k * (2 ^ s * val (a.take i)) + BB ^ (k + i) * (x * 2 ^ s) := by
      rw [Nat.mul_add, Nat.mul_add, Nat.pow_add]
      congr 1
      rw [Nat.mul_assoc, Nat.mul_left_comm (2 ^ s), Nat.mul_comm (2 ^ s) x]
    rw [e5, ← hv, ← e4]
    rw [Nat.mul_add] at e1
    omega
  · rw [show k + (i + 1) = k + i + 1 by omega, List.getElem?_set_self (by simp [hl]; omega)]
  · rw [at_set_ne _ (by omega), at_set_ne _ (by omega)]
    exact hz j (by omega) h2
theorem drop_at0 (l : List Nat) (i : Nat) : val (l.drop i) = at0 l i + BB * val (l.drop (i + 1)) := by
  rcases Nat.lt_or_ge i l.length with hi | hi
  · rw [at0_in (List.getElem?_eq_getElem hi)]
    exact val_drop (List.getElem?_eq_getElem hi)
  · rw [at0_out hi, List.drop_eq_nil_of_le hi, List.drop_eq_nil_of_le (by omega)]; rfl
theorem val_div_pow {a : List Nat} (h : ok a) (k : Nat) : val a / BB ^ k = val (a.drop k) := by
  rcases Nat.lt_or_ge a.length k with hk | hk
  · rw [List.drop_eq_nil_of_le (by omega), val_nil]
    apply Nat.div_eq_of_lt
    exact Nat.lt_of_lt_of_le (val_lt h) (Nat.pow_le_pow_right BB_pos (by omega))
  · have e := val_split a k hk
    have h1 := val_lt (ok_take h k)
    rw [List.length_take, Nat.min_eq_left hk] at h1
    rw [e, Nat.add_mul_div_left _ _ (Nat.pow_pos BB_pos), Nat.div_eq_of_lt h1, Nat.zero_add]
theorem rshr_step {o a : List Nat} {j k s : Nat} (hl : o.length = j) (hok : ok o) (hoa : ok a) (hs : s < 32) (hv : val o + BB ^ j * (val (a.drop (k + j)) / 2 ^ s) = val (a.drop k) / 2 ^ s) :
    (o ++ [(at0 a (k + j) + at0 a (k + j + 1) * BB) / 2 ^ s % BB]).length = j + 1 ∧ ok (o ++ [(at0 a (k + j) + at0 a (k + j + 1) * BB) / 2 ^ s % BB]) ∧
    val (o ++ [(at0 a (k + j) + at0 a (k + j + 1) * BB) / 2 ^ s % BB]) + BB ^ (j + 1) * (val (a.drop (k + (j + 1))) / 2 ^ s) = val (a.drop k) / 2 ^ s := by
  refine ⟨by simp [hl], ok_append.2 ⟨hok, ok_cons.2 ⟨Nat.mod_lt _ BB_pos, ok_nil⟩⟩, ?_⟩
  rw [val_snoc, hl, ← hv, drop_at0 a (k + j), show k + (j + 1) = k + j + 1 by omega, drop_at0 a (k + j + 1), shr_limb _ _ _ s hs (at0_lt hoa (k + j)), Nat.pow_succ, Nat.mul_add, Nat.mul_assoc]
  omega
end Go.Fl.Nm

namespace Go.Proofs.YtnogfceojmnjiaaDoor
open Go.RowKit Go.Fl Go.Fl.Nm

def RSubRel (w : World) (n : Nat) (a b : List Nat) (k : Nat) (ov cv iv : Value) (wr : World) : Prop :=
  ∃ (i cc : Nat) (o : List Nat), iv = .int .i64 i ∧ cv = .int .u64 cc ∧ cc ≤ 1 ∧ k = n - i ∧ i ≤ n ∧ Hid (o.length = i) ∧ Hid (ok o) ∧ Hid (wr.ownsRow w.heap.size tU 1 ov i (U o)) ∧
    Hid (val o + val (b.take i) = val (a.take i) + BB ^ i * cc) ∧ Hid (Below w.heap.size w wr)

def RShlRel (w : World) (g k n s : Nat) (a : List Nat) (q : Nat) (iv : Value) (wr : World) : Prop :=
  ∃ (i cc : Nat) (l : List Nat), iv = .int .i64 i ∧ i ≤ n ∧ q = n - i ∧ Hid (l.length = k + n + 1) ∧ Hid (ok l) ∧ Hid (Blk wr g tU (UA l)) ∧ Hid (val l = BB ^ k * (2 ^ s * val (a.take i))) ∧ Hid (l[k + i]? = some cc) ∧ cc < 2 ^ s ∧
    Hid (∀ j, k + i < j → j < k + n + 1 → l[j]? = some 0) ∧ Hid (Below w.heap.size w wr)

def RShrRel (w : World) (k n s : Nat) (a : List Nat) (q : Nat) (ov iv : Value) (wr : World) : Prop :=
  ∃ (j : Nat) (o : List Nat), iv = .int .i64 ((k : Int) + j) ∧ (k + j ≤ n ∨ j = 0) ∧ q = n - (k + j) ∧ Hid (o.length = j) ∧ Hid (ok o) ∧ Hid (wr.ownsRow w.heap.size tU 1 ov j (U o)) ∧
    Hid (val o + BB ^ j * (val (a.drop (k + j)) / 2 ^ s) = val (a.drop k) / 2 ^ s) ∧ Hid (Below w.heap.size w wr)

end Go.Proofs.YtnogfceojmnjiaaDoor
