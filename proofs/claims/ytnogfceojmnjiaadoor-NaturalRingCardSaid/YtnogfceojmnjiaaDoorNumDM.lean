/-
  The walks of the reference: less, DivMod.
-/
import Derived.Test.YtnogfceojmnjiaaDoorNumZ
import Derived.StillTailTactics
set_option linter.unusedVariables false
namespace Go.Fl.Nm
open Go.RowKit Go.Fl
theorem bit_at {a : List Nat} {i k s x : Nat} (h : ok a) (hi : i = 32 * k + s) (hs : s < 32) (hx : a[k]? = some x) : val a / 2 ^ i % 2 = x / 2 ^ s % 2 := by
  have e : 2 ^ i = BB ^ k * 2 ^ s := by rw [hi, Nat.pow_add, Nat.pow_mul]; rfl
  rw [e, ← Nat.div_div_eq_div_mul, val_div_pow h, val_drop hx]
  have hc : BB = 2 ^ s * (2 * 2 ^ (31 - s)) := by
    rw [← Nat.pow_succ', ← Nat.pow_add, BB_pow]; congr 1; omega
  rw [hc, Nat.mul_assoc, Nat.add_mul_div_left _ _ (Nat.two_pow_pos s), Nat.mul_assoc, Nat.add_mul_mod_self_left]
theorem half_step (V i : Nat) : V / 2 ^ i = 2 * (V / 2 ^ (i + 1)) + V / 2 ^ i % 2 := by
  have : V / 2 ^ (i + 1) = V / 2 ^ i / 2 := by rw [Nat.pow_succ, Nat.div_div_eq_div_mul]
  rw [this]; omega
/-- One bit of the quotient. -/
theorem bit_step {D X R b : Nat} (hD : 0 < D) (hR : R = X % D) (hb : b ≤ 1) :
    (2 * R + b < D → (2 * X + b) % D = 2 * R + b ∧ (2 * X + b) / D = 2 * (X / D)) ∧ (D ≤ 2 * R + b → (2 * X + b) % D = 2 * R + b - D ∧ (2 * X + b) / D = 2 * (X / D) + 1) := by
  have e := Nat.div_add_mod X D
  have hlt := Nat.mod_lt X hD
  rw [← hR] at e hlt
  generalize X / D = q at *
  have e2 : 2 * X + b = D * (2 * q) + (2 * R + b) := by
    rw [← e, Nat.mul_left_comm D 2 q]; omega
  refine ⟨fun h => ?_, fun h => ?_⟩
  · rw [e2, Nat.mul_add_mod, Nat.mod_eq_of_lt h, Nat.mul_add_div hD, Nat.div_eq_of_lt h]
    exact ⟨rfl, by omega⟩
  · have e3 : 2 * X + b = D * (2 * q + 1) + (2 * R + b - D) := by rw [e2, Nat.mul_add]; omega
    have h4 : 2 * R + b - D < D := by omega
    rw [e3, Nat.mul_add_mod, Nat.mod_eq_of_lt h4, Nat.mul_add_div hD, Nat.div_eq_of_lt h4]
    exact ⟨rfl, by omega⟩
theorem dbl_step {l r : List Nat} {k cc b x N : Nat} (hl : l.length = N) (hok : ok l) (hk : k < N) (hd : ∀ j, k ≤ j → l[j]? = r[j]?) (hv : val (l.take k) + BB ^ k * cc = 2 * val (r.take k) + b) (hx : r[k]? = some x) (hxB : x < BB) (hc : cc ≤ 1) :
    (l.set k (2 * x % BB + cc)).length = N ∧ ok (l.set k (2 * x % BB + cc)) ∧ (∀ j, k + 1 ≤ j → (l.set k (2 * x % BB + cc))[j]? = r[j]?) ∧
    val ((l.set k (2 * x % BB + cc)).take (k + 1)) + BB ^ (k + 1) * (2 * x / BB) = 2 * val (r.take (k + 1)) + b ∧ 2 * x / BB ≤ 1 := by
  have hm : 2 * x % BB + cc < BB := by unfold BB at *; omega
  have hq : 2 * x / BB ≤ 1 := by unfold BB at *; omega
  refine ⟨by simp [hl], ok_set hok _ _ hm, fun j hj => by rw [at_set_ne _ (by omega)]; exact hd j (by omega), ?_, hq⟩
  rw [val_take_succ (l := l.set k (2 * x % BB + cc)) (List.getElem?_set_self (by omega)), List.take_set_of_le (Nat.le_refl k), val_take_succ hx, Nat.pow_succ, Nat.mul_assoc]
  have e := Nat.div_add_mod (2 * x) BB
  have e4 : BB ^ k * (BB * (2 * x / BB)) + BB ^ k * (2 * x % BB) = BB ^ k * (2 * x) := by rw [← Nat.mul_add, e]
  rw [Nat.mul_add] 
  have e5 : 2 * (BB ^ k * x) = BB ^ k * (2 * x) := by rw [Nat.mul_left_comm]
  omega
theorem dbl_end {l rl : List Nat} {m cc bit D : Nat} (hl : l.length = m + 1) (hr : rl.length = m + 1) (hv : val (l.take (m + 1)) + BB ^ (m + 1) * cc = 2 * val (rl.take (m + 1)) + bit) (hR : val rl < D) (hD : D < BB ^ m) (hb : bit ≤ 1) : val l = 2 * val rl + bit := by
  rw [List.take_of_length_le (by omega), List.take_of_length_le (by omega)] at hv
  rcases Nat.eq_zero_or_pos cc with h | h
  · rw [h, Nat.mul_zero] at hv; omega
  · have h4 : BB ^ (m + 1) * 1 ≤ BB ^ (m + 1) * cc := Nat.mul_le_mul_left _ h
    have h5 : BB ^ m * 2 ≤ BB ^ m * BB := Nat.mul_le_mul_left _ (by unfold BB; omega)
    rw [show BB ^ m * BB = BB ^ (m + 1) from rfl] at h5
    rw [Nat.mul_one] at h4
    generalize BB ^ (m + 1) * cc = Z at *
    generalize BB ^ (m + 1) = P at *
    generalize BB ^ m = Q at *
    omega
theorem dsub_end {l rl b : List Nat} {m cc : Nat} (hl : l.length = m + 1) (hok : ok l) (hr : rl.length = m + 1) (hb : b.length ≤ m + 1) (hv : val (l.take (m + 1)) + val (b.take (m + 1)) = val (rl.take (m + 1)) + BB ^ (m + 1) * cc) (hle : val b ≤ val rl) (hro : ok rl) : val l = val rl - val b := by
  have h1 := val_lt hok
  have h2 := val_lt hro
  rw [hl] at h1
  rw [hr] at h2
  rw [List.take_of_length_le (by omega), List.take_of_length_le hb, List.take_of_length_le (by omega)] at hv
  rcases Nat.eq_zero_or_pos cc with h | h
  · rw [h, Nat.mul_zero] at hv; omega
  · have h4 : BB ^ (m + 1) * 1 ≤ BB ^ (m + 1) * cc := Nat.mul_le_mul_left _ h
    omega
theorem dsub_step {l r b : List Nat} {k cc d q N x : Nat} (hl : l.length = N) (hok : ok l) (hk : k < N) (hd : ∀ j, k ≤ j → l[j]? = r[j]?) (hv : val (l.take k) + val (b.take k) = val (r.take k) + BB ^ k * cc) (hx : r[k]? = some x) (hdB : d < BB) (he : d + at0 b k + cc = x + BB * q) :
    (l.set k d).length = N ∧ ok (l.set k d) ∧ (∀ j, k + 1 ≤ j → (l.set k d)[j]? = r[j]?) ∧ val ((l.set k d).take (k + 1)) + val (b.take (k + 1)) = val (r.take (k + 1)) + BB ^ (k + 1) * q := by
  refine ⟨by simp [hl], ok_set hok _ _ hdB, fun j hj => by rw [at_set_ne _ (by omega)]; exact hd j (by omega), ?_⟩
  rw [val_take_succ (l := l.set k d) (List.getElem?_set_self (by omega)), List.take_set_of_le (Nat.le_refl k), val_take_succ hx, take_at0 b k, Nat.pow_succ, Nat.mul_assoc]
  have h3 : BB ^ k * (d + at0 b k + cc) = BB ^ k * (x + BB * q) := by rw [he]
  rw [Nat.mul_add, Nat.mul_add, Nat.mul_add] at h3
  omega
theorem or_top32 (s X : Nat) (hs : s < 32) (hX : X % 2 ^ (s + 1) = 0) (hXb : X < 4294967296) : bits .or .u32 (X : Int) ((2 ^ s : Nat) : Int) = ((X + 2 ^ s : Nat) : Int) ∧ X + 2 ^ s < 4294967296 := by
  have h2 := two_pow_le31 s hs
  have hlt : 2 ^ s < 2 ^ (s + 1) := Nat.pow_lt_pow_right (by omega) (by omega)
  have := bits_join .u32 32 (by decide) (fun n h0 h1 => by simp [IntKind.wrap, IntKind.bits, IntKind.signed]; omega) (s + 1) (X : Int) ((2 ^ s : Nat) : Int) (by omega)
    (by
      have : (2 : Int) ^ (s + 1) = ((2 ^ (s + 1) : Nat) : Int) := by simp
      rw [this, ← Int.natCast_emod, hX]; rfl) (by omega) (by omega)
    (by
      have : (2 : Int) ^ (s + 1) = ((2 ^ (s + 1) : Nat) : Int) := by simp
      rw [this]; omega) (by omega)
  refine ⟨by rw [this]; omega, ?_⟩
  have e := Nat.div_add_mod X (2 ^ (s + 1))
  rw [hX, Nat.add_zero] at e
  have hp : 2 ^ (s + 1) * 2 ^ (31 - s) = 4294967296 := by
    rw [← Nat.pow_add, show s + 1 + (31 - s) = 32 by omega]
  rw [← e, ← hp] at hXb ⊢
  have h5 : X / 2 ^ (s + 1) < 2 ^ (31 - s) := Nat.lt_of_mul_lt_mul_left hXb
  have h6 : 2 ^ (s + 1) * (X / 2 ^ (s + 1) + 1) ≤ 2 ^ (s + 1) * 2 ^ (31 - s) := Nat.mul_le_mul_left _ h5
  rw [Nat.mul_add, Nat.mul_one] at h6
  omega
/-- A limb of a multiple of a power of 2. -/
theorem limb_mult {l : List Nat} {k s x Q i : Nat} (h : ok l) (hi : i = 32 * k + s) (hs : s < 32) (hx : l[k]? = some x) (hv : val l = 2 ^ (i + 1) * Q) : x % 2 ^ (s + 1) = 0 := by
  have e : 2 ^ (i + 1) = BB ^ k * 2 ^ (s + 1) := by rw [hi, Nat.add_assoc, Nat.pow_add, Nat.pow_mul]; rfl
  have h1 := val_div_pow h k
  rw [hv, e, Nat.mul_assoc, Nat.mul_div_cancel_left _ (Nat.pow_pos BB_pos), val_drop hx] at h1
  have hc : BB = 2 ^ (s + 1) * 2 ^ (31 - s) := by rw [← Nat.pow_add, BB_pow]; congr 1; omega
  rw [hc, Nat.mul_assoc] at h1
  have h2 := congrArg (· % 2 ^ (s + 1)) h1
  simp only [Nat.mul_mod_right, Nat.add_mul_mod_self_left] at h2
  exact h2.symm
end Go.Fl.Nm

namespace Go.Proofs.YtnogfceojmnjiaaDoor
open Go.RowKit Go.Fl Go.Fl.Nm

def DMP (q r : Nat) (w : World) (e : Ending) (w' : World) : Prop :=
  ∃ (A : Option Addr) (n c : Nat) (B : Option Addr) (m d : Nat), e = .returned (.tuple #[.slice A n c, .slice B m d]) ∧ Hid (Nw w' tU w.heap.size A n c (limbs q)) ∧ Hid (Nw w' tU w.heap.size B m d (limbs r)) ∧ Hid (Below w.heap.size w w')
def DMRel (w : World) (n m bl V D : Nat) (k : Nat) (iv : Value) (wr : World) : Prop :=
  ∃ (ql rl : List Nat), iv = .int .i64 ((k : Int) - 1) ∧ k ≤ bl ∧ Hid (ql.length = n) ∧ Hid (ok ql) ∧ Hid (Blk wr w.heap.size tU (UA ql)) ∧ Hid (val ql = 2 ^ k * (V / 2 ^ k / D)) ∧
    Hid (rl.length = m + 1) ∧ Hid (ok rl) ∧ Hid (Blk wr (w.heap.size + 1) tU (UA rl)) ∧ Hid (val rl = V / 2 ^ k % D) ∧ Hid (Below w.heap.size w wr)
def DblRel (w : World) (m b : Nat) (ql rl : List Nat) (k : Nat) (cv iv : Value) (wr : World) : Prop :=
  ∃ (kk cc : Nat) (l : List Nat), iv = .int .i64 kk ∧ cv = .int .u32 cc ∧ cc ≤ 1 ∧ kk ≤ m + 1 ∧ k = m + 1 - kk ∧ Hid (Blk wr w.heap.size tU (UA ql)) ∧ Hid (l.length = m + 1) ∧ Hid (ok l) ∧ Hid (Blk wr (w.heap.size + 1) tU (UA l)) ∧
    Hid (∀ j, kk ≤ j → l[j]? = rl[j]?) ∧ Hid (val (l.take kk) + BB ^ kk * cc = 2 * val (rl.take kk) + b) ∧ Hid (Below w.heap.size w wr)
def DsbRel (w : World) (m : Nat) (b ql rl : List Nat) (k : Nat) (cv iv : Value) (wr : World) : Prop :=
  ∃ (kk cc : Nat) (l : List Nat), iv = .int .i64 kk ∧ cv = .int .u64 cc ∧ cc ≤ 1 ∧ kk ≤ m + 1 ∧ k = m + 1 - kk ∧ Hid (Blk wr w.heap.size tU (UA ql)) ∧ Hid (l.length = m + 1) ∧ Hid (ok l) ∧ Hid (Blk wr (w.heap.size + 1) tU (UA l)) ∧
    Hid (∀ j, kk ≤ j → l[j]? = rl[j]?) ∧ Hid (val (l.take kk) + val (b.take kk) = val (rl.take kk) + BB ^ kk * cc) ∧ Hid (Below w.heap.size w wr)
theorem and_one32 (x : Nat) (h : x < 4294967296) : bits .and .u32 (x : Int) 1 = ((x % 2 : Nat) : Int) := by
  have := (bits_nat .u32 32 (by decide) (fun n h0 h1 => by simp [IntKind.wrap, IntKind.bits, IntKind.signed]; omega) x 1 (by omega) (by omega)).1
  rw [Nat.and_one_is_mod] at this
  exact this
theorem or_bit32 (X cc : Nat) (hX : X % 2 = 0) (hXb : X < 4294967296) (hc : cc ≤ 1) : bits .or .u32 (X : Int) (cc : Int) = ((X + cc : Nat) : Int) := by
  have := bits_join .u32 32 (by decide) (fun n h0 h1 => by simp [IntKind.wrap, IntKind.bits, IntKind.signed]; omega) 1 (X : Int) (cc : Int) (by omega) (by omega) (by omega) (by omega) (by omega) (by omega)
  rw [this]; omega

def GcdP (g : Nat) (w : World) (e : Ending) (w' : World) : Prop := RP g w e w'
def RGcdRel (w : World) (G : Nat) (k : Nat) (av bv : Value) (wr : World) : Prop :=
  ∃ (X : Option Addr) (nx cx x : Nat) (Y : Option Addr) (ny cy : Nat), av = .slice X nx cx ∧ bv = .slice Y ny cy ∧ Hid (Nw wr tU w.heap.size X nx cx (limbs x)) ∧ Hid (Nw wr tU w.heap.size Y ny cy (limbs k)) ∧ nx ≤ 10000 ∧ ny ≤ 10000 ∧
    Hid (Nat.gcd x k = G) ∧ Hid (Below w.heap.size w wr)

end Go.Proofs.YtnogfceojmnjiaaDoor
