/-
  The walks of the reference: less, DivMod.
-/
import Derived.Test.YtffdkakogeofmaaGreatDoorNumZ
import Derived.StillTailTactics
set_option linter.unusedVariables false
namespace Go.Fl.Nm
open Go.RowKit Go.Fl
theorem bit_at {a : List Nat} {i k s x : Nat} (h : ok a) (hi : i = 32 * k + s) (hs : s < 32) (hx : a[k]? = some x) : val a / 2 ^ i % 2 = x / 2 ^ s % 2 := by
  have e : 2 ^ i = BB ^ k * 2 ^ s := by rw [hi, Nat.pow_add, Nat.pow_mul]; rfl
  rw [e, ← Nat.div_div_eq_div_mul, val_div_pow h, val_drop hx]
  have hc : BB = 2 ^ s * (2 * 2 ^ (31 - s)) := by
    rw [← Nat.pow_succ', ← Nat.pow_add, BB_pow]; congr 1; omega
  rw [hc, Nat.mul_assoc, Nat.add_mul_div_left _ _ (Nat.two_pow_pos s), Nat.mul_assoc, Nat.add_mul_mod_self_left]
theorem half_step (V i : Nat) : V / 2 ^ i = 2 * (V / 2 ^ (i + 1)) + V / 2 ^ i % 2 := by
  have : V / 2 ^ (i + 1) = V / 2 ^ i / 2 := by rw [Nat.pow_succ, Nat.div_div_eq_div_mul]
  rw [this]; omega
/-- One bit of the quotient. -/
theorem bit_step {D X R b : Nat} (hD : 0 < D) (hR : R = X % D) (hb : b ≤ 1) :
    (2 * R + b < D → (2 * X + b) % D = 2 * R + b ∧ (2 * X + b) / D = 2 * (X / D)) ∧ (D ≤ 2 * R + b → (2 * X + b) % D = 2 * R + b - D ∧ (2 * X + b) / D = 2 * (X / D) + 1) := by
  have e := Nat.div_add_mod X D
  have hlt := Nat.mod_lt X hD
  rw [← hR] at e hlt
  generalize X / D = q at *
  have e2 : 2 * X + b = D * (2 * q) + (2 * R + b) := by
    rw [← e, Nat.mul_left_comm D 2 q]; omega
  refine ⟨fun h => ?_, fun h => ?_⟩
  · rw [e2, Nat.mul_add_mod, Nat.mod_eq_of_lt h, Nat.mul_add_div hD, Nat.div_eq_of_lt h]
    exact ⟨rfl, by omega⟩
  · have e3 : 2 * X + b = D * (2 * q + 1) + (2 * R + b - D) := by rw [e2, Nat.mul_add]; omega
    have h4 : 2 * R + b - D < D := by omega
    rw [e3, Nat.mul_add_mod, Nat.mod_eq_of_lt h4, Nat.mul_add_div hD, Nat.div_eq_of_lt h4]
    exact ⟨rfl, by omega⟩
theorem dbl_step {l r : List Nat} {k cc b x N : Nat} (hl : l.length = N) (hok : ok l) (hk : k < N) (hd : ∀ j, k ≤ j → l[j]? = r[j]?) (hv : val (l.take k) + BB ^ k * cc = 2 * val (r.take k) + b) (hx : r[k]? = some x) (hxB : x < BB) (hc : cc ≤ 1) :
    (l.set k (2 * x % BB + cc)).length = N ∧ ok (l.set k (2 * x % BB + cc)) ∧ (∀ j, k + 1 ≤ j → (l.set k (2 * x % BB + cc))[j]? = r[j]?) ∧
    val ((l.set k (2 * x % BB + cc)).take (k + 1)) + BB ^ (k + 1) * (2 * x / BB) = 2 * val (r.take (k + 1)) + b ∧ 2 * x / BB ≤ 1 := by
  have hm : 2 * x % BB + cc < BB := by unfold BB at *; omega
  have hq : 2 * x / BB ≤ 1 := by unfold BB at *; omega
  refine ⟨by simp [hl], ok_set hok _ _ hm, fun j hj => by rw [at_set_ne _ (by omega)]; exact hd j (by omega), ?_, hq⟩
  rw [val_take_succ (l := l.set k (2 * x % BB + cc)) (List.getElem?_set_self (by omega)), List.take_set_of_le (Nat.le_refl k), val_take_succ hx, Nat.pow_succ, Nat.mul_assoc]
  have e := Nat.div_add_mod (2 * x) BB
  have e4 : BB ^ k * (BB * (2 * x / BB)) + BB ^ k * (2 * x % BB) = BB ^ k * (2 * x) := by rw [← Nat.mul_add, e]
  rw [Nat.mul_add] 
  have e5 : 2 * (BB ^ k * x) = BB ^ k * (2 * x) := by rw [Nat.mul_left_comm]
  omega
theorem dbl_end {l rl : List Nat} {m cc bit D : Nat} (hl : l.length = m + 1) (hr : rl.length = m + 1) (hv : val (l.take (m + 1)) + BB ^ (m + 1) * cc = 2 * val (rl.take (m + 1)) + bit) (hR : val rl < D) (hD : D < BB ^ m) (hb : bit ≤ 1) : val l = 2 * val rl + bit := by
  rw [List.take_of_length_le (by omega), List.take_of_length_le (by omega)] at hv
  rcases Nat.eq_zero_or_pos cc with h | h
  · rw [h, Nat.mul_zero] at hv; omega
  · have h4 : BB ^ (m + 1) * 1 ≤ BB ^ (m + 1) * cc := Nat.mul_le_mul_left _ h
    have h5 : BB ^ m * 2 ≤ BB ^ m * BB := Nat.mul_le_mul_left _ (by unfold BB; omega)
    rw [show BB ^ m * BB = BB ^ (m + 1) from rfl] at h5
    rw [Nat.mul_one] at h4
    generalize BB ^ (m + 1) * cc = Z at *
    generalize BB ^ (m + 1) = P at *
    generalize BB ^ m = Q at *
    omega
theorem dsub_end {l rl b : List Nat} {m cc : Nat} (hl : l.length = m + 1) (hok : ok l) (hr : rl.length = m + 1) (hb : b.length ≤ m + 1) (hv : val (l.take (m + 1)) + val (b.take (m + 1)) = val (rl.take (m + 1)) + BB ^ (m + 1) * cc) (hle : val b ≤ val rl) (hro : ok rl) : val l = val rl - val b := by
  have h1 := val_lt hok
  have h2 := val_lt hro
  rw [hl] at h1
  rw [hr] at h2
  rw [List.take_of_length_le (by omega), List.take_of_length_le hb, List.take_of_length_le (by omega)] at hv
  rcases Nat.eq_zero_or_pos cc with h | h
  · rw [h, Nat.mul_zero] at hv; omega
  · have h4 : BB ^ (m + 1) * 1 ≤ BB ^ (m + 1) * cc := Nat.mul_le_mul_left _ h
    omega
theorem dsub_step {l r b : List Nat} {k cc d q N x : Nat} (hl : l.length = N) (hok : ok l) (hk : k < N) (hd : ∀ j, k ≤ j → l[j]? = r[j]?) (hv : val (l.take k) + val (b.take k) = val (r.take k) + BB ^ k * cc) (hx : r[k]? = some x) (hdB : d < BB) (he : d + at0 b k + cc = x + BB * q) :
    (l.set k d).length = N ∧ ok (l.set k d) ∧ (∀ j, k + 1 ≤ j → (l.set k d)[j]? = r[j]?) ∧ val ((l.set k d).take (k + 1)) + val (b.take (k + 1)) = val (r.take (k + 1)) + BB ^ (k + 1) * q := by
  refine ⟨by simp [hl], ok_set hok _ _ hdB, fun j hj => by rw [at_set_ne _ (by omega)]; exact hd j (by omega), ?_⟩
  rw [val_take_succ (l := l.set k d) (List.getElem?_set_self (by omega)), List.take_set_of_le (Nat.le_refl k), val_take_succ hx, take_at0 b k, Nat.pow_succ, Nat.mul_assoc]
  have h3 : BB ^ k * (d + at0 b k + cc) = BB ^ k * (x + BB * q) := by rw [he]
  rw [Nat.mul_add, Nat.mul_add, Nat.mul_add] at h3
  omega
theorem or_top32 (s X : Nat) (hs : s < 32) (hX : X % 2 ^ (s + 1) = 0) (hXb : X < 4294967296) : bits .or .u32 (X : Int) ((2 ^ s : Nat) : Int) = ((X + 2 ^ s : Nat) : Int) ∧ X + 2 ^ s < 4294967296 := by
  have h2 := two_pow_le31 s hs
  have hlt : 2 ^ s < 2 ^ (s + 1) := Nat.pow_lt_pow_right (by omega) (by omega)
  have := bits_join .u32 32 (by decide) (fun n h0 h1 => by simp [IntKind.wrap, IntKind.bits, IntKind.signed]; omega) (s + 1) (X : Int) ((2 ^ s : Nat) : Int) (by omega)
    (by
      have : (2 : Int) ^ (s + 1) = ((2 ^ (s + 1) : Nat) : Int) := by simp
      rw [this, ← Int.natCast_emod, hX]; rfl) (by omega) (by omega)
    (by
      have : (2 : Int) ^ (s + 1) = ((2 ^ (s + 1) : Nat) : Int) := by simp
      rw [this]; omega) (by omega)
  refine ⟨by rw [this]; omega, ?_⟩
  have e := Nat.div_add_mod X (2 ^ (s + 1))
  rw [hX, Nat.add_zero] at e
  have hp : 2 ^ (s + 1) * 2 ^ (31 - s) = 4294967296 := by
    rw [← Nat.pow_add, show s + 1 + (31 - s) = 32 by omega]
  rw [← e, ← hp] at hXb ⊢
  have h5 : X / 2 ^ (s + 1) < 2 ^ (31 - s) := Nat.lt_of_mul_lt_mul_left hXb
  have h6 : 2 ^ (s + 1) * (X / 2 ^ (s + 1) + 1) ≤ 2 ^ (s + 1) * 2 ^ (31 - s) := Nat.mul_le_mul_left _ h5
  rw [Nat.mul_add, Nat.mul_one] at h6
  omega
/-- A limb of a multiple of a power of 2. -/
theorem limb_mult {l : List Nat} {k s x Q i : Nat} (h : ok l) (hi : i = 32 * k + s) (hs : s < 32) (hx : l[k]? = some x) (hv : val l = 2 ^ (i + 1) * Q) : x % 2 ^ (s + 1) = 0 := by
  have e : 2 ^ (i + 1) = BB ^ k * 2 ^ (s + 1) := by rw [hi, Nat.add_assoc, Nat.pow_add, Nat.pow_mul]; rfl
  have h1 := val_div_pow h k
  rw [hv, e, Nat.mul_assoc, Nat.mul_div_cancel_left _ (Nat.pow_pos BB_pos), val_drop hx] at h1
  have hc : BB = 2 ^ (s + 1) * 2 ^ (31 - s) := by rw [← Nat.pow_add, BB_pow]; congr 1; omega
  rw [hc, Nat.mul_assoc] at h1
  have h2 := congrArg (· % 2 ^ (s + 1)) h1
  simp only [Nat.mul_mod_right, Nat.add_mul_mod_self_left] at h2
  exact h2.symm
end Go.Fl.Nm

namespace Go.Proofs.YtffdkakogeofmaaGreatDoor
open Go.RowKit Go.Fl Go.Fl.Nm

set_option maxHeartbeats 400000 in
theorem rLess (A B : Option Addr) (n c m d : Nat) (a b : List Nat) (w : World) (ha : Sl w A n c a) (hb : Sl w B m d b) (hn : n ≤ 1000000) (hm : m ≤ 1000000) :
    Calls Tryz.prog 109 #[.slice A n c, .slice B m d] w fun e w' => e = .returned (.bool (decide (val a < val b))) ∧ w = w' := by
  have K := Lib.hid (rCmp A B n c m d a b w ha hb hn hm)
  have hr := cmpN_range (val a) (val b)
  have HN := Lib.hid (cmpN_neg (val a) (val b))
  obtain ⟨cc, HCC⟩ : ∃ cc, Hid (cmpN (val a) (val b) = cc) := ⟨_, Lib.hid rfl⟩
  rw [HCC.out] at K HN hr
  clear ha hb
  go_enter Tryz.func109, Tryz.ntmps109
  go_wp2_with fail
  refine K.out.mono ?_
  rintro e w1 ⟨rfl, rfl⟩
  go_wp2_with fail
  go_ret
  refine ⟨ret_bool ?_, rfl⟩
  rw [Bool.eq_iff_iff]
  simp [HN.out]

def DMP (q r : Nat) (w : World) (e : Ending) (w' : World) : Prop :=
  ∃ (A : Option Addr) (n c : Nat) (B : Option Addr) (m d : Nat), e = .returned (.tuple #[.slice A n c, .slice B m d]) ∧ Hid (Nw w' tU w.heap.size A n c (limbs q)) ∧ Hid (Nw w' tU w.heap.size B m d (limbs r)) ∧ Hid (Below w.heap.size w w')
def DMRel (w : World) (n m bl V D : Nat) (k : Nat) (iv : Value) (wr : World) : Prop :=
  ∃ (ql rl : List Nat), iv = .int .i64 ((k : Int) - 1) ∧ k ≤ bl ∧ Hid (ql.length = n) ∧ Hid (ok ql) ∧ Hid (Blk wr w.heap.size tU (UA ql)) ∧ Hid (val ql = 2 ^ k * (V / 2 ^ k / D)) ∧
    Hid (rl.length = m + 1) ∧ Hid (ok rl) ∧ Hid (Blk wr (w.heap.size + 1) tU (UA rl)) ∧ Hid (val rl = V / 2 ^ k % D) ∧ Hid (Below w.heap.size w wr)
def DblRel (w : World) (m b : Nat) (ql rl : List Nat) (k : Nat) (cv iv : Value) (wr : World) : Prop :=
  ∃ (kk cc : Nat) (l : List Nat), iv = .int .i64 kk ∧ cv = .int .u32 cc ∧ cc ≤ 1 ∧ kk ≤ m + 1 ∧ k = m + 1 - kk ∧ Hid (Blk wr w.heap.size tU (UA ql)) ∧ Hid (l.length = m + 1) ∧ Hid (ok l) ∧ Hid (Blk wr (w.heap.size + 1) tU (UA l)) ∧
    Hid (∀ j, kk ≤ j → l[j]? = rl[j]?) ∧ Hid (val (l.take kk) + BB ^ kk * cc = 2 * val (rl.take kk) + b) ∧ Hid (Below w.heap.size w wr)
def DsbRel (w : World) (m : Nat) (b ql rl : List Nat) (k : Nat) (cv iv : Value) (wr : World) : Prop :=
  ∃ (kk cc : Nat) (l : List Nat), iv = .int .i64 kk ∧ cv = .int .u64 cc ∧ cc ≤ 1 ∧ kk ≤ m + 1 ∧ k = m + 1 - kk ∧ Hid (Blk wr w.heap.size tU (UA ql)) ∧ Hid (l.length = m + 1) ∧ Hid (ok l) ∧ Hid (Blk wr (w.heap.size + 1) tU (UA l)) ∧
    Hid (∀ j, kk ≤ j → l[j]? = rl[j]?) ∧ Hid (val (l.take kk) + val (b.take kk) = val (rl.take kk) + BB ^ kk * cc) ∧ Hid (Below w.heap.size w wr)
theorem and_one32 (x : Nat) (h : x < 4294967296) : bits .and .u32 (x : Int) 1 = ((x % 2 : Nat) : Int) := by
  have := (bits_nat .u32 32 (by decide) (fun n h0 h1 => by simp [IntKind.wrap, IntKind.bits, IntKind.signed]; omega) x 1 (by omega) (by omega)).1
  rw [Nat.and_one_is_mod] at this
  exact this
theorem or_bit32 (X cc : Nat) (hX : X % 2 = 0) (hXb : X < 4294967296) (hc : cc ≤ 1) : bits .or .u32 (X : Int) (cc : Int) = ((X + cc : Nat) : Int) := by
  have := bits_join .u32 32 (by decide) (fun n h0 h1 => by simp [IntKind.wrap, IntKind.bits, IntKind.signed]; omega) 1 (X : Int) (cc : Int) (by omega) (by omega) (by omega) (by omega) (by omega) (by omega)
  rw [this]; omega

set_option maxHeartbeats 3200000 in
set_option maxRecDepth 100000 in
theorem rDivMod (A B : Option Addr) (n c m0 d : Nat) (a b0 : List Nat) (w : World) (ha : Sl w A n c a) (hb : Sl w B m0 d b0) (hn : n ≤ 10000) (hm : m0 ≤ 10000) (h0 : 0 < val b0) :
    Calls Tryz.prog 74 #[.slice A n c, .slice B m0 d] w (DMP (val a / val b0) (val a % val b0) w) := by
  have HA0 := Lib.hid ha
  have HB0 := Lib.hid hb
  have HLL := Lib.hid (Nat.le_trans (limbs_le_len hb.ok) (Nat.le_of_eq hb.len))
  have hblb : blen (val a) ≤ 32 * n := by
    have h1 := blen_limbs (val a)
    have h2 := limbs_le_len ha.ok
    have h3 := ha.len
    omega
  have HBV := Lib.hid (show val a / 2 ^ blen (val a) = 0 from Nat.div_eq_of_lt (by
    rcases Nat.eq_zero_or_pos (val a) with h | h
    · rw [h]; exact Nat.two_pow_pos _
    · exact (blen_spec (by omega)).2))
  obtain ⟨bl, HBL0⟩ : ∃ bl, Hid (blen (val a) = bl) := ⟨_, Lib.hid rfl⟩
  rw [HBL0.out] at hblb HBV
  have HD0 := Lib.hid h0
  clear ha hb h0
  go_enter Tryz.func74, Tryz.ntmps74
  go_wp2_with fail
  refine (rTrim B m0 d b0 w HB0.out (by omega)).mono ?_
  rintro e w1 ⟨Y, m, cy, rfl, HY, HL1⟩
  have HB := Lib.hid HY.out.sl
  have HA := Lib.hid (HA0.out.below HL1.out)
  have hmm : m ≤ 10000 := by
    have h1 := HB.out.len
    have h2 := HLL.out
    omega
  have HVB := Lib.hid (val_limbs (val b0))
  have HDB := Lib.hid (show val b0 < BB ^ m by
    have h1 := HB.out.len
    exact limbs_lt (by omega))
  generalize limbs (val b0) = b at *
  generalize hD : val b0 = D at *
  generalize hV : val a = V at *
  have HV := Lib.hid hV
  clear hD hV
  have hmk1 := make_u32 n n (n : Int) (n : Int) (by omega) (by omega) (by omega) (by omega)
  have hmk2 := make_u32 (m + 1) (m + 1) ((m : Int) + 1) ((m : Int) + 1) (by omega) (by omega) (by omega) (by omega)
  have HB1 := Lib.hid ((Blk.new w1 tU (UA (zeros n))).alloc (.cells (UA (zeros (m + 1))) tU))
  have HB2 := Lib.hid (Blk.new (w1.alloc (.cells (UA (zeros n)) tU)) tU (UA (zeros (m + 1))))
  rw [show (w1.alloc (.cells (UA (zeros n)) tU)).heap.size = w1.heap.size + 1 by simp] at HB2
  have HL0 := Lib.hid (((Below.refl w1.heap.size w1).alloc (Nat.le_refl _) (.cells (UA (zeros n)) tU)).alloc (by simp) (.cells (UA (zeros (m + 1))) tU))
  have HA2 := Lib.hid (HA.out.below HL0.out)
  go_wp2_with fail
  refine (rBits A n c a _ HA2.out (by omega)).mono ?_
  rw [HV.out, HBL0.out]
  rintro e w2 ⟨rfl, rfl⟩
  clear hmk1 hmk2
  go_wp2_with fail
  go_loopg [8] bl (DMRel w1 n m bl V D)
  case atStart =>
    refine ⟨zeros n, zeros (m + 1), rfl, Nat.le_refl _, Lib.hid (zeros_len _), Lib.hid (ok_zeros _), HB1, Lib.hid ?_, Lib.hid (zeros_len _), Lib.hid (ok_zeros _), HB2, Lib.hid ?_, HL0⟩
    · rw [HBV.out, Nat.zero_div, Nat.mul_zero]; exact val_zeros _
    · rw [HBV.out, Nat.zero_mod]; exact val_zeros _
  case round =>
    obtain ⟨ql, rl, rfl, hk, HQL, HQO, HQB, HQV, HRL, HRO, HRB, HRV, HBL⟩ := hrel
    cases gk with
    | zero =>
      rw [show ((0 : Nat) : Int) - 1 = -1 by omega]
      have h1 := HQV.out
      have h2 := HRV.out
      rw [Nat.pow_zero, Nat.div_one, Nat.one_mul] at h1
      rw [Nat.pow_zero, Nat.div_one] at h2
      have HQ1 := Lib.hid h1
      have HR1 := Lib.hid h2
      have HNQ := Lib.hid (Nw.of_blk (base := 0) HQB.out HQO.out (Nat.zero_le _) HQL.out (by unfold maxLen; omega)).sl
      have HNR := Lib.hid (Nw.of_blk (base := 0) HRB.out HRO.out (Nat.zero_le _) HRL.out (by unfold maxLen; omega)).sl
      clear h1 h2
      go_wp2_with fail
      refine (rTrim _ n n ql wr HNQ.out (by omega)).mono ?_
      rw [HQ1.out]
      rintro e w3 ⟨C, kc, cc, rfl, HC, HL3⟩
      have HNR3 := Lib.hid (HNR.out.below HL3.out)
      go_wp2_with fail
      refine (rTrim _ (m + 1) (m + 1) rl w3 HNR3.out (by omega)).mono ?_
      rw [HR1.out]
      rintro e w4 ⟨C2, kc2, cc2, rfl, HC2, HL4⟩
      go_wp2_with fail
      refine bodyPost_ret (v := .tuple #[.slice C kc cc, .slice C2 kc2 cc2]) (by simp [results, Tryz.results74, go_sem]) rfl ?_
      have hB := HL1.out.trans (HBL.out.mono HL1.out.size)
      have hB3 := hB.trans (HL3.out.mono hB.size)
      have hB4 := hB3.trans (HL4.out.mono hB3.size)
      exact ⟨C, kc, cc, C2, kc2, cc2, rfl, Lib.hid ((HC.out.base hB.size).below HL4.out), Lib.hid (HC2.out.base hB3.size), Lib.hid hB4⟩
    | succ i =>
      rw [show ((i + 1 : Nat) : Int) - 1 = i by omega]
      obtain ⟨ki, hki⟩ : ∃ ki, ki = i / 32 := ⟨_, rfl⟩
      obtain ⟨s, hs⟩ : ∃ s, s = i % 32 := ⟨_, rfl⟩
      have hs32 : s < 32 := by omega
      have hkn : ki < n := by omega
      have hd1 : (i : Int) / 32 = ki := by omega
      have hd2 : (i : Int) % 32 = s := by omega
      have HI := Lib.hid (show i = 32 * ki + s by omega)
      have hin : i < 1000000 := by omega
      obtain ⟨b1, o1, x, hAA, hb1, hx, hxB, hcell1⟩ := HA.out.at_ hkn
      subst hAA
      have hc1 : wr.cell? ⟨b1, o1 + ki, none⟩ = some (.int .u32 x) := (HBL.out.cell (p := ⟨b1, _, none⟩) hb1).trans hcell1
      have HBIT := Lib.hid (bit_at HA.out.ok HI.out hs32 hx)
      rw [HV.out] at HBIT
      have hsh : x / 2 ^ s < 4294967296 := Nat.lt_of_le_of_lt (Nat.div_le_self _ _) hxB
      have hand := and_one32 (x / 2 ^ s) hsh
      have hshi : (x : Int) / 2 ^ s = ((x / 2 ^ s : Nat) : Int) := by simp
      have HHALF := Lib.hid (half_step V i)
      rw [HBIT.out] at HHALF
      clear hki hs hcell1 hx
      unfold BB at hxB
      generalize x / 2 ^ s = z at *
      generalize hbit : z % 2 = bit at *
      have hbit1 : bit ≤ 1 := by omega
      have HBIT2 := Lib.hid hbit
      clear hbit
      go_wp2_with fail
      obtain ⟨wo, rfl⟩ : ∃ wo : World, wo = wr := ⟨_, rfl⟩
      go_loopg [9, 10] (m + 1) (DblRel w1 m bit ql rl)
      case atStart => exact ⟨0, bit, rl, rfl, rfl, hbit1, by omega, rfl, HQB, HRL, HRO, HRB, Lib.hid (fun _ _ => rfl), Lib.hid (by simp [val_nil]), HBL⟩
      case round =>
        obtain ⟨kk, cc, l, rfl, rfl, hcc, hkk, rfl, HQB', HLL', HLO, HLB, HLD, HLV, HBL'⟩ := hrel
        by_cases hlt : kk < m + 1
        · have hdl : decide ((kk : Int) < (m : Int) + 1) = true := by simp; omega
          obtain ⟨y, hy⟩ : ∃ y, rl[kk]? = some y := ⟨_, List.getElem?_eq_getElem (by rw [HRL.out]; omega)⟩
          have hyB := ok_at HRO.out hy
          have HS := Lib.hid (dbl_step HLL'.out HLO.out hlt HLD.out HLV.out hy hyB hcc)
          have hg1 : wr.cell? ⟨w1.heap.size + 1, kk, none⟩ = some (.int .u32 y) := blkU_cell HLB.out (by rw [HLD.out kk (Nat.le_refl _)]; exact hy)
          have hg2 : wr.frozen? ⟨w1.heap.size + 1, kk, none⟩ = false := HLB.out.frozen _
          unfold BB at hyB
          have hor := or_bit32 (2 * y % 4294967296) cc (by omega) (by omega) hcc
          have hsl : ((y : Int) * 2) % 4294967296 = ((2 * y % 4294967296 : Nat) : Int) := by omega
          have hsl' : (2 * (y : Int)) % 4294967296 = ((2 * y % 4294967296 : Nat) : Int) := by omega
          have hsr : (y : Int) / 2147483648 = ((2 * y / BB : Nat) : Int) := by unfold BB; omega
          have HE := Lib.hid (show 2 * y % BB = 2 * y % 4294967296 from rfl)
          rw [HE.out] at HS
          have hlo : 2 * y % 4294967296 < 4294967296 := by omega
          have hhb := HS.out.2.2.2.2
          clear hy HE
          generalize 2 * y % 4294967296 = lo at *
          generalize 2 * y / BB = hh at *
          have hlo2 : lo + cc < 4294967296 := by
            have h1 := HS.out.2.1
            have h2 : (l.set kk (lo + cc))[kk]? = some (lo + cc) := List.getElem?_set_self (by rw [HLL'.out]; exact hlt)
            exact ok_at h1 h2
          go_wp2_with fail
          go_roundg (m + 1 - (kk + 1))
          case measure => omega
          case rel =>
            refine ⟨kk + 1, hh, l.set kk (lo + cc), by go_num, rfl, hhb, by omega, rfl, Lib.hid (HQB'.out.grown (grown_setCell _ (w1.heap.size + 1) kk _) (fun h => by injection h with h; omega)), Lib.hid HS.out.1, Lib.hid HS.out.2.1, Lib.hid ?_, Lib.hid HS.out.2.2.1, Lib.hid HS.out.2.2.2.1, Lib.hid (HBL'.out.setCell (show w1.heap.size ≤ w1.heap.size + 1 by omega) _)⟩
            have := blkU_set HLB.out kk (lo + cc)
            rw [show ((lo + cc : Nat) : Int) = (lo : Int) + cc by omega] at this
            exact this
        · obtain rfl : kk = m + 1 := by omega
          have hdl : decide ((m : Int) + 1 < (m : Int) + 1) = false := by simp
          have hR1 : val rl < D := by rw [HRV.out]; exact Nat.mod_lt _ HD0.out
          have HLV2 := Lib.hid (dbl_end HLL'.out HRL.out HLV.out hR1 HDB.out hbit1)
          have HBS := Lib.hid (bit_step (X := V / 2 ^ (i + 1)) HD0.out HRV.out hbit1)
          have HNL := Lib.hid (Nw.of_blk (base := 0) HLB.out HLO.out (Nat.zero_le _) HLL'.out (by unfold maxLen; omega)).sl
          have HBr := Lib.hid (HB.out.below HBL'.out)
          rw [← HLV2.out] at HBS
          have KL := Lib.hid (rLess _ Y (m + 1) (m + 1) m cy l b wr HNL.out HBr.out (by omega) (by omega))
          rw [HVB.out] at KL
          by_cases hless : val l < D
          · have hdd : decide (val l < D) = true := by simpa using hless
            rw [hdd] at KL
            have HB3 := Lib.hid (HBS.out.1 hless)
            rw [← HHALF.out] at HB3
            go_wp2_with fail
            refine KL.out.mono ?_
            rintro e w3 ⟨rfl, rfl⟩
            go_wp2_with fail
            go_roundg i
            case measure => omega
            case rel =>
              refine ⟨ql, l, rfl, by omega, HQL, HQO, HQB', Lib.hid ?_, HLL', HLO, HLB, Lib.hid ?_, HBL'⟩
              · rw [HQV.out, HB3.out.2, Nat.pow_succ, Nat.mul_assoc]
              · rw [HB3.out.1]
          · have hdd : decide (val l < D) = false := by simpa using hless
            rw [hdd] at KL
            have HB3 := Lib.hid (HBS.out.2 (by omega))
            rw [← HHALF.out] at HB3
            have hge : D ≤ val l := by omega
            clear hless
            obtain ⟨wo2, rfl⟩ : ∃ wo2 : World, wo2 = wr := ⟨_, rfl⟩
            go_wp2_with fail
            refine KL.out.mono ?_
            rintro e w3 ⟨rfl, rfl⟩
            go_wp2_with fail
            go_loopg [12, 13] (m + 1) (DsbRel w1 m b ql l)
            case atStart => exact ⟨0, 0, l, rfl, rfl, by omega, by omega, rfl, HQB', HLL', HLO, HLB, Lib.hid (fun _ _ => rfl), Lib.hid (by simp [val_nil]), HBL'⟩
            case round =>
              obtain ⟨k2, c2, l2, rfl, rfl, hc2, hk2, rfl, HQB2, HLL2, HLO2, HLB2, HLD2, HLV3, HBL2⟩ := hrel
              by_cases hlt : k2 < m + 1
              · have hdl : decide ((k2 : Int) < (m : Int) + 1) = true := by simp; omega
                obtain ⟨y, hy⟩ : ∃ y, l[k2]? = some y := ⟨_, List.getElem?_eq_getElem (by rw [HLL'.out]; omega)⟩
                have hyB := ok_at HLO.out hy
                have hzB := at0_lt HB.out.ok k2
                obtain ⟨hq1, hq2⟩ := rsub_limb y (at0 b k2) c2 hyB hzB hc2
                have HS := Lib.hid (dsub_step HLL2.out HLO2.out hlt HLD2.out HLV3.out hy (Nat.mod_lt _ BB_pos) hq2)
                have hg1 : wr.cell? ⟨w1.heap.size + 1, k2, none⟩ = some (.int .u32 y) := blkU_cell HLB2.out (by rw [HLD2.out k2 (Nat.le_refl _)]; exact hy)
                have hg2 : wr.frozen? ⟨w1.heap.size + 1, k2, none⟩ = false := HLB2.out.frozen _
                have KB := Lib.hid (fun q => rAt Y m cy k2 b (wr.drewN q) ((HB.out.below HBL2.out).drewN q) (by omega))
                generalize at0 b k2 = z2 at *
                clear hq2 hy
                have hxb : y + BB - z2 - c2 < 18446744073709551616 := by unfold BB at *; omega
                have hXi : (y : Int) + 4294967296 - z2 - c2 = ((y + BB - z2 - c2 : Nat) : Int) := by unfold BB at *; omega
                have hand2 := and_mask64 (y + BB - z2 - c2) hxb
                generalize y + BB - z2 - c2 = X at *
                unfold BB at hyB
                generalize hM : X % 4294967296 = M at *
                have HM := Lib.hid (show X % BB = M from hM)
                rw [HM.out] at HS
                have hMb : M < 4294967296 := by omega
                clear hM
                generalize hT : X / BB = Tq at *
                have hTi : (X : Int) / 4294967296 = (Tq : Int) := by rw [← hT]; unfold BB; simp
                clear hT
                go_wp2_with fail
                go_quiet ((go_at_call 84; exact quiet_left (KB.out _)))
                go_wp2_with fail
                go_roundg (m + 1 - (k2 + 1))
                case measure => omega
                case rel =>
                  exact ⟨k2 + 1, 1 - Tq, l2.set k2 M, by go_num, by congr 1; omega, by omega, by omega, rfl, Lib.hid ((HQB2.out.drewN nq).grown (grown_setCell _ (w1.heap.size + 1) k2 _) (fun h => by injection h with h; omega)), Lib.hid HS.out.1, Lib.hid HS.out.2.1, Lib.hid (blkU_set (HLB2.out.drewN nq) k2 M), Lib.hid HS.out.2.2.1, Lib.hid HS.out.2.2.2, Lib.hid ((below_drewN HBL2.out nq).setCell (show w1.heap.size ≤ w1.heap.size + 1 by omega) _)⟩
              · obtain rfl : k2 = m + 1 := by omega
                have hdl : decide ((m : Int) + 1 < (m : Int) + 1) = false := by simp
                have HLV4 := Lib.hid (dsub_end HLL2.out HLO2.out HLL'.out (by rw [HB.out.len]; omega) HLV3.out (by rw [HVB.out]; exact hge) HLO.out)
                rw [HVB.out] at HLV4
                obtain ⟨qx, hqx⟩ : ∃ qx, ql[ki]? = some qx := ⟨_, List.getElem?_eq_getElem (by rw [HQL.out]; exact hkn)⟩
                have hqB := ok_at HQO.out hqx
                have hmul := limb_mult HQO.out HI.out hs32 hqx HQV.out
                obtain ⟨hor, hqs⟩ := or_top32 s qx hs32 hmul hqB
                have hg1 : wr.cell? ⟨w1.heap.size, ki, none⟩ = some (.int .u32 qx) := blkU_cell HQB2.out hqx
                have hg2 : wr.frozen? ⟨w1.heap.size, ki, none⟩ = false := HQB2.out.frozen _
                have hs31 := two_pow_le31 s hs32
                have HVQ := Lib.hid (show val (ql.set ki (qx + 2 ^ s)) = 2 ^ i * (V / 2 ^ i / D) by
                  have h1 := val_set (qx + 2 ^ s) hqx
                  rw [HB3.out.2, Nat.mul_add, Nat.mul_one]
                  have h2 := HQV.out
                  generalize V / 2 ^ (i + 1) / D = G at *
                  rw [Nat.pow_succ, Nat.mul_assoc] at h2
                  have h3 : 2 ^ i = BB ^ ki * 2 ^ s := by rw [HI.out, Nat.pow_add, Nat.pow_mul]; rfl
                  rw [← h2]
                  rw [Nat.mul_add, ← h3] at h1
                  omega)
                unfold BB at hqB
                clear hmul
                have hqi : ((2 ^ s : Nat) : Int) = 2 ^ s := by simp
                have hw0 : (i : Int).tdiv 32 = ki := by rw [Int.tdiv_eq_ediv_of_nonneg (by omega)]; exact hd1
                have hw3 : (i : Int).tmod 32 = s := by rw [Int.tmod_eq_emod_of_nonneg (by omega)]; exact hd2
                have hw1 : IntKind.i64.wrap (ki : Int) = ki := by simp [IntKind.wrap, IntKind.bits, IntKind.signed]; omega
                have hw2 : IntKind.i64.wrap (s : Int) = s := by simp [IntKind.wrap, IntKind.bits, IntKind.signed]; omega
                have b0 : (0 : Int) ≤ ki := by omega
                have b1 : (ki : Int) < n := by omega
                go_wp2_with fail
                go_still_tail 13, (by kernel_rfl)
                change wpList _ _ _ _ _ wr.drew
                have hg3 : wr.drew.cell? ⟨w1.heap.size, ki, none⟩ = some (.int .u32 qx) := hg1
                have hg4 : wr.drew.frozen? ⟨w1.heap.size, ki, none⟩ = false := hg2
                clear hg1 hg2
                go_wp2_with fail
                have hval : bits .or .u32 (qx : Int) ((2 : Int) ^ s % 4294967296) = ((qx + 2 ^ s : Nat) : Int) := by
                  have e : ∀ P : Nat, P ≤ 2147483648 → (P : Int) % 4294967296 = P := fun P h => by omega
                  rw [← hor, ← hqi, e _ hs31]
                rw [hval]
                go_roundg i
                case measure => omega
                case rel =>
                  refine ⟨ql.set ki (qx + 2 ^ s), l2, rfl, by omega, Lib.hid (by rw [List.length_set, HQL.out]), Lib.hid (ok_set HQO.out _ _ hqs), Lib.hid (blkU_set HQB2.out ki (qx + 2 ^ s)).drew, HVQ, HLL2, HLO2, Lib.hid (HLB2.out.grown (grown_setCell _ w1.heap.size ki _) (fun h => by injection h with h; omega)).drew, Lib.hid ?_, Lib.hid (below_drewN (HBL2.out.setCell (Nat.le_refl _) _) 1)⟩
                  rw [HLV4.out, HB3.out.1]

def GcdP (g : Nat) (w : World) (e : Ending) (w' : World) : Prop := RP g w e w'
def RGcdRel (w : World) (G : Nat) (k : Nat) (av bv : Value) (wr : World) : Prop :=
  ∃ (X : Option Addr) (nx cx x : Nat) (Y : Option Addr) (ny cy : Nat), av = .slice X nx cx ∧ bv = .slice Y ny cy ∧ Hid (Nw wr tU w.heap.size X nx cx (limbs x)) ∧ Hid (Nw wr tU w.heap.size Y ny cy (limbs k)) ∧ nx ≤ 10000 ∧ ny ≤ 10000 ∧
    Hid (Nat.gcd x k = G) ∧ Hid (Below w.heap.size w wr)

end Go.Proofs.YtffdkakogeofmaaGreatDoor
