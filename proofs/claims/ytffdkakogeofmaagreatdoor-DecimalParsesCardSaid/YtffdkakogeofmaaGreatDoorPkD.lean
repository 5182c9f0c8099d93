/-
  The walk of shr.
  The walk of shl.
  Digits of quotients: digit, guess.
  The walk of take.
  Plain mathematics of the long division.
  The walk of divide: small numbers, and one limb.
-/
import Derived.Test.YtffdkakogeofmaaGreatDoorPkC
import Derived.Lib.LazyBuf
set_option linter.unusedVariables false
namespace Go.Fl.Nm
open Go.RowKit Go.Fl

theorem or_join64b (x y : Nat) (hx : x < 4294967296) (hy : y < 4294967296) : bits .or .u64 (x : Int) ((y : Int) * 4294967296) = (x : Int) + y * 4294967296 := by
  have h := or_join64 (y * 4294967296) x (by omega) (by omega) hx
  have hb := fun a b (ha : a < 2 ^ 64) (hb : b < 2 ^ 64) => (bits_nat .u64 64 (by decide) (fun n h0 h1 => by simp [IntKind.wrap, IntKind.bits, IntKind.signed]; omega) a b ha hb).2
  have e : (y : Int) * 4294967296 = ((y * 4294967296 : Nat) : Int) := by omega
  rw [e, hb x (y * 4294967296) (by omega) (by omega), Nat.or_comm, ← hb (y * 4294967296) x (by omega) (by omega), h]
  omega
theorem pow_split (n : Nat) : 2 ^ n = BB ^ (n / 32) * 2 ^ (n % 32) := by
  rw [BB_pow, ← Nat.pow_mul, ← Nat.pow_add, Nat.div_add_mod]
theorem BB_dvd (s : Nat) (hs : s < 32) : ∃ c, BB = 2 ^ s * c := ⟨2 ^ (32 - s), by rw [← Nat.pow_add, BB_pow]; congr 1; omega⟩
/-- The limb at the head of a shifted number. -/
theorem shr_limb (x y v s : Nat) (hs : s < 32) (hx : x < BB) : (x + BB * (y + BB * v)) / 2 ^ s = ((x + y * BB) / 2 ^ s) % BB + BB * ((y + BB * v) / 2 ^ s) := by
  obtain ⟨c, hc⟩ := BB_dvd s hs
  have hp : 0 < 2 ^ s := Nat.two_pow_pos s
  have h1 : (x + BB * (y + BB * v)) / 2 ^ s / BB = (y + BB * v) / 2 ^ s := by
    rw [Nat.div_div_eq_div_mul, Nat.mul_comm (2 ^ s) BB, ← Nat.div_div_eq_div_mul, Nat.add_mul_div_left _ _ BB_pos, Nat.div_eq_of_lt hx, Nat.zero_add]
  have h2 : (x + BB * (y + BB * v)) / 2 ^ s % BB = ((x + y * BB) / 2 ^ s) % BB := by
    have : x + BB * (y + BB * v) = x + y * BB + 2 ^ s * (BB * (c * v)) := by
      rw [Nat.mul_add, Nat.mul_comm BB y, Nat.add_assoc]
      congr 2
      calc BB * (BB * v) = (2 ^ s * c) * (BB * v) := by rw [← hc]
        _ = 2 ^ s * (BB * (c * v)) := by rw [Nat.mul_assoc, Nat.mul_left_comm c BB v]
    rw [this, Nat.add_mul_div_left _ _ hp, Nat.add_mul_mod_self_left]
  have := Nat.mod_add_div ((x + BB * (y + BB * v)) / 2 ^ s) BB
  rw [h1, h2] at this
  exact this.symm
end Go.Fl.Nm

namespace Go.Proofs.YtffdkakogeofmaaGreatDoor
open Go.RowKit Go.Fl Go.Fl.Nm

theorem shr_cast (q y s : Nat) : (((q + y * BB) / 2 ^ s % BB : Nat) : Int) = ((q : Int) + y * 4294967296) / 2 ^ s % 4294967296 := by
  unfold BB; simp

def ShrRel (w : World) (g n s : Nat) (a : List Nat) (k : Nat) (iv : Value) (wr : World) : Prop :=
  ∃ (i : Nat) (l : List Nat), iv = .int .i64 i ∧ i ≤ n ∧ k = n - i ∧ Hid (l.length = n) ∧ Hid (ok l) ∧ Hid (Blk wr g tU (UA l)) ∧
    Hid (val l + BB ^ i * (val (a.drop i) / 2 ^ s) = val a / 2 ^ s) ∧ Hid (∀ j, i ≤ j → j < n → l[j]? = some 0) ∧ Hid (Below w.heap.size w wr)
theorem shr_step {l a : List Nat} {i n s x y v : Nat} (hl : l.length = n) (hok : ok l) (hi : i < n) (hs : s < 32) (hv : val l + BB ^ i * (val (a.drop i) / 2 ^ s) = val a / 2 ^ s)
    (hz : ∀ j, i ≤ j → j < n → l[j]? = some 0) (hx : a[i]? = some x) (hxB : x < BB) (hy : val (a.drop (i + 1)) = y + BB * v) :
    (l.set i (((x + y * BB) / 2 ^ s) % BB)).length = n ∧ ok (l.set i (((x + y * BB) / 2 ^ s) % BB)) ∧
      val (l.set i (((x + y * BB) / 2 ^ s) % BB)) + BB ^ (i + 1) * (val (a.drop (i + 1)) / 2 ^ s) = val a / 2 ^ s ∧ (∀ j, i + 1 ≤ j → j < n → (l.set i (((x + y * BB) / 2 ^ s) % BB))[j]? = some 0) := by
  refine ⟨by simp [hl], ok_set hok _ _ (Nat.mod_lt _ BB_pos), ?_, fun j h1 h2 => by rw [at_set_ne _ (by omega)]; exact hz j (by omega) h2⟩
  rw [val_set0 _ (hz i (by omega) hi), ← hv, val_drop hx, hy, shr_limb x y v s hs hxB, Nat.pow_succ, Nat.mul_add, Nat.mul_assoc]
  omega

set_option maxHeartbeats 800000 in
set_option maxRecDepth 100000 in
theorem shr_any (A : Option Addr) (n c p : Nat) (a : List Nat) (w : World) (ha : Sl w A n c a) (hn : n ≤ 100000) (hp : p ≤ 100000000) :
    Calls Tryz.prog 123 #[.slice A n c, .int .i64 p] w (Fv n (val a / 2 ^ p) w) := by
  have HA := Lib.hid ha
  have hta : tl a ≤ n := by rw [← ha.len]; exact tl_le a
  have hcap := ha.cap
  have hcm := ha.capMax
  unfold maxLen at hcm
  have HA2 := Lib.hid (ha.cut (m := tl a) (c' := c) (by omega) (by have := ha.cap; omega) ha.capMax ha.nil)
  have HVA := Lib.hid (val_trim a)
  have HVL := Lib.hid (val_lt_tl ha.ok)
  clear ha
  generalize hx : tl a = x at *
  have HX := Lib.hid hx
  clear hx
  have HP := Lib.hid (pow_split p)
  generalize hk : p / 32 = k at *
  generalize hs : p % 32 = s at *
  have hs32 : s < 32 := by omega
  have hd1 : (p : Int) / 32 = k := by omega
  have hd2 : (p : Int) % 32 = s := by omega
  clear hk hs
  by_cases hkx : x ≤ k
  · have HV := Lib.hid (show val a / 2 ^ p = 0 by
      apply Nat.div_eq_of_lt
      rw [HP.out]
      have h1 := HVL.out
      have h2 : BB ^ x ≤ BB ^ k := Nat.pow_le_pow_right BB_pos hkx
      have h3 : BB ^ k * 1 ≤ BB ^ k * 2 ^ s := Nat.mul_le_mul_left _ (Nat.two_pow_pos s)
      omega)
    go_enter Tryz.func123, Tryz.ntmps123
    go_wp2_with fail
    refine (trim_any A n c a w HA.out).mono ?_
    rintro e w1 ⟨rfl, rfl⟩
    rw [HX.out]
    go_wp2_with fail
    go_ret
    exact ⟨none, 0, 0, [], rfl, Lib.hid (Nw.none_ _ _ _), Lib.hid (by rw [HV.out]; rfl), by omega, Lib.hid (Below.refl _ _)⟩
  · obtain ⟨b1, o1, rfl, hb1⟩ : ∃ b1 o1, A = some ⟨b1, o1, none⟩ ∧ b1 < w.heap.size := by
      obtain ⟨b, off, _, hA, hb, _⟩ := HA2.out.at_ (i := 0) (by omega)
      exact ⟨_, _, hA, hb⟩
    obtain ⟨L, rfl⟩ : ∃ L, x = k + L := ⟨x - k, by omega⟩
    have hL : 0 < L := by omega
    clear hkx
    obtain ⟨l, hl⟩ : ∃ l, l = (a.take (k + L)).drop k := ⟨_, rfl⟩
    have HLL := Lib.hid (show l.length = L by rw [hl, List.length_drop, HA2.out.len]; omega)
    have HVV := Lib.hid (show val a / 2 ^ p = val l / 2 ^ s by
      rw [HP.out, ← Nat.div_div_eq_div_mul]
      congr 1
      have h1 := val_split (a.take (k + L)) k (by rw [HA2.out.len]; omega)
      rw [HVA.out, ← hl] at h1
      have h2 := val_lt (ok_take HA2.out.ok k)
      rw [List.length_take, HA2.out.len, Nat.min_eq_left (by omega)] at h2
      rw [h1, Nat.add_mul_div_left _ _ (Nat.pow_pos BB_pos), Nat.div_eq_of_lt h2, Nat.zero_add])
    have HAT := Lib.hid (show ∀ i, i < L → ∃ q, l[i]? = some q ∧ q < BB ∧ w.cell? ⟨b1, o1 + k + i, none⟩ = some (.int .u32 q) from fun i hi => by
      obtain ⟨b, off, q, hA, _, hq, hqB, hcell⟩ := HA2.out.at_ (i := k + i) (by omega)
      injection hA with hA
      injection hA with h1 h2
      subst h1 h2
      exact ⟨q, by rw [hl, List.getElem?_drop]; exact hq, hqB, by rw [Nat.add_assoc]; exact hcell⟩)
    clear hl
    have hmk := make_u32 L L (L : Int) (L : Int) (by omega) (by omega) (by omega) (by omega)
    have HB0 := Lib.hid (Blk.new w tU (UA (zeros L)))
    have HL0 := Lib.hid ((Below.refl w.heap.size w).alloc (Nat.le_refl _) (.cells (UA (zeros L)) tU))
    have hkL : decide (k + L ≤ k) = false := by simp; omega
    go_enter Tryz.func123, Tryz.ntmps123
    go_wp2_with fail
    refine (trim_any _ n c a w HA.out).mono ?_
    rintro e w1 ⟨rfl, rfl⟩
    rw [HX.out]
    go_wp2_with fail
    clear hmk
    go_loopg [25] L (ShrRel w w.heap.size L s l)
    case atStart => exact ⟨0, zeros L, rfl, by omega, rfl, Lib.hid (zeros_len _), Lib.hid (ok_zeros _), HB0, Lib.hid (by simp [zeros, val_zeros]), Lib.hid (fun j _ h => zeros_at _ j h), HL0⟩
    case round =>
      obtain ⟨i, ol, rfl, hi, rfl, HLEN, HOK, HBK, HV, HZ, HBL⟩ := hrel
      by_cases hin : i < L
      · obtain ⟨q, hq, hqB, hcell1⟩ := HAT.out i hin
        have hc1 : wr.cell? ⟨b1, o1 + k + i, none⟩ = some (.int .u32 q) := (HBL.out.cell (p := ⟨b1, _, none⟩) hb1).trans hcell1
        have HQ := Lib.hid hq
        clear hcell1 hq
        have hg1 : wr.cell? ⟨w.heap.size, i, none⟩ = some (.int .u32 (0 : Nat)) := blkU_cell HBK.out (HZ.out i (by omega) (by omega))
        have hg2 : wr.frozen? ⟨w.heap.size, i, none⟩ = false := HBK.out.frozen i
        by_cases hin2 : i + 1 < L
        · obtain ⟨y, hy, hyB, hcell2⟩ := HAT.out (i + 1) hin2
          have hc2 : wr.cell? ⟨b1, o1 + k + (i + 1), none⟩ = some (.int .u32 y) := (HBL.out.cell (p := ⟨b1, _, none⟩) hb1).trans hcell2
          have HS := Lib.hid (shr_step HLEN.out HOK.out hin hs32 HV.out HZ.out HQ.out hqB (val_drop hy))
          clear hcell2 hy
          unfold BB at hqB hyB
          have hor := or_join64b q y hqB hyB
          go_wp2_with fail
          go_roundg (L - (i + 1))
          case measure => omega
          case rel =>
            refine ⟨i + 1, ol.set i ((q + y * BB) / 2 ^ s % BB), by go_num, by omega, rfl, Lib.hid HS.out.1, Lib.hid HS.out.2.1, Lib.hid ?_, Lib.hid HS.out.2.2.1, Lib.hid HS.out.2.2.2, Lib.hid (HBL.out.setCell (Nat.le_refl _) _)⟩
            have := blkU_set HBK.out i ((q + y * BB) / 2 ^ s % BB)
            rw [shr_cast] at this
            exact this
        · have hd0 : val (l.drop (i + 1)) = 0 + BB * 0 := by
            rw [List.drop_eq_nil_of_le (by rw [HLL.out]; omega)]; simp [val_nil]
          have HS := Lib.hid (shr_step HLEN.out HOK.out hin hs32 HV.out HZ.out HQ.out hqB hd0)
          clear hd0
          unfold BB at hqB
          have hin2' : decide ((i : Int) + 1 < L) = false := by simp; omega
          go_wp2_with fail
          go_roundg (L - (i + 1))
          case measure => omega
          case rel =>
            refine ⟨i + 1, ol.set i ((q + 0 * BB) / 2 ^ s % BB), by go_num, by omega, rfl, Lib.hid HS.out.1, Lib.hid HS.out.2.1, Lib.hid ?_, Lib.hid HS.out.2.2.1, Lib.hid HS.out.2.2.2, Lib.hid (HBL.out.setCell (Nat.le_refl _) _)⟩
            have := blkU_set HBK.out i ((q + 0 * BB) / 2 ^ s % BB)
            rw [shr_cast] at this
            simpa using this
      · obtain rfl : i = L := by omega
        go_wp2_with fail
        go_ret
        refine ⟨_, _, _, ol, rfl, Lib.hid (Nw.of_blk HBK.out HOK.out (Nat.le_refl _) HLEN.out (by unfold maxLen; omega)), Lib.hid ?_, by omega, HBL⟩
        have h1 := HV.out
        rw [List.drop_eq_nil_of_le (by rw [HLL.out]; omega)] at h1
        rw [HVV.out, ← h1]
        simp [val_nil]
end Go.Proofs.YtffdkakogeofmaaGreatDoor
namespace Go.Fl.Nm
open Go.RowKit Go.Fl

theorem two_pow_le31 (s : Nat) (h : s < 32) : 2 ^ s ≤ 2147483648 := by
  have : 2 ^ s ≤ 2 ^ 31 := Nat.pow_le_pow_right (by omega) (by omega)
  simpa using this
theorem shl_lt (x s cc : Nat) (hx : x < BB) (hs : s < 32) (hc : cc < 2 ^ s) : x * 2 ^ s + cc < BB * 2 ^ s := by
  have : (x + 1) * 2 ^ s ≤ BB * 2 ^ s := Nat.mul_le_mul_right _ hx
  rw [Nat.add_mul] at this
  omega
theorem or_shl (x s cc : Nat) (hx : x < 4294967296) (hs : s < 32) (hc : cc < 2 ^ s) : bits .or .u64 ((x : Int) * 2 ^ s) (cc : Int) = (x : Int) * 2 ^ s + cc := by
  have h1 := shl_lt x s cc hx hs hc
  have h2 := two_pow_le31 s hs
  have e : (x : Int) * 2 ^ s = ((x * 2 ^ s : Nat) : Int) := by simp
  have h3 : BB * 2 ^ s ≤ BB * 2147483648 := Nat.mul_le_mul_left _ h2
  unfold BB at h1 h3
  rw [e]
  have := bits_join .u64 64 (by decide) (fun n h0 h1 => by simp [IntKind.wrap, IntKind.bits, IntKind.signed]; omega) s ((x * 2 ^ s : Nat) : Int) cc (by omega)
    (by
      have : (2 : Int) ^ s = ((2 ^ s : Nat) : Int) := by simp
      rw [this, ← Int.natCast_emod, Nat.mul_mod_left]; rfl) (by omega) (by omega)
    (by
      have : (2 : Int) ^ s = ((2 ^ s : Nat) : Int) := by simp
      rw [this]; omega) (by omega)
  exact this

theorem Nw.of_own {w : World} {t : TypeId} {base n : Nat} {v : Value} {l : List Nat} (h : w.ownsRow base t 1 v n (U l)) (hok : ok l) : ∃ A c, v = .slice A n c ∧ Nw w t base A n c l := by
  have hl : l.length = n := by have := h.1; rw [U_len] at this; omega
  obtain ⟨A, c, hv, hrd, hnc, hcm⟩ := Rd.of_own h
  rcases h.2 with ⟨h1, h2⟩ | ⟨g, cap, cur, h1, hb, hg, _, _, _, _⟩
  · rw [h1] at hv
    injection hv with h3 h4 h5
    subst h3 h4 h5
    exact ⟨none, 0, h1, ⟨hl, hok, by omega, hcm, fun _ => rfl, hrd⟩, fun h => absurd h (by omega)⟩
  · rw [h1] at hv
    injection hv with h3 h4 h5
    subst h3 h5
    exact ⟨_, _, h1, ⟨hl, hok, hnc, hcm, fun h => (by cases h), hrd⟩, fun _ => ⟨g, cur, rfl, hb, hg⟩⟩
end Go.Fl.Nm

namespace Go.Proofs.YtffdkakogeofmaaGreatDoor
open Go.RowKit Go.Fl Go.Fl.Nm

theorem below_of_grown {B : Nat} {w w' : World} {row : Option Nat} (h : w.grownBy w' row) (hr : ∀ g, row = some g → B ≤ g) (hB : B ≤ w.heap.size) : Below B w w' :=
  ⟨h.os, h.tape, h.output, h.size, fun k hk => h.block k (by omega) (fun e => by have := hr k e.symm; omega)⟩

def ShlRel (w : World) (k x s : Nat) (a : List Nat) (m : Nat) (vv cv iv : Value) (wr : World) : Prop :=
  ∃ (i cc : Nat) (o : List Nat), iv = .int .i64 i ∧ cv = .int .u64 cc ∧ cc < 2 ^ s ∧ i ≤ x ∧ m = x - i ∧ Hid (o.length = k + i) ∧ Hid (ok o) ∧ vv = .slice (some ⟨w.heap.size, 0, none⟩) (k + i) (k + x + 1) ∧ Hid (wr.ownsRow w.heap.size tU 1 (.slice (some ⟨w.heap.size, 0, none⟩) (k + i) (k + x + 1)) (k + i) (U o)) ∧
    Hid (val o + BB ^ (k + i) * cc = BB ^ k * (2 ^ s * val (a.take i))) ∧ Hid (Below w.heap.size w wr)
theorem shl_step {o a : List Nat} {i k x s cc : Nat} (hl : o.length = k + i) (hok : ok o) (hv : val o + BB ^ (k + i) * cc = BB ^ k * (2 ^ s * val (a.take i))) (ha : val (a.take (i + 1)) = val (a.take i) + BB ^ i * x) :
    (o ++ [(x * 2 ^ s + cc) % BB]).length = k + (i + 1) ∧ ok (o ++ [(x * 2 ^ s + cc) % BB]) ∧ val (o ++ [(x * 2 ^ s + cc) % BB]) + BB ^ (k + (i + 1)) * ((x * 2 ^ s + cc) / BB) = BB ^ k * (2 ^ s * val (a.take (i + 1))) := by
  refine ⟨by simp [hl]; omega, ok_append.2 ⟨hok, ok_cons.2 ⟨Nat.mod_lt _ BB_pos, ok_nil⟩⟩, ?_⟩
  rw [val_snoc, hl, ← Nat.add_assoc k i 1, Nat.pow_succ BB (k + i), Nat.mul_assoc (BB ^ (k + i)), Nat.add_assoc, ← Nat.mul_add, Nat.mod_add_div, ha, Nat.mul_add (2 ^ s), Nat.mul_add (BB ^ k), ← hv, Nat.mul_add, Nat.pow_add, Nat.mul_comm x]
  have : BB ^ k * BB ^ i * (2 ^ s * x) = BB ^ k * (2 ^ s * (BB ^ i * x)) := by rw [Nat.mul_assoc, Nat.mul_left_comm (BB ^ i)]
  omega
theorem shl_end {o a : List Nat} {k x s p cc : Nat} (hl : o.length = k + x) (hok : ok o) (hv : val o + BB ^ (k + x) * cc = BB ^ k * (2 ^ s * val a)) (hp : 2 ^ p = BB ^ k * 2 ^ s) (hc : cc < BB) :
    ok (o ++ [cc]) ∧ val (o ++ [cc]) = val a * 2 ^ p := by
  refine ⟨ok_append.2 ⟨hok, ok_cons.2 ⟨hc, ok_nil⟩⟩, ?_⟩
  rw [val_snoc, hl, hv, hp, Nat.mul_comm (val a), Nat.mul_assoc]

/-- What shl returns: a block of just the limbs of the product. -/
def ShlPost (N v : Nat) (w : World) (e : Ending) (w' : World) : Prop :=
  ∃ l : List Nat, e = .returned (.slice (some ⟨w.heap.size, 0, none⟩) N N) ∧ Hid (Blk w' w.heap.size tU (UA l)) ∧ Hid (l.length = N) ∧ Hid (ok l) ∧ Hid (val l = v) ∧ Hid (Below w.heap.size w w')
theorem blk_of_own {w : World} {g n base : Nat} {l : List Nat} (h : w.ownsRow base tU 1 (.slice (some ⟨g, 0, none⟩) n n) n (U l)) : Blk w g tU (UA l) := by
  rcases h.2 with ⟨h1, _⟩ | ⟨g', cap, cur, h1, _, hg, _, _, hc, ht⟩
  · cases h1
  · injection h1 with h1 h2 h3
    injection h1 with h1
    injection h1 with h1
    subst h1 h3
    rw [List.take_of_length_le (by simp; omega)] at ht
    unfold Blk UA
    rw [← ht]
    simpa using hg

set_option maxHeartbeats 800000 in
set_option maxRecDepth 100000 in
theorem shl_exact (A : Option Addr) (n c p : Nat) (a : List Nat) (w : World) (ha : Sl w A n c a) (hn : n ≤ 100000) (hp : p ≤ 1000000) :
    Calls Tryz.prog 122 #[.slice A n c, .int .i64 p] w (ShlPost (p / 32 + tl a + 1) (val a * 2 ^ p) w) := by
  have HA := Lib.hid ha
  have hta : tl a ≤ n := by rw [← ha.len]; exact tl_le a
  have HA2 := Lib.hid (ha.cut (m := tl a) (c' := c) (by omega) (by have := ha.cap; omega) ha.capMax ha.nil)
  have HVA := Lib.hid (val_trim a)
  clear ha
  generalize hx : tl a = x at *
  have HX := Lib.hid hx
  clear hx
  have HP := Lib.hid (pow_split p)
  generalize hk : p / 32 = k at *
  generalize hs : p % 32 = s at *
  have hs32 : s < 32 := by omega
  have hkb : k ≤ 40000 := by omega
  have hd1 : (p : Int) / 32 = k := by omega
  have hd2 : (p : Int) % 32 = s := by omega
  clear hk hs
  have hmk := make_u32 k (k + x + 1) (k : Int) ((k : Int) + x + 1) (by omega) (by omega) (by omega) (by omega)
  go_enter Tryz.func122, Tryz.ntmps122
  go_wp2_with fail
  refine (trim_any A n c a w HA.out).mono ?_
  rintro e w1 ⟨rfl, rfl⟩
  rw [HX.out]
  go_wp2_with fail
  clear hmk
  have HO0 := Lib.hid (show (w.alloc (.cells (UA (zeros (k + x + 1))) tU)).ownsRow w.heap.size tU 1 (.slice (some ⟨w.heap.size, 0, none⟩) k (k + x + 1)) k (U (zeros k)) from
    ⟨by rw [U_len, zeros_len]; omega, .inr ⟨w.heap.size, k + x + 1, UA (zeros (k + x + 1)), rfl, Nat.le_refl _, Blk.new _ _ _, by omega, by unfold maxLen; omega, by rw [UA_size, zeros_len]; omega, by simp [UA, U, zeros, List.take_replicate]; omega⟩⟩)
  have HL0 := Lib.hid ((Below.refl w.heap.size w).alloc (Nat.le_refl _) (.cells (UA (zeros (k + x + 1))) tU))
  go_loopg [5, 6, 23] x (ShlRel w k x s (a.take x))
  case atStart => exact ⟨0, 0, zeros k, rfl, rfl, Nat.two_pow_pos s, by omega, rfl, Lib.hid (by rw [zeros_len]; rfl), Lib.hid (ok_zeros _), rfl, HO0, Lib.hid (by simp [zeros, val_zeros, val_nil]), HL0⟩
  case round =>
    obtain ⟨i, cc, o, rfl, rfl, hcc, hi, rfl, HLEN, HOK, rfl, HOW, HV, HBL⟩ := hrel
    have hsz := HBL.out.size
    by_cases hin : i < x
    · obtain ⟨b1, o1, q, hA, hb1, hq, hqB, hcell1⟩ := HA2.out.at_ hin
      subst hA
      have hc1 : wr.cell? ⟨b1, o1 + i, none⟩ = some (.int .u32 q) := (HBL.out.cell (p := ⟨b1, _, none⟩) hb1).trans hcell1
      have HS := Lib.hid (shl_step HLEN.out HOK.out HV.out (val_take_succ hq))
      have HLT := Lib.hid (shl_lt q s cc hqB hs32 hcc)
      clear hcell1 hq
      unfold BB at hqB
      have hor := or_shl q s cc hqB hs32 hcc
      have hcc31 : cc ≤ 2147483648 := by have := two_pow_le31 s hs32; omega
      have h3 : BB * 2 ^ s ≤ BB * 2147483648 := Nat.mul_le_mul_left _ (two_pow_le31 s hs32)
      obtain ⟨i0, ti, tz0, tz1, tz2⟩ := info_parts Tryz.infoU32
      obtain ⟨S, hS⟩ : ∃ S, S = q * 2 ^ s + cc := ⟨_, rfl⟩
      have hSi : (q : Int) * 2 ^ s + cc = (S : Int) := by rw [hS]; simp
      have hS64 : S < 9223372036854775808 := by have := HLT.out; rw [hS]; unfold BB at h3 this; omega
      have hq0 : 0 ≤ (q : Int) * 2 ^ s := by have : (q : Int) * 2 ^ s = ((q * 2 ^ s : Nat) : Int) := by simp
                                             rw [this]; omega
      have hq1 : (q : Int) * 2 ^ s ≤ S := by omega
      rw [hSi] at hor
      have HSS := Lib.hid hS
      clear hS h3 hSi
      go_wp2_with (at_builtin; refine wpList_append_fits _ rfl _ _ _ rfl w.heap.size 49 i0 1 Tryz.underlying23 ti tz1 w.heap.size (k + i) (k + x + 1) (U o) rfl (by exact HOW.out.alloc _) ⟨wr.heap.size, 0, none⟩ 1 1 [.int .u32 ((S : Int) % 4294967296)] rfl rfl (by exact World.news_of_block (cs := #[.int .u32 ((S : Int) % 4294967296)]) (t := 49) (fr := (0, 0)) (heap_alloc_new wr _)) (by simp [Value.oneCell']) (by omega) ?_)
      intro w2 hown2 hgrow
      have HO2 := Lib.hid (show w2.ownsRow w.heap.size tU 1 (.slice (some ⟨w.heap.size, 0, none⟩) (k + (i + 1)) (k + x + 1)) (k + (i + 1)) (U (o ++ [(q * 2 ^ s + cc) % BB])) by
        rw [U_append, ← HSS.out]
        exact hown2)
      have HL2 := Lib.hid ((HBL.out.alloc hsz (.cells #[.int .u32 ((S : Int) % 4294967296)] tU)).trans (below_of_grown hgrow (by
        intro g hg
        injection hg with hg
        omega) (by simp; omega)))
      clear hown2 hgrow ti tz0 tz1 tz2
      go_wp2_with fail
      go_roundg (x - (i + 1))
      case measure => omega
      case rel =>
        refine ⟨i + 1, (q * 2 ^ s + cc) / BB, o ++ [(q * 2 ^ s + cc) % BB], by go_num, ?_, ?_, by omega, rfl, Lib.hid HS.out.1, Lib.hid HS.out.2.1, rfl, HO2, Lib.hid HS.out.2.2, HL2⟩
        · rw [← HSS.out]; unfold BB; simp
        · exact Nat.div_lt_of_lt_mul HLT.out
    · obtain rfl : i = x := by omega
      obtain ⟨i0, ti, tz0, tz1, tz2⟩ := info_parts Tryz.infoU32
      have hcc31 : cc ≤ 2147483648 := by have := two_pow_le31 s hs32; omega
      have HS := Lib.hid (shl_end HLEN.out HOK.out (a := a.take i) (by have := HV.out; rwa [List.take_of_length_le (l := a.take i) (by rw [HA2.out.len]; omega)] at this) HP.out (by unfold BB; omega))
      rw [HVA.out] at HS
      go_wp2_with (at_builtin; refine wpList_append_fits _ rfl _ _ _ rfl w.heap.size 49 i0 1 Tryz.underlying23 ti tz1 w.heap.size (k + i) (k + i + 1) (U o) rfl (by exact HOW.out.alloc _) ⟨wr.heap.size, 0, none⟩ 1 1 [.int .u32 (cc : Int)] rfl rfl (by exact World.news_of_block (cs := #[.int .u32 (cc : Int)]) (t := 49) (fr := (0, 0)) (heap_alloc_new wr _)) (by simp [Value.oneCell']) (by omega) ?_)
      intro w2 hown2 hgrow
      have HB2 := Lib.hid (show Blk w2 w.heap.size tU (UA (o ++ [cc])) from blk_of_own (l := o ++ [cc]) (by rw [U_append]; exact hown2))
      have HL2 := Lib.hid ((HBL.out.alloc hsz (.cells #[.int .u32 (cc : Int)] tU)).trans (below_of_grown hgrow (by
        intro g hg
        injection hg with hg
        omega) (by simp; omega)))
      clear hown2 hgrow ti tz0 tz1 tz2
      go_wp2_with fail
      go_ret
      refine ⟨o ++ [cc], ?_, HB2, Lib.hid (by rw [List.length_append, HLEN.out]; rfl), Lib.hid HS.out.1, Lib.hid HS.out.2, HL2⟩
      rfl
theorem shl_any (A : Option Addr) (n c p : Nat) (a : List Nat) (w : World) (ha : Sl w A n c a) (hn : n ≤ 100000) (hp : p ≤ 1000000) :
    Calls Tryz.prog 122 #[.slice A n c, .int .i64 p] w (Fv (p / 32 + n + 1) (val a * 2 ^ p) w) := by
  have hta : tl a ≤ n := by rw [← ha.len]; exact tl_le a
  refine (shl_exact A n c p a w ha hn hp).mono ?_
  rintro e w' ⟨l, rfl, HB, HL, HO, HV, HBL⟩
  exact ⟨_, _, _, l, rfl, Lib.hid (Nw.of_blk HB.out HO.out (Nat.le_refl _) HL.out (by unfold maxLen; omega)), HV, by omega, HBL⟩
end Go.Proofs.YtffdkakogeofmaaGreatDoor
namespace Go.Fl.Nm
open Go.RowKit Go.Fl

/-- What digit returns. -/
def digF : Nat → Nat → Nat → Nat → Nat → Nat
  | 0, _, _, _, _ => 0
  | q + 1, r, t, v, u => if r < BB ∧ r * BB + t < (q + 1) * u then digF q (r + v) t v u else q + 1
theorem digF_step (q r t v u : Nat) (h1 : r < BB) (h2 : r * BB + t < (q + 1) * u) : digF (q + 1) r t v u = digF q (r + v) t v u := by
  rw [digF, if_pos ⟨h1, h2⟩]
theorem digF_stop (q r t v u : Nat) (h : ¬ (r < BB ∧ r * BB + t < q * u)) : digF q r t v u = q := by
  cases q with
  | zero => rfl
  | succ q => rw [digF, if_neg h]
theorem digF_spec (q r t v u : Nat) (Q : Nat) (hQ : Q * (v * BB + u) ≤ (q * v + r) * BB + t) (hQq : Q ≤ q) (ht : t < BB) :
    Q ≤ digF q r t v u ∧ digF q r t v u ≤ q ∧ digF q r t v u * v ≤ q * v + r ∧ (digF q r t v u * v + BB ≤ q * v + r ∨ digF q r t v u * (v * BB + u) ≤ (q * v + r) * BB + t) := by
  induction q generalizing r with
  | zero => exact ⟨hQq, Nat.le_refl _, by simp [digF], .inr (by simp [digF])⟩
  | succ q ih =>
    by_cases h : r < BB ∧ r * BB + t < (q + 1) * u
    · rw [digF, if_pos h]
      have e : q * v + (r + v) = (q + 1) * v + r := by rw [Nat.add_mul]; omega
      have h2 : Q ≤ q := by
        rcases Nat.lt_or_ge q Q with hlt | hge
        · exfalso
          have hq : Q = q + 1 := by omega
          rw [hq, Nat.mul_add, ← Nat.mul_assoc, Nat.add_mul ((q + 1) * v) r BB] at hQ
          omega
        · exact hge
      have := ih (r + v) (by rw [e]; exact hQ) h2
      rw [e] at this
      exact ⟨this.1, by omega, this.2.2⟩
    · rw [digF, if_neg h]
      refine ⟨hQq, Nat.le_refl _, by omega, ?_⟩
      by_cases h1 : r < BB
      · right
        have h2 : (q + 1) * u ≤ r * BB + t := by
          rcases Nat.lt_or_ge (r * BB + t) ((q + 1) * u) with h3 | h3
          · exact absurd ⟨h1, h3⟩ h
          · exact h3
        rw [Nat.mul_add, ← Nat.mul_assoc, Nat.add_mul ((q + 1) * v) r BB]
        omega
      · left; omega
theorem digF_le (q r t v u : Nat) : digF q r t v u ≤ q := by
  induction q generalizing r with
  | zero => exact Nat.le_refl _
  | succ q ih =>
    rw [digF]
    split
    · have := ih (r + v); omega
    · exact Nat.le_refl _
/-- What guess returns. -/
def guessF (top next t v u : Nat) : Nat := if v ≤ top then digF (BB - 1) (next + v) t v u else digF ((top * BB + next) / v) ((top * BB + next) % v) t v u
theorem guessF_spec (top next t v u Q : Nat) (ht : t < BB) (hn : next < BB) (hv : 0 < v) (htop : top ≤ v) (hQB : Q < BB) (hQ : Q * (v * BB + u) ≤ (top * BB + next) * BB + t) :
    Q ≤ guessF top next t v u ∧ guessF top next t v u < BB ∧ guessF top next t v u * v ≤ top * BB + next ∧
      (guessF top next t v u * v + BB ≤ top * BB + next ∨ guessF top next t v u * (v * BB + u) ≤ (top * BB + next) * BB + t) := by
  unfold guessF
  by_cases h : v ≤ top
  · rw [if_pos h]
    have e : (BB - 1) * v + (next + v) = top * BB + next := by
      have : top = v := by omega
      rw [this, Nat.sub_mul, Nat.one_mul, Nat.mul_comm v]
      have : 1 * v ≤ BB * v := Nat.mul_le_mul_right _ BB_pos
      omega
    have := digF_spec (BB - 1) (next + v) t v u Q (by rw [e]; exact hQ) (by omega) ht
    rw [e] at this
    have hB := BB_pos
    exact ⟨this.1, by omega, this.2.2⟩
  · rw [if_neg h]
    have e : (top * BB + next) / v * v + (top * BB + next) % v = top * BB + next := Nat.div_add_mod' _ _
    have h1 : (top * BB + next) / v < BB := by
      rw [Nat.div_lt_iff_lt_mul hv]
      have : (top + 1) * BB ≤ v * BB := Nat.mul_le_mul_right _ (by omega)
      rw [Nat.mul_comm v, Nat.add_mul] at this
      omega
    have h2 : Q ≤ (top * BB + next) / v := by
      rw [Nat.le_div_iff_mul_le hv]
      rw [Nat.mul_add, ← Nat.mul_assoc] at hQ
      have : Q * v * BB < (top * BB + next + 1) * BB := by
        rw [Nat.add_mul (top * BB + next)]
        have : 0 ≤ Q * u := Nat.zero_le _
        omega
      have := Nat.lt_of_mul_lt_mul_right this
      omega
    have := digF_spec _ ((top * BB + next) % v) t v u Q (by rw [e]; exact hQ) h2 ht
    rw [e] at this
    exact ⟨this.1, by omega, this.2.2⟩
end Go.Fl.Nm

namespace Go.Proofs.YtffdkakogeofmaaGreatDoor
open Go.RowKit Go.Fl Go.Fl.Nm

theorem quiet_left {P : Program} {f : FuncId} {args : Array Value} {w : World} {n : Nat} {v : Value}
    (h : Calls P f args (w.drewN n) fun e w' => e = .returned v ∧ w.drewN n = w') : Calls P f args (w.drewN n) fun e w'' => e = .returned v ∧ ∃ m, w'' = w.drewN m :=
  h.mono fun _ _ ⟨he, hm⟩ => ⟨he, n, hm.symm⟩

def DigRel (q0 r0 t v u : Nat) (qv rv : Value) : Prop := ∃ q r : Nat, qv = .int .u64 q ∧ rv = .int .u64 r ∧ q < 4294967296 ∧ r < 8589934592 ∧ Hid (digF q r t v u = digF q0 r0 t v u)

set_option maxHeartbeats 800000 in
set_option maxRecDepth 100000 in
theorem digit_any (q0 r0 t v u : Nat) (w : World) (hq0 : q0 < 4294967296) (hr0 : r0 < 8589934592) (ht : t < 4294967296) (hv : v < 4294967296) (hu : u < 4294967296) :
    Calls Tryz.prog 194 #[.int .u64 q0, .int .u64 r0, .int .u32 t, .int .u32 v, .int .u32 u] w fun e w' => e = .returned (.int .u64 (digF q0 r0 t v u : Nat)) ∧ w = w' := by
  generalize hD : digF q0 r0 t v u = D
  have HD := Lib.hid hD
  clear hD
  go_enter Tryz.func194, Tryz.ntmps194
  go_wp2_with fail
  go_loop [0, 1] (DigRel q0 r0 t v u) (fun q _ => (intOf q).toNat)
  case atStart => exact ⟨q0, r0, rfl, rfl, hq0, hr0, Lib.hid rfl⟩
  case round =>
    obtain ⟨q, r, rfl, rfl, hq, hr, HQ⟩ := hrel
    rw [HD.out] at HQ
    by_cases hrB : r < 4294967296
    · have hz := or_join64 (r * 4294967296) t (by omega) (by omega) ht
      rw [show ((r * 4294967296 : Nat) : Int) = (r : Int) * 4294967296 by omega] at hz
      generalize hzz : r * 4294967296 + t = z at *
      have hz64 : z < 18446744073709551616 := by omega
      have HZ := Lib.hid hzz
      clear hzz
      have hb := (mul_bd hq hu).2.2
      have hp : (q : Int) * u = ((q * u : Nat) : Int) := by simp
      generalize hpp : q * u = p at *
      have HP := Lib.hid hpp
      clear hpp
      by_cases hzp : z < p
      · obtain ⟨q', rfl⟩ : ∃ q', q = q' + 1 := by
          cases q with
          | zero => have := HP.out; simp at this; omega
          | succ q => exact ⟨q, rfl⟩
        have HN := Lib.hid (show digF q' (r + v) t v u = D by
          rw [← HQ.out]
          refine (digF_step q' r t v u (by unfold BB; omega) ?_).symm
          have h1 := HZ.out
          have h2 := HP.out
          unfold BB; omega)
        rw [show ((q' + 1 : Nat) : Int) = (q' : Int) + 1 by omega] at hp
        have hd : decide ((r : Int) < 4294967296) = true := by simp; omega
        have hd2 : decide (z < p) = true := by simp; omega
        have hrI : (r : Int) ≤ 4294967295 := by omega
        clear hzp hrB
        go_wp2_with fail
        go_round
        case rel => exact ⟨q', r + v, by go_num, by go_num, by omega, by omega, Lib.hid (by rw [HN.out, HD.out])⟩
        case measure => simp [intOf]
      · have HN := Lib.hid (show q = D by
          rw [← HQ.out]
          refine (digF_stop q r t v u ?_).symm
          rintro ⟨_, h3⟩
          have h1 := HZ.out
          have h2 := HP.out
          unfold BB at h3; omega)
        have hd : decide ((r : Int) < 4294967296) = true := by simp; omega
        have hd2 : decide (z < p) = false := by simp; omega
        have hrI : (r : Int) ≤ 4294967295 := by omega
        clear hzp hrB
        go_wp2_with fail
        go_ret
        exact ⟨ret_int (by rw [HN.out]), rfl⟩
    · have HN := Lib.hid (show q = D by
        rw [← HQ.out]
        exact (digF_stop q r t v u (by rintro ⟨h3, _⟩; unfold BB at h3; omega)).symm)
      have hd : decide ((r : Int) < 4294967296) = false := by simp; omega
      clear hrB
      go_wp2_with fail
      go_ret
      exact ⟨ret_int (by rw [HN.out]), rfl⟩

set_option maxHeartbeats 800000 in
set_option maxRecDepth 100000 in
theorem guess_any (top next t v u : Nat) (w : World) (htop : top ≤ v) (hn : next < 4294967296) (ht : t < 4294967296) (hv : v < 4294967296) (hv0 : 0 < v) (hu : u < 4294967296) :
    Calls Tryz.prog 183 #[.int .u32 top, .int .u32 next, .int .u32 t, .int .u32 v, .int .u32 u] w fun e w' => e = .returned (.int .u64 (guessF top next t v u : Nat)) ∧ ∃ n, w' = w.drewN n := by
  by_cases h : v ≤ top
  · obtain rfl : top = v := by omega
    have HG := Lib.hid (show guessF top next t top u = digF 4294967295 (next + top) t top u by unfold guessF; rw [if_pos h]; rfl)
    go_enter Tryz.func183, Tryz.ntmps183
    go_wp2_with fail
    have K := digit_any 4294967295 (next + top) t top u w (by omega) (by omega) ht hv hu
    rw [show ((next + top : Nat) : Int) = (next : Int) + top by omega] at K
    refine K.mono ?_
    rintro e w1 ⟨rfl, rfl⟩
    clear K
    go_wp2_with fail
    go_ret
    exact ⟨ret_int (by rw [HG.out]), 0, rfl⟩
  · have hd : decide (v ≤ top) = false := by simp; omega
    have HG := Lib.hid (show guessF top next t v u = digF ((top * BB + next) / v) ((top * BB + next) % v) t v u by unfold guessF; rw [if_neg h])
    have hz := or_join64 (top * 4294967296) next (by omega) (by omega) hn
    rw [show ((top * 4294967296 : Nat) : Int) = (top : Int) * 4294967296 by omega] at hz
    have hq : (top * 4294967296 + next) / v < 4294967296 := by
      rw [Nat.div_lt_iff_lt_mul hv0]
      have : (top + 1) * 4294967296 ≤ v * 4294967296 := Nat.mul_le_mul_right _ (by omega)
      omega
    have hr : (top * 4294967296 + next) % v < v := Nat.mod_lt _ hv0
    have hv1 : ((v : Int) == 0) = false := by rw [beq_eq_false_iff_ne]; omega
    have hv2 : ¬ ((v : Int) = 0) := by omega
    have HZ := Lib.hid (show top * BB + next = top * 4294967296 + next from rfl)
    have hzz : top * 4294967296 + next < 18446744073709551616 := by omega
    generalize top * 4294967296 + next = z at *
    have K := fun W => digit_any (z / v) (z % v) t v u W hq (by omega) ht hv hu
    rw [Int.natCast_ediv, Int.natCast_emod] at K
    have HK := Lib.hid K
    have HQ := Lib.hid hq
    clear K hq hr
    go_enter Tryz.func183, Tryz.ntmps183
    go_wp2_with fail
    have hwr : IntKind.u64.wrap ((z : Int) / v) = (z : Int) / v := by
      have h1 := HQ.out
      rw [← Int.natCast_ediv]
      simp only [IntKind.wrap, IntKind.bits, IntKind.signed]
      generalize z / v = y at *
      simp
      omega
    go_quiet ((go_at_call 194; exact quiet_left (HK.out _)))
    clear hwr
    go_wp2_with fail
    go_ret
    exact ⟨ret_int (by rw [HG.out, HZ.out]), _, rfl⟩
end Go.Proofs.YtffdkakogeofmaaGreatDoor
namespace Go.Fl.Nm
open Go.RowKit Go.Fl

theorem and_mask64 (x : Nat) (h : x < 18446744073709551616) : bits .and .u64 (x : Int) 4294967295 = ((x % 4294967296 : Nat) : Int) := by
  have := bits_mask .u64 64 (by decide) (fun n h0 h1 => by simp [IntKind.wrap, IntKind.bits, IntKind.signed]; omega) 32 (by decide) (x : Int) (by omega) (by omega)
  have e : ((2 : Int) ^ 32 - 1) = 4294967295 := by decide
  rw [e] at this
  rw [this]; omega
/-- A step of take: what is left of a limb, and what is borrowed. -/
theorem take_limb (o m b : Nat) (ho : o < BB) (hm : m < BB) (hb : b ≤ 1) : ∃ d r : Nat, d < BB ∧ r ≤ 1 ∧ d + m + b = o + BB * r ∧
    IntKind.u64.wrap (IntKind.u64.wrap ((o : Int) - m) - b) % 4294967296 = d ∧ IntKind.u64.wrap (IntKind.u64.wrap ((o : Int) - m) - b) / 9223372036854775808 = r := by
  have hw : ∀ x : Int, IntKind.u64.wrap x = x % 18446744073709551616 := fun x => by simp [IntKind.wrap, IntKind.bits, IntKind.signed]
  rw [hw, hw]
  unfold BB at *
  by_cases h : o < m + b
  · exact ⟨o + 4294967296 - m - b, 1, by omega, by omega, by omega, by omega, by omega⟩
  · exact ⟨o - m - b, 0, by omega, by omega, by omega, by omega, by omega⟩
theorem take_step {us l v : List Nat} {i j n q y o cc bb d r : Nat} (hl : l.length = us.length) (hok : ok l) (hj : j + n < us.length) (hi : i < n)
    (hv : val l + BB ^ j * (q * val (v.take i)) = val us + BB ^ (j + i) * (cc + bb)) (hk : ∀ x, x < j ∨ j + i ≤ x → l[x]? = us[x]?)
    (hy : val (v.take (i + 1)) = val (v.take i) + BB ^ i * y) (ho : l[j + i]? = some o) (hd : d < BB) (he : d + (q * y + cc) % BB + bb = o + BB * r) :
    (l.set (j + i) d).length = us.length ∧ ok (l.set (j + i) d) ∧ val (l.set (j + i) d) + BB ^ j * (q * val (v.take (i + 1))) = val us + BB ^ (j + (i + 1)) * ((q * y + cc) / BB + r) ∧
      (∀ x, x < j ∨ j + (i + 1) ≤ x → (l.set (j + i) d)[x]? = us[x]?) := by
  refine ⟨by simp [hl], ok_set hok _ _ hd, ?_, fun x hx => by rw [at_set_ne _ (by omega)]; exact hk x (by omega)⟩
  have h1 := val_set d ho
  rw [hy, ← Nat.add_assoc j i 1, Nat.pow_succ, Nat.mul_assoc (BB ^ (j + i))]
  have e2 : BB ^ j * (q * (val (v.take i) + BB ^ i * y)) = BB ^ j * (q * val (v.take i)) + BB ^ (j + i) * (q * y) := by
    rw [Nat.mul_add q, Nat.mul_add, Nat.pow_add, Nat.mul_left_comm q, Nat.mul_assoc (BB ^ j)]
  rw [e2]
  have e3 : BB ^ (j + i) * (d + (q * y + cc) % BB + bb) = BB ^ (j + i) * (o + BB * r) := by rw [he]
  have e4 : BB ^ (j + i) * (q * y + cc) = BB ^ (j + i) * ((q * y + cc) % BB) + BB ^ (j + i) * (BB * ((q * y + cc) / BB)) := by rw [← Nat.mul_add, Nat.mod_add_div]
  simp only [Nat.mul_add] at e3 e4 h1 hv ⊢
  omega
theorem take_end {us l v : List Nat} {j n q o cc bb d r : Nat} (hl : l.length = us.length) (hok : ok l) (hj : j + n < us.length)
    (hv : val l + BB ^ j * (q * val v) = val us + BB ^ (j + n) * (cc + bb)) (hk : ∀ x, x < j ∨ j + n ≤ x → l[x]? = us[x]?)
    (ho : l[j + n]? = some o) (hd : d < BB) (he : d + cc + bb = o + BB * r) :
    (l.set (j + n) d).length = us.length ∧ ok (l.set (j + n) d) ∧ val (l.set (j + n) d) + BB ^ j * (q * val v) = val us + BB ^ (j + n + 1) * r ∧
      (∀ x, x < j ∨ j + n < x → (l.set (j + n) d)[x]? = us[x]?) := by
  refine ⟨by simp [hl], ok_set hok _ _ hd, ?_, fun x hx => by rw [at_set_ne _ (by omega)]; exact hk x (by omega)⟩
  have h1 := val_set d ho
  rw [Nat.pow_succ, Nat.mul_assoc (BB ^ (j + n))]
  have e3 : BB ^ (j + n) * (d + cc + bb) = BB ^ (j + n) * (o + BB * r) := by rw [he]
  simp only [Nat.mul_add] at e3 h1 hv ⊢
  omega
theorem grown_setCell (w : World) (g i : Nat) (v : Value) : w.grownBy (w.setCell ⟨g, i, none⟩ v) (some g) :=
  ⟨rfl, rfl, rfl, by simp [World.setCell], fun k _ hk => Below.heap_setCell w ⟨g, i, none⟩ v k (fun e => hk (by rw [e]))⟩
theorem grown_trans {a b c : World} {row : Option Nat} (h1 : a.grownBy b row) (h2 : b.grownBy c row) : a.grownBy c row :=
  ⟨h2.os.trans h1.os, h2.tape.trans h1.tape, h2.output.trans h1.output, Nat.le_trans h1.size h2.size, fun k hk hr => (h2.block k (by have := h1.size; omega) hr).trans (h1.block k hk hr)⟩
theorem grown_refl (w : World) (row : Option Nat) : w.grownBy w row := World.grownBy.refl w row
end Go.Fl.Nm

namespace Go.Proofs.YtffdkakogeofmaaGreatDoor
open Go.RowKit Go.Fl Go.Fl.Nm

def TakePost (w : World) (g j n q : Nat) (us v : List Nat) (e : Ending) (w' : World) : Prop :=
  ∃ (us' : List Nat) (r : Nat), e = .returned (.bool (decide (r = 1))) ∧ r ≤ 1 ∧ Hid (us'.length = us.length) ∧ Hid (ok us') ∧ Hid (Blk w' g tU (UA us')) ∧
    Hid (val us' + BB ^ j * (q * val v) = val us + BB ^ (j + n + 1) * r) ∧ Hid (∀ x, x < j ∨ j + n < x → us'[x]? = us[x]?) ∧ Hid (w.grownBy w' (some g))
def TakeRel (w : World) (g j n q : Nat) (us v : List Nat) (k : Nat) (cv bv iv : Value) (wr : World) : Prop :=
  ∃ (i cc bb : Nat) (l : List Nat), iv = .int .i64 i ∧ cv = .int .u64 cc ∧ bv = .int .u64 bb ∧ cc < 4294967296 ∧ bb ≤ 1 ∧ i ≤ n ∧ k = n - i ∧ Hid (l.length = us.length) ∧ Hid (ok l) ∧ Hid (Blk wr g tU (UA l)) ∧
    Hid (val l + BB ^ j * (q * val (v.take i)) = val us + BB ^ (j + i) * (cc + bb)) ∧ Hid (∀ x, x < j ∨ j + i ≤ x → l[x]? = us[x]?) ∧ Hid (w.grownBy wr (some g))

set_option maxHeartbeats 800000 in
set_option maxRecDepth 100000 in
theorem take_any (g j n C d q : Nat) (B : Option Addr) (us v : List Nat) (w : World) (hB : Blk w g tU (UA us)) (hok : ok us) (hj : j + n < us.length) (hul : us.length ≤ 200000) (hv : Sl w B n d v)
    (hne : ∀ b o, B = some ⟨b, o, none⟩ → b ≠ g) (hq : q < 4294967296) :
    Calls Tryz.prog 184 #[.slice (some ⟨g, j, none⟩) (n + 1) C, .slice B n d, .int .u64 q] w (TakePost w g j n q us v) := by
  have HV := Lib.hid hv
  have HNE := Lib.hid hne
  have HB := Lib.hid hB
  have HOK0 := Lib.hid hok
  have hjn : j + n < 200000 := by omega
  have HJ := Lib.hid hj
  clear hv hne hB hok hj hul
  go_enter Tryz.func184, Tryz.ntmps184
  go_wp2_with fail
  go_loopg [7, 8, 16] n (TakeRel w g j n q us v)
  case atStart => exact ⟨0, 0, 0, us, rfl, rfl, rfl, by omega, by omega, by omega, rfl, Lib.hid rfl, HOK0, HB, Lib.hid (by simp [val_nil]), Lib.hid (fun _ _ => rfl), Lib.hid (grown_refl _ _)⟩
  case round =>
    obtain ⟨i, cc, bb, l, rfl, rfl, rfl, hcc, hbb, hi, rfl, HLEN, HOK, HBK, HVV, HKK, HGR⟩ := hrel
    by_cases hin : i < n
    · obtain ⟨b1, o1, y, hA, hb1, hy, hyB, hcell1⟩ := HV.out.at_ hin
      subst hA
      have hc1 : wr.cell? ⟨b1, o1 + i, none⟩ = some (.int .u32 y) := HGR.out.cell hcell1 (by
        intro h
        injection h with h
        exact HNE.out b1 o1 rfl h)
      obtain ⟨o, ho⟩ : ∃ o, l[j + i]? = some o := ⟨_, List.getElem?_eq_getElem (by have := HJ.out; rw [HLEN.out]; omega)⟩
      have hoB := ok_at HOK.out ho
      have hg1 : wr.cell? ⟨g, j + i, none⟩ = some (.int .u32 o) := blkU_cell HBK.out ho
      have hg2 : wr.frozen? ⟨g, j + i, none⟩ = false := HBK.out.frozen _
      unfold BB at hyB
      obtain ⟨p1, p2, p3⟩ := mul_bd hq hyB
      have HPD := Lib.hid p3
      have hS64 : q * y + cc < 18446744073709551616 := by omega
      obtain ⟨dd, r, hd, hr, he, h32, h63⟩ := take_limb o ((q * y + cc) % BB) bb hoB (Nat.mod_lt _ BB_pos) hbb
      have HS := Lib.hid (take_step HLEN.out HOK.out HJ.out hin HVV.out HKK.out (val_take_succ hy) ho hd he)
      have hand := and_mask64 (q * y + cc) hS64
      have hSi : (q : Int) * y + cc = ((q * y + cc : Nat) : Int) := by simp
      have hlow : q * y + cc ≤ 18446744069414584320 := by omega
      have HM := Lib.hid (show (q * y + cc) % BB = (q * y + cc) % 4294967296 from rfl)
      rw [HM.out] at h32 h63
      have HY := Lib.hid hy
      clear hcell1 hy ho he HM
      generalize hS : q * y + cc = S at *
      have HSS := Lib.hid hS
      clear hS
      unfold BB at hoB hd
      generalize hm : S % 4294967296 = m at *
      have hmB : m < 4294967296 := by omega
      have HM := Lib.hid hm
      clear hm
      have H32 := Lib.hid h32
      have H63 := Lib.hid h63
      clear h32 h63 p3 hS64
      go_wp2_with fail
      go_roundg (n - (i + 1))
      case measure => omega
      case rel =>
        refine ⟨i + 1, S / BB, r, l.set (j + i) dd, by go_num, by unfold BB; simp, by rw [H63.out], by unfold BB; omega, hr, by omega, rfl, Lib.hid HS.out.1, Lib.hid HS.out.2.1, Lib.hid ?_, Lib.hid HS.out.2.2.1, Lib.hid HS.out.2.2.2, Lib.hid (grown_trans HGR.out (grown_setCell _ _ _ _))⟩
        rw [H32.out]
        exact blkU_set HBK.out _ dd
    · obtain rfl : i = n := by omega
      obtain ⟨o, ho⟩ : ∃ o, l[j + i]? = some o := ⟨_, List.getElem?_eq_getElem (by have := HJ.out; rw [HLEN.out]; omega)⟩
      have hoB := ok_at HOK.out ho
      have hg1 : wr.cell? ⟨g, j + i, none⟩ = some (.int .u32 o) := blkU_cell HBK.out ho
      have hg2 : wr.frozen? ⟨g, j + i, none⟩ = false := HBK.out.frozen _
      obtain ⟨dd, r, hd, hr, he, h32, h63⟩ := take_limb o cc bb hoB hcc hbb
      have HVE := HVV
      rw [List.take_of_length_le (by rw [HV.out.len]; omega)] at HVE
      have HS := Lib.hid (take_end HLEN.out HOK.out HJ.out HVE.out HKK.out ho hd he)
      have H32 := Lib.hid h32
      have H63 := Lib.hid h63
      clear ho he h32 h63
      unfold BB at hoB hd
      go_wp2_with fail
      go_ret
      refine ⟨l.set (j + i) dd, r, ret_bool ?_, hr, Lib.hid HS.out.1, Lib.hid HS.out.2.1, Lib.hid ?_, Lib.hid HS.out.2.2.1, Lib.hid HS.out.2.2.2, Lib.hid (grown_trans HGR.out (grown_setCell _ _ _ _))⟩
      · rw [H63.out, Bool.eq_iff_iff]
        simp
        omega
      · rw [H32.out]
        exact blkU_set HBK.out _ dd
end Go.Proofs.YtffdkakogeofmaaGreatDoor
namespace Go.Fl.Nm
open Go.RowKit Go.Fl

/-- A list of n + 2 limbs by its two last ones. -/
theorem val_top2 {l : List Nat} {m x y : Nat} (hok : ok l) (hl : l.length = m + 2) (hx : l[m + 1]? = some x) (hy : l[m]? = some y) : ∃ r, r < BB ^ m ∧ val l = (x * BB + y) * BB ^ m + r := by
  have h1 := val_take_succ hx
  rw [List.take_of_length_le (by omega)] at h1
  rw [val_take_succ hy] at h1
  have h2 := val_lt (ok_take hok m)
  rw [List.length_take, Nat.min_eq_left (by omega)] at h2
  refine ⟨_, h2, ?_⟩
  rw [h1, Nat.pow_succ, Nat.add_mul, Nat.mul_comm (BB ^ m) y, Nat.mul_assoc x, Nat.mul_comm x, Nat.mul_comm BB]
  omega
/-- What the upper limbs of a dividend and a divisor say of a digit of the quotient. -/
theorem digit_top {V W P v1 v2 t1 t2 t3 rv rw : Nat} (hV : V = (v1 * BB + v2) * P + rv) (hW : W = ((t1 * BB + t2) * BB + t3) * P + rw) (hrv : rv < P) (hrw : rw < P) (hv2 : v2 < BB)
    (hWV : W < BB * V) : t1 ≤ v1 ∧ (W / V) * (v1 * BB + v2) ≤ (t1 * BB + t2) * BB + t3 := by
  have hP : 0 < P := by omega
  have hQ := Nat.div_mul_le_self W V
  constructor
  · rcases Nat.lt_or_ge v1 t1 with h | h
    · exfalso
      have h1 : (v1 + 1) * BB * BB * P ≤ t1 * BB * BB * P := Nat.mul_le_mul_right _ (Nat.mul_le_mul_right _ (Nat.mul_le_mul_right _ h))
      have h2 : BB * V ≤ (v1 + 1) * BB * BB * P := by
        have h3 : V ≤ (v1 * BB + v2 + 1) * P := by rw [hV, Nat.add_mul _ 1 P]; omega
        have h4 : v1 * BB + v2 + 1 ≤ (v1 + 1) * BB := by rw [Nat.add_mul]; omega
        calc BB * V ≤ BB * ((v1 * BB + v2 + 1) * P) := Nat.mul_le_mul_left _ h3
          _ ≤ BB * (((v1 + 1) * BB) * P) := Nat.mul_le_mul_left _ (Nat.mul_le_mul_right _ h4)
          _ = (v1 + 1) * BB * BB * P := by rw [← Nat.mul_assoc, Nat.mul_comm BB]
      have h5 : t1 * BB * BB * P ≤ W := by
        rw [hW]
        have : t1 * BB * BB ≤ (t1 * BB + t2) * BB + t3 := by rw [Nat.add_mul]; omega
        exact Nat.le_trans (Nat.mul_le_mul_right _ this) (Nat.le_add_right _ _)
      omega
    · exact h
  · have h1 : (W / V) * (v1 * BB + v2) * P ≤ W := by
      refine Nat.le_trans ?_ hQ
      rw [hV, Nat.mul_assoc]
      exact Nat.mul_le_mul_left _ (Nat.le_add_right _ _)
    have h2 : (W / V) * (v1 * BB + v2) * P < ((t1 * BB + t2) * BB + t3 + 1) * P := by
      rw [Nat.add_mul _ 1 P]; omega
    have := Nat.lt_of_mul_lt_mul_right h2
    omega
theorem digit_near {V W P v1 v2 t1 t2 t3 rv rw x : Nat} (hV : V = (v1 * BB + v2) * P + rv) (hW : W = ((t1 * BB + t2) * BB + t3) * P + rw) (hrv : rv < P) (hv1 : 0 < v1) (hv2 : v2 < BB) (hx : x < BB)
    (h : x * v1 + BB ≤ t1 * BB + t2 ∨ x * (v1 * BB + v2) ≤ (t1 * BB + t2) * BB + t3) : x * V ≤ W + V := by
  rcases h with h | h
  · have h1 : x * V ≤ x * ((v1 + 1) * BB * P) := by
      apply Nat.mul_le_mul_left
      rw [hV]
      have : (v1 * BB + v2 + 1) * P ≤ (v1 + 1) * BB * P := Nat.mul_le_mul_right _ (by rw [Nat.add_mul]; omega)
      rw [Nat.add_mul _ 1 P] at this
      omega
    have h2 : x * ((v1 + 1) * BB * P) = (x * v1 + x) * (BB * P) := by rw [Nat.mul_assoc (v1 + 1), ← Nat.mul_assoc, Nat.mul_add, Nat.mul_one]
    have h3 : (x * v1 + x) * (BB * P) ≤ (t1 * BB + t2) * (BB * P) := Nat.mul_le_mul_right _ (by omega)
    have h4 : (t1 * BB + t2) * (BB * P) ≤ W := by
      rw [hW, ← Nat.mul_assoc, Nat.add_mul _ t3 P]; omega
    omega
  · have h1 : x * V ≤ x * ((v1 * BB + v2) * P) + x * P := by
      rw [hV, ← Nat.mul_add]
      exact Nat.mul_le_mul_left _ (by omega)
    have h2 : x * ((v1 * BB + v2) * P) ≤ ((t1 * BB + t2) * BB + t3) * P := by
      rw [← Nat.mul_assoc]; exact Nat.mul_le_mul_right _ h
    have h3 : x * P ≤ BB * P := Nat.mul_le_mul_right _ (by omega)
    have h4 : BB * P ≤ V := by
      rw [hV]
      have : 1 * BB ≤ v1 * BB := Nat.mul_le_mul_right _ hv1
      have : BB * P ≤ (v1 * BB + v2) * P := Nat.mul_le_mul_right _ (by omega)
      omega
    omega
theorem div_of_near {x V W : Nat} (hV : 0 < V) (h1 : W / V ≤ x) (h2 : x * V ≤ W + V) : x = W / V ∨ x = W / V + 1 := by
  have h3 : x ≤ W / V + 1 := by
    rcases Nat.lt_or_ge (W / V + 1) x with h | h
    · exfalso
      have h4 : (W / V + 2) * V ≤ x * V := Nat.mul_le_mul_right _ h
      have h5 : W < (W / V + 1) * V := by
        have := Nat.div_add_mod W V
        have := Nat.mod_lt W hV
        rw [Nat.add_mul, Nat.mul_comm (W / V)]; omega
      rw [Nat.add_mul] at h4 h5
      omega
    · exact h
  omega
/-- The lower part of a list does not matter for what is above. -/
theorem low_part {us : List Nat} {j : Nat} (hok : ok us) (hj : j ≤ us.length) : ∃ r, r < BB ^ j ∧ val us = r + BB ^ j * val (us.drop j) := by
  have h2 := val_lt (ok_take hok j)
  rw [List.length_take, Nat.min_eq_left hj] at h2
  exact ⟨_, h2, val_split us j hj⟩
theorem drop_small {us : List Nat} {j : Nat} {X : Nat} (hok : ok us) (hj : j ≤ us.length) (h : val us < BB ^ j * X) : val (us.drop j) < X := by
  obtain ⟨r, hr, e⟩ := low_part hok hj
  rw [e] at h
  exact Nat.lt_of_mul_lt_mul_left (Nat.lt_of_le_of_lt (Nat.le_add_left _ _) h)
theorem zero_above {us : List Nat} {k : Nat} (hok : ok us) (h : val us < BB ^ k) : ∀ i y, k ≤ i → us[i]? = some y → y = 0 := by
  intro i y hi hy
  have hl := (List.getElem?_eq_some_iff.1 hy).1
  have h1 := val_split us i (by omega)
  rw [val_drop hy] at h1
  rcases Nat.eq_zero_or_pos y with h0 | h0
  · exact h0
  · exfalso
    have h2 : BB ^ k ≤ BB ^ i := Nat.pow_le_pow_right BB_pos hi
    have h3 : BB ^ i * 1 ≤ BB ^ i * (y + BB * val (us.drop (i + 1))) := Nat.mul_le_mul_left _ (by omega)
    omega
theorem val_lt_of_zeros {us : List Nat} {k : Nat} (hok : ok us) (h : ∀ i y, k ≤ i → us[i]? = some y → y = 0) : val us < BB ^ k := by
  by_cases hk : k ≤ us.length
  · have h1 := val_split us k hk
    have h2 : val (us.drop k) = 0 := by
      apply val_zero_of
      intro x hx
      obtain ⟨i, hi⟩ := List.getElem?_of_mem hx
      rw [List.getElem?_drop] at hi
      exact h _ _ (by omega) hi
    have h3 := val_lt (ok_take hok k)
    rw [List.length_take, Nat.min_eq_left hk] at h3
    rw [h1, h2]; omega
  · exact Nat.lt_of_lt_of_le (val_lt hok) (Nat.pow_le_pow_right BB_pos (by omega))

/-- One digit: what guess gets, and what it means. 'us' has the dividend, 'v' the divisor of m + 2 limbs. -/
theorem round_guess {us v : List Nat} {j m t1 t2 t3 v1 v2 : Nat} (hok : ok us) (hv : ok v) (hvl : v.length = m + 2) (hj : j + (m + 2) < us.length) (hlt : val us < val v * BB ^ (j + 1))
    (h1 : us[j + (m + 2)]? = some t1) (h2 : us[j + (m + 1)]? = some t2) (h3 : us[j + m]? = some t3) (g1 : v[m + 1]? = some v1) (g2 : v[m]? = some v2) (hv1 : 0 < v1) :
    t1 ≤ v1 ∧ guessF t1 t2 t3 v1 v2 < BB ∧ (guessF t1 t2 t3 v1 v2 = val (us.drop j) / val v ∨ guessF t1 t2 t3 v1 v2 = val (us.drop j) / val v + 1) := by
  obtain ⟨rv, hrv, eV⟩ := val_top2 hv hvl g1 g2
  have hV : 0 < val v := by
    rw [eV]
    have : 0 < (v1 * BB + v2) * BB ^ m := Nat.mul_pos (by have := Nat.mul_pos hv1 BB_pos; omega) (Nat.pow_pos BB_pos)
    omega
  have hWV : val (us.drop j) < BB * val v := drop_small hok (by omega) (by rw [Nat.pow_succ, Nat.mul_comm, Nat.mul_assoc] at hlt; exact hlt)
  have hz : val (us.drop j) < BB ^ (m + 3) := by
    have := val_lt hv
    rw [hvl] at this
    calc val (us.drop j) < BB * val v := hWV
      _ ≤ BB * BB ^ (m + 2) := Nat.mul_le_mul_left _ (by omega)
      _ = BB ^ (m + 3) := by rw [Nat.mul_comm, ← Nat.pow_succ]
  have hW : val (us.drop j) = ((t1 * BB + t2) * BB + t3) * BB ^ m + val ((us.drop j).take m) := by
    have e0 := val_split (us.drop j) (m + 3) (by rw [List.length_drop]; omega)
    have e1 : val ((us.drop j).drop (m + 3)) = 0 := by
      apply val_zero_of
      intro x hx
      obtain ⟨i, hi⟩ := List.getElem?_of_mem hx
      rw [List.getElem?_drop] at hi
      exact zero_above (ok_drop hok j) hz _ _ (by omega) hi
    rw [e1, val_take_succ (x := t1) (by rw [List.getElem?_drop]; exact h1), val_take_succ (x := t2) (by rw [List.getElem?_drop]; exact h2), val_take_succ (x := t3) (by rw [List.getElem?_drop]; exact h3)] at e0
    have p1 : BB ^ (m + 1) = BB ^ m * BB := Nat.pow_succ _ _
    have p2 : BB ^ (m + 2) = BB ^ m * BB * BB := by rw [Nat.pow_succ, Nat.pow_succ]
    rw [p1, p2] at e0
    rw [e0]
    have a1 : (t1 * BB + t2) * BB + t3 = t1 * BB * BB + t2 * BB + t3 := by rw [Nat.add_mul]
    rw [a1, Nat.add_mul, Nat.add_mul]
    have a2 : BB ^ m * BB * BB * t1 = t1 * BB * BB * BB ^ m := by
      rw [Nat.mul_assoc (BB ^ m), Nat.mul_assoc (BB ^ m), Nat.mul_comm (BB ^ m), Nat.mul_comm (BB * BB) t1, ← Nat.mul_assoc]
    have a3 : BB ^ m * BB * t2 = t2 * BB * BB ^ m := by
      rw [Nat.mul_assoc, Nat.mul_comm (BB ^ m), Nat.mul_comm BB t2]
    have a4 : BB ^ m * t3 = t3 * BB ^ m := Nat.mul_comm _ _
    omega
  have hrw : val ((us.drop j).take m) < BB ^ m := by
    have := val_lt (ok_take (ok_drop hok j) m)
    rwa [List.length_take, List.length_drop, Nat.min_eq_left (by omega)] at this
  have hv2B := ok_at hv g2
  obtain ⟨htop, hQ⟩ := digit_top eV hW hrv hrw hv2B hWV
  have hQB : val (us.drop j) / val v < BB := by
    rw [Nat.div_lt_iff_lt_mul hV]; exact hWV
  obtain ⟨s1, s2, s3, s4⟩ := guessF_spec t1 t2 t3 v1 v2 (val (us.drop j) / val v) (ok_at hok h3) (ok_at hok h2) hv1 htop hQB hQ
  exact ⟨htop, s2, div_of_near hV s1 (digit_near eV hW hrv hv1 hv2B s2 s4)⟩

theorem ar_exact {u u' low PD PQ PR PP PV r : Nat} (e : u = low + PD) (he : u' + PQ = u + PP * r) (hd : PD = PQ + PR) (hub' : u' < PP) (hr : r ≤ 1) (hlow : low + PR < PV) : r = 0 ∧ u' + PQ = u ∧ u' < PV := by
  rcases Nat.eq_zero_or_pos r with h | h
  · subst h; rw [Nat.mul_zero] at he; exact ⟨rfl, by omega, by omega⟩
  · obtain rfl : r = 1 := by omega
    rw [Nat.mul_one] at he; omega
theorem ar_back {u u' low PD PQ PR PP PV r L S C O M : Nat} (e : u = low + PD) (he : u' + (PQ + PV) = u + PP * r) (hd : PD = PQ + PR) (hr : r ≤ 1) (hlow : low + PR < PV) (ha : L + C = u' + PV) (hS : S + O = L + M) (hub : S < PP)
    (hc : M = O + C ∨ M + PP = O + C) : r = 1 ∧ S + PQ = u ∧ S < PV := by
  rcases Nat.eq_zero_or_pos r with h | h
  · subst h; rw [Nat.mul_zero] at he; omega
  · obtain rfl : r = 1 := by omega
    rw [Nat.mul_one] at he
    exact ⟨rfl, by omega, by omega⟩
theorem low_rest {us : List Nat} {j V : Nat} (hok : ok us) (hj : j ≤ us.length) (hV : 0 < V) : ∃ low, val us = low + BB ^ j * val (us.drop j) ∧ BB ^ j * val (us.drop j) = BB ^ j * ((val (us.drop j) / V) * V) + BB ^ j * (val (us.drop j) % V) ∧ low + BB ^ j * (val (us.drop j) % V) < V * BB ^ j := by
  obtain ⟨low, hlow, e⟩ := low_part hok hj
  refine ⟨low, e, by rw [← Nat.mul_add, Nat.mul_comm (val (us.drop j) / V), Nat.div_add_mod], ?_⟩
  have hM2 := Nat.mod_lt (val (us.drop j)) hV
  have h3 : BB ^ j * (val (us.drop j) % V + 1) ≤ BB ^ j * V := Nat.mul_le_mul_left _ hM2
  rw [Nat.mul_add, Nat.mul_one] at h3
  rw [Nat.mul_comm V]
  generalize BB ^ j * (val (us.drop j) % V) = X at *
  generalize BB ^ j = P at *
  omega
theorem up_bound {us : List Nat} {j n V : Nat} (hlt : val us < V * BB ^ (j + 1)) (hvn : V < BB ^ n) : val us < BB ^ (j + n + 1) := by
  have h1 : V * BB ^ (j + 1) ≤ BB ^ n * BB ^ (j + 1) := Nat.mul_le_mul_right _ (Nat.le_of_lt hvn)
  rw [← Nat.pow_add, show n + (j + 1) = j + n + 1 by omega] at h1
  exact Nat.lt_of_lt_of_le hlt h1
/-- take with the digit itself. -/
theorem round_exact {us us' v : List Nat} {j n r : Nat} (hok : ok us) (hok' : ok us') (hl : us'.length = us.length) (hj : j + n < us.length) (hlt : val us < val v * BB ^ (j + 1)) (hvn : val v < BB ^ n) (hV : 0 < val v)
    (he : val us' + BB ^ j * ((val (us.drop j) / val v) * val v) = val us + BB ^ (j + n + 1) * r) (hk : ∀ x, x < j ∨ j + n < x → us'[x]? = us[x]?) (hr : r ≤ 1) :
    r = 0 ∧ val us' + BB ^ j * ((val (us.drop j) / val v) * val v) = val us ∧ val us' < val v * BB ^ j := by
  obtain ⟨low, e, hd, hlow⟩ := low_rest hok (show j ≤ us.length by omega) hV
  have hub' : val us' < BB ^ (j + n + 1) := val_lt_of_zeros hok' fun i y hi hy => zero_above hok (up_bound hlt hvn) i y hi (by rw [← hk i (by omega)]; exact hy)
  exact ar_exact e he hd hub' hr hlow
/-- take with one too much, and the divisor added again. -/
theorem round_back {us us' l v : List Nat} {j n r cc o : Nat} (hok : ok us) (hok' : ok us') (hokl : ok l) (hl : us'.length = us.length) (hll : l.length = us.length) (hj : j + n < us.length) (hlt : val us < val v * BB ^ (j + 1)) (hvn : val v < BB ^ n) (hV : 0 < val v)
    (he : val us' + BB ^ j * ((val (us.drop j) / val v + 1) * val v) = val us + BB ^ (j + n + 1) * r) (hk : ∀ x, x < j ∨ j + n < x → us'[x]? = us[x]?) (hr : r ≤ 1)
    (ha : val l + BB ^ (j + n) * cc = val us' + BB ^ j * val v) (hkl : ∀ x, x < j ∨ j + n ≤ x → l[x]? = us'[x]?) (ho : l[j + n]? = some o) (hoB : o < BB) (hcc : cc ≤ 1) :
    r = 1 ∧ val (l.set (j + n) ((o + cc) % BB)) + BB ^ j * ((val (us.drop j) / val v) * val v) = val us ∧ val (l.set (j + n) ((o + cc) % BB)) < val v * BB ^ j ∧ ok (l.set (j + n) ((o + cc) % BB)) ∧ (l.set (j + n) ((o + cc) % BB)).length = us.length := by
  obtain ⟨low, e, hd, hlow⟩ := low_rest hok (show j ≤ us.length by omega) hV
  have hokS : ok (l.set (j + n) ((o + cc) % BB)) := ok_set hokl _ _ (Nat.mod_lt _ BB_pos)
  have hubS : val (l.set (j + n) ((o + cc) % BB)) < BB ^ (j + n + 1) := val_lt_of_zeros hokS fun i y hi hy => zero_above hok (up_bound hlt hvn) i y hi (by
    rw [← hk i (by omega), ← hkl i (by omega)]
    rwa [at_set_ne _ (by omega)] at hy)
  have hS := val_set ((o + cc) % BB) ho
  rw [Nat.add_mul, Nat.mul_add, Nat.one_mul, Nat.mul_comm (BB ^ j) (val v)] at he
  rw [Nat.mul_comm (BB ^ j) (val v)] at ha
  have hc : BB ^ (j + n) * ((o + cc) % BB) = BB ^ (j + n) * o + BB ^ (j + n) * cc ∨ BB ^ (j + n) * ((o + cc) % BB) + BB ^ (j + n + 1) = BB ^ (j + n) * o + BB ^ (j + n) * cc := by
    by_cases hc : o + cc < BB
    · left; rw [Nat.mod_eq_of_lt hc, Nat.mul_add]
    · right
      have h4 : (o + cc) % BB + BB = o + cc := by
        rw [Nat.mod_eq_sub_mod (by omega), Nat.mod_eq_of_lt (by omega)]
        omega
      rw [Nat.pow_succ, ← Nat.mul_add, h4, Nat.mul_add]
  obtain ⟨h1, h2, h3⟩ := ar_back e he hd hr hlow ha hS hubS hc
  exact ⟨h1, h2, h3, hokS, by simp [hll]⟩
/-- The quotient so far. -/
theorem round_quo {ql : List Nat} {j Q V U0 u u' : Nat} (hj : j < ql.length) (h : u + V * BB ^ (j + 1) * val (ql.drop (j + 1)) = U0) (hu : u' + BB ^ j * (Q * V) = u) : u' + V * BB ^ j * val ((ql.set j Q).drop j) = U0 := by
  have h1 : (ql.set j Q)[j]? = some Q := by rw [List.getElem?_set_self hj]
  rw [val_drop h1, show (ql.set j Q).drop (j + 1) = ql.drop (j + 1) by rw [List.drop_set_of_lt (by omega)], Nat.mul_add, ← h, ← hu, Nat.pow_succ]
  have a1 : V * BB ^ j * Q = BB ^ j * (Q * V) := by rw [Nat.mul_comm V, Nat.mul_assoc, Nat.mul_comm V]
  have a2 : V * BB ^ j * (BB * val (ql.drop (j + 1))) = V * (BB ^ j * BB) * val (ql.drop (j + 1)) := by rw [← Nat.mul_assoc, Nat.mul_assoc V]
  omega
end Go.Fl.Nm
namespace Go.Proofs.YtffdkakogeofmaaGreatDoor
open Go.RowKit Go.Fl Go.Fl.Nm

def ClonePost (n : Nat) (l : List Nat) (w : World) (e : Ending) (w' : World) : Prop :=
  ∃ (A : Option Addr) (c : Nat), e = .returned (.slice A n c) ∧ Hid (Nw w' tU w.heap.size A n c l) ∧ Hid (Below w.heap.size w w')
theorem U_one (l : List Nat) : ∀ u ∈ U l, u.oneCell' = true := by
  intro u hu
  unfold U at hu
  obtain ⟨x, _, rfl⟩ := List.mem_map.1 hu
  rfl
set_option maxRecDepth 100000 in
theorem clone_any (A : Option Addr) (n c : Nat) (l : List Nat) (w : World) (h : Sl w A n c l) (hn : n ≤ 1000000) :
    Calls Tryz.prog 140 #[.slice A n c] w (ClonePost n l w) := by
  cases A with
  | none =>
    have hc := h.nil rfl
    have hcap := h.cap
    obtain rfl : n = 0 := by omega
    obtain rfl : l = [] := List.eq_nil_of_length_eq_zero h.len
    refine (Tryz.slices_Clone_nil 0 c w).mono ?_
    rintro e w' ⟨rfl, rfl⟩
    exact ⟨none, 0, rfl, Lib.hid (Nw.none_ _ _ _), Lib.hid (Below.refl _ _)⟩
  | some ad =>
    obtain ⟨i0, ti, tz0, tz1, tz2⟩ := info_parts Tryz.infoU32
    have H := Lib.hid h
    clear h
    have HOWN := Lib.hid (show (w.alloc (.cells #[] tU)).ownsRow w.heap.size tU 1 (.slice (some ⟨w.heap.size, 0, none⟩) 0 0) 0 [] from ⟨rfl, .inr ⟨w.heap.size, 0, #[], rfl, Nat.le_refl _, Blk.new _ _ _, Nat.le_refl _, by unfold maxLen; omega, rfl, rfl⟩⟩)
    have hnil : ∀ w : World, (binOp .eql 23 (.slice (some ad) n c) (.slice none 0 0)).run Tryz.prog w = .ok (.bool false) w := fun w => Lib.run_eql_slice_nil (h := Tryz.underlying23) ..
    go_enter Tryz.func140, Tryz.ntmps140
    go_wp2_with (at_builtin; refine wpList_append_rd _ rfl _ _ _ rfl w.heap.size 49 i0 _ 1 4 Tryz.underlying23 ti tz0 tz1 tz2 rfl (by omega) (.slice (some ⟨w.heap.size, 0, none⟩) 0 0) 0 [] rfl (by exact HOWN.out) (some ad) n c (by simp) (U l) rfl (by exact H.out.rd.alloc _) (U_one l) (by unfold maxLen; omega) (by omega) (by simp) ?_)
    intro v' w2 hown2 hgrow
    have HO2 := Lib.hid (show w2.ownsRow w.heap.size tU 1 v' n (U l) by simpa using hown2)
    have HL2 := Lib.hid (((Below.refl w.heap.size w).alloc (Nat.le_refl _) (.cells #[] tU)).trans (below_of_grown hgrow (by
      intro g hg
      have : w.heap.size = g := by simpa [Value.ownBlock] using hg
      omega) (by simp)))
    clear hown2 hgrow ti tz0 tz1 tz2 hnil
    go_wp2_with fail
    go_ret
    obtain ⟨A', c', rfl, hnw⟩ := Nw.of_own HO2.out H.out.ok
    exact ⟨A', c', rfl, Lib.hid hnw, HL2⟩

def DPost (N M v u : Nat) (w : World) (e : Ending) (w' : World) : Prop :=
  ∃ (A : Option Addr) (n c : Nat) (l : List Nat) (B : Option Addr) (m d : Nat) (r : List Nat), e = .returned (.tuple #[.slice A n c, .slice B m d]) ∧ Hid (Nw w' tU w.heap.size A n c l) ∧ Hid (Nw w' tU w.heap.size B m d r) ∧
    Hid (val l = v / u) ∧ Hid (val r = v % u) ∧ n ≤ N ∧ m ≤ M ∧ Hid (Below w.heap.size w w')

theorem trim_sl {w : World} {A : Option Addr} {n c : Nat} {a : List Nat} (ha : Sl w A n c a) : tl a ≤ n ∧ Sl w A (tl a) c (a.take (tl a)) := by
  have hta : tl a ≤ n := by rw [← ha.len]; exact tl_le a
  exact ⟨hta, ha.cut hta (by have := ha.cap; omega) ha.capMax ha.nil⟩

set_option maxHeartbeats 800000 in
set_option maxRecDepth 100000 in
/-- divide: the dividend is less than the divisor. -/
theorem divide_less (A B : Option Addr) (n c m d : Nat) (a b : List Nat) (w : World) (ha : Sl w A n c a) (hb : Sl w B m d b) (hn : n ≤ 100000) (hlt : val a < val b) :
    Calls Tryz.prog 168 #[.slice A n c, .slice B m d] w (DPost n (max n m) (val a) (val b) w) := by
  obtain ⟨hta, ha2⟩ := trim_sl ha
  obtain ⟨htb, hb2⟩ := trim_sl hb
  have HA := Lib.hid ha
  have HB := Lib.hid hb
  have HA2 := Lib.hid ha2
  have HB2 := Lib.hid hb2
  have HVA := Lib.hid (val_trim a)
  have HVB := Lib.hid (val_trim b)
  have HC := Lib.hid (cmpN_lt hlt)
  have HLT := Lib.hid hlt
  clear ha hb ha2 hb2 hlt
  generalize hx : tl a = x at *
  generalize hy : tl b = y at *
  have HX := Lib.hid hx
  have HY := Lib.hid hy
  clear hx hy
  go_enter Tryz.func168, Tryz.ntmps168
  go_wp2_with fail
  refine (trim_any A n c a w HA.out).mono ?_
  rintro e w1 ⟨rfl, rfl⟩
  rw [HX.out]
  go_wp2_with fail
  refine (trim_any B m d b w HB.out).mono ?_
  rintro e w1 ⟨rfl, rfl⟩
  rw [HY.out]
  go_wp2_with fail
  refine (cmp_any A B x c y d _ _ w HA2.out HB2.out).mono ?_
  rw [HVA.out, HVB.out, HC.out]
  rintro e w1 ⟨rfl, q, hq⟩
  have HA3 := Lib.hid (show Sl w1 A x c (a.take x) by rw [hq]; exact HA2.out.drewN q)
  have HL1 := Lib.hid (show Below w.heap.size w w1 by rw [hq]; exact below_drewN (Below.refl _ _) q)
  have hs1 : w1.heap.size = w.heap.size := by rw [hq]; rfl
  have HS1 := Lib.hid hs1
  clear hq hs1
  go_wp2_with fail
  refine (clone_any A x c _ w1 HA3.out (by omega)).mono ?_
  rintro e w2 ⟨A2, c2, rfl, HN2, HL2⟩
  rw [HS1.out] at HN2 HL2
  go_wp2_with fail
  refine bodyPost_ret (v := .tuple #[.slice none 0 0, .slice A2 x c2]) (by simp [results, Tryz.results168, go_sem]) rfl ?_
  exact ⟨none, 0, 0, [], A2, x, c2, _, rfl, Lib.hid (Nw.none_ _ _ _), HN2, Lib.hid (by rw [Nat.div_eq_of_lt HLT.out]; rfl), Lib.hid (by rw [HVA.out, Nat.mod_eq_of_lt HLT.out]), by omega, by omega, Lib.hid (HL1.out.trans HL2.out)⟩

set_option maxHeartbeats 800000 in
set_option maxRecDepth 100000 in
/-- divide: the divisor has one limb. -/
theorem divide_one (A B : Option Addr) (n c m d : Nat) (a b : List Nat) (w : World) (ha : Sl w A n c a) (hb : Sl w B m d b) (hn : n ≤ 100000) (hle : val b ≤ val a) (h1 : tl b = 1) :
    Calls Tryz.prog 168 #[.slice A n c, .slice B m d] w (DPost n (max n m) (val a) (val b) w) := by
  obtain ⟨hta, ha2⟩ := trim_sl ha
  obtain ⟨htb, hb2⟩ := trim_sl hb
  rw [h1] at htb hb2
  obtain ⟨b1, o1, y, hB, hb1, hy, hyB, hcell⟩ := hb2.at_ (i := 0) (by omega)
  subst hB
  have hvy : val b = y := by
    have := val_trim b
    rw [h1, show (1 : Nat) = 0 + 1 from rfl, val_take_succ (x := y) (by rw [List.getElem?_take_of_lt (by omega)] at hy; exact hy)] at this
    simp [val_nil] at this
    exact this.symm
  have hy0 : 0 < y := by
    have : y ≠ 0 := tl_last (l := b) (by omega) (by rw [h1]; rw [List.getElem?_take_of_lt (by omega)] at hy; exact hy)
    omega
  have HA := Lib.hid ha
  have HB := Lib.hid hb
  have HA2 := Lib.hid ha2
  have HB2 := Lib.hid hb2
  have HVA := Lib.hid (val_trim a)
  have HVB := Lib.hid (val_trim b)
  rw [h1] at HVB
  have hc0 := cmpN_range (val a) (val b)
  have hc1 : ¬ cmpN (val a) (val b) < 0 := fun h => by have := (cmpN_neg _ _).1 h; omega
  generalize hcc : cmpN (val a) (val b) = cc at *
  have HCC := Lib.hid hcc
  have hdc : decide (cc < 0) = false := by simpa using hc1
  have HVY := Lib.hid hvy
  have HY := Lib.hid h1
  clear ha hb ha2 hb2 hle hvy hy h1 hcc hc1
  generalize hx : tl a = x at *
  have HX := Lib.hid hx
  clear hx
  unfold BB at hyB
  go_enter Tryz.func168, Tryz.ntmps168
  go_wp2_with fail
  refine (trim_any A n c a w HA.out).mono ?_
  rintro e w1 ⟨rfl, rfl⟩
  rw [HX.out]
  go_wp2_with fail
  refine (trim_any _ m d b w HB.out).mono ?_
  rintro e w1 ⟨rfl, rfl⟩
  rw [HY.out]
  go_wp2_with fail
  refine (cmp_any A _ x c 1 d _ _ w HA2.out HB2.out).mono ?_
  rw [HVA.out, HVB.out, HCC.out]
  rintro e w1 ⟨rfl, q, hq⟩
  have HA3 := Lib.hid (show Sl w1 A x c (a.take x) by rw [hq]; exact HA2.out.drewN q)
  have HL1 := Lib.hid (show Below w.heap.size w w1 by rw [hq]; exact below_drewN (Below.refl _ _) q)
  have HS1 := Lib.hid (show w1.heap.size = w.heap.size by rw [hq]; rfl)
  have hc1 : w1.cell? ⟨b1, o1, none⟩ = some (.int .u32 y) := by rw [hq]; exact hcell
  clear hq hcell
  go_wp2_with fail
  refine (short_any A x c y _ w1 HA3.out (by omega) hy0 hyB).mono ?_
  rintro e w2 ⟨A2, c2, l2, rfl, HN2, HV2, HL2⟩
  rw [HS1.out] at HN2 HL2
  rw [HVA.out, ← HVY.out] at HV2 ⊢
  have hs2 := HL2.out.size
  rw [HS1.out] at hs2
  go_wp2_with fail
  refine bodyPost_ret (v := .tuple #[.slice A2 x c2, .slice (some ⟨w2.heap.size, 0, none⟩) 1 1]) (by simp [results, Tryz.results168, go_sem]) rfl ?_
  have hmod : val a % val b < BB := Nat.lt_trans (Nat.mod_lt _ (by rw [HVY.out]; exact hy0)) (by rw [HVY.out]; exact hyB)
  have hblk := Blk.new w2 tU (UA [val a % val b])
  refine ⟨A2, x, c2, l2, _, 1, 1, [val a % val b], rfl, Lib.hid (HN2.out.alloc _), Lib.hid (Nw.of_blk (l := [val a % val b]) ?_ (ok_cons.2 ⟨hmod, ok_nil⟩) hs2 rfl (by unfold maxLen; omega)), HV2, Lib.hid (by simp [val_cons, val_nil]), by omega, by omega, Lib.hid ((HL1.out.trans HL2.out).alloc hs2 _)⟩
  exact hblk
end Go.Proofs.YtffdkakogeofmaaGreatDoor
