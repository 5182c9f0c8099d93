/-
  The walk of shr.
  The walk of shl.
  Digits of quotients: digit, guess.
  The walk of take.
  Plain mathematics of the long division.
  The walk of divide: small numbers, and one limb.
-/
import Derived.Test.YtoogeihbhhcpaaaGreatDoorPkC
import Derived.Lib.LazyBuf
set_option linter.unusedVariables false
namespace Go.Fl.Nm
open Go.RowKit Go.Fl

theorem or_join64b (x y : Nat) (hx : x < 4294967296) (hy : y < 4294967296) : bits .or .u64 (x : Int) ((y : Int) * 4294967296) = (x : Int) + y * 4294967296 := by
  have h := or_join64 (y * 4294967296) x (by omega) (by omega) hx
  have hb := fun a b (ha : a < 2 ^ 64) (hb : b < 2 ^ 64) => (bits_nat .u64 64 (by decide) (fun n h0 h1 => by simp [IntKind.wrap, IntKind.bits, IntKind.signed]; omega) a b ha hb).2
  have e : (y : Int) * 4294967296 = ((y * 4294967296 : Nat) : Int) := by omega
  rw [e, hb x (y * 4294967296) (by omega) (by omega), Nat.or_comm, ← hb (y * 4294967296) x (by omega) (by omega), h]
  omega
theorem pow_split (n : Nat) : 2 ^ n = BB ^ (n / 32) * 2 ^ (n % 32) := by
  rw [BB_pow, ← Nat.pow_mul, ← Nat.pow_add, Nat.div_add_mod]
theorem BB_dvd (s : Nat) (hs : s < 32) : ∃ c, BB = 2 ^ s * c := ⟨2 ^ (32 - s), by rw [← Nat.pow_add, BB_pow]; congr 1; omega⟩
/-- The limb at the head of a shifted number. -/
theorem shr_limb (x y v s : Nat) (hs : s < 32) (hx : x < BB) : (x + BB * (y + BB * v)) / 2 ^ s = ((x + y * BB) / 2 ^ s) % BB + BB * ((y + BB * v) / 2 ^ s) := by
  obtain ⟨c, hc⟩ := BB_dvd s hs
  have hp : 0 < 2 ^ s := Nat.two_pow_pos s
  have h1 : (x + BB * (y + BB * v)) / 2 ^ s / BB = (y + BB * v) / 2 ^ s := by
    rw [Nat.div_div_eq_div_mul, Nat.mul_comm (2 ^ s) BB, ← Nat.div_div_eq_div_mul, Nat.add_mul_div_left _ _ BB_pos, Nat.div_eq_of_lt hx, Nat.zero_add]
  have h2 : (x + BB * (y + BB * v)) / 2 ^ s % BB = ((x + y * BB) / 2 ^ s) % BB := by
    have : x + BB * (y + BB * v) = x + y * BB + 2 ^ s * (BB * (c * v)) := by
      rw [Nat.mul_add, Nat.mul_comm BB y, Nat.add_assoc]
      congr 2
      calc BB * (BB * v) = (2 ^ s * c) * (BB * v) := by rw [← hc]
        _ = 2 ^ s * (BB * (c * v)) := by rw [Nat.mul_assoc, Nat.mul_left_comm c BB v]
    rw [this, Nat.add_mul_div_left _ _ hp, Nat.add_mul_mod_self_left]
  have := Nat.mod_add_div ((x + BB * (y + BB * v)) / 2 ^ s) BB
  rw [h1, h2] at this
  exact this.symm
end Go.Fl.Nm

namespace Go.Proofs.YtoogeihbhhcpaaaGreatDoor
open Go.RowKit Go.Fl Go.Fl.Nm

theorem shr_cast (q y s : Nat) : (((q + y * BB) / 2 ^ s % BB : Nat) : Int) = ((q : Int) + y * 4294967296) / 2 ^ s % 4294967296 := by
  unfold BB; simp

def ShrRel (w : World) (g n s : Nat) (a : List Nat) (k : Nat) (iv : Value) (wr : World) : Prop :=
  ∃ (i : Nat) (l : List Nat), iv = .int .i64 i ∧ i ≤ n ∧ k = n - i ∧ Hid (l.length = n) ∧ Hid (ok l) ∧ Hid (Blk wr g tU (UA l)) ∧
    Hid (val l + BB ^ i * (val (a.drop i) / 2 ^ s) = val a / 2 ^ s) ∧ Hid (∀ j, i ≤ j → j < n → l[j]? = some 0) ∧ Hid (Below w.heap.size w wr)
theorem shr_step {l a : List Nat} {i n s x y v : Nat} (hl : l.length = n) (hok : ok l) (hi : i < n) (hs : s < 32) (hv : val l + BB ^ i * (val (a.drop i) / 2 ^ s) = val a / 2 ^ s)
    (hz : ∀ j, i ≤ j → j < n → l[j]? = some 0) (hx : a[i]? = some x) (hxB : x < BB) (hy : val (a.drop (i + 1)) = y + BB * v) :
    (l.set i (((x + y * BB) / 2 ^ s) % BB)).length = n ∧ ok (l.set i (((x + y * BB) / 2 ^ s) % BB)) ∧
      val (l.set i (((x + y * BB) / 2 ^ s) % BB)) + BB ^ (i + 1) * (val (a.drop (i + 1)) / 2 ^ s) = val a / 2 ^ s ∧ (∀ j, i + 1 ≤ j → j < n → (l.set i (((x + y * BB) / 2 ^ s) % BB))[j]? = some 0) := by
  refine ⟨by simp [hl], ok_set hok _ _ (Nat.mod_lt _ BB_pos), ?_, fun j h1 h2 => by rw [at_set_ne _ (by omega)]; exact hz j (by omega) h2⟩
  rw [val_set0 _ (hz i (by omega) hi), ← hv, val_drop hx, hy, shr_limb x y v s hs hxB, Nat.pow_succ, Nat.mul_add, Nat.mul_assoc]
  omega

set_option maxHeartbeats 800000 in
set_option maxRecDepth 100000 in
theorem shr_any (A : Option Addr) (n c p : Nat) (a : List Nat) (w : World) (ha : Sl w A n c a) (hn : n ≤ 100000) (hp : p ≤ 100000000) :
    Calls Tryz.prog 148 #[.slice A n c, .int .i64 p] w (Fv n (val a / 2 ^ p) w) := by
  have HA := Lib.hid ha
  have hta : tl a ≤ n := by rw [← ha.len]; exact tl_le a
  have hcap := ha.cap
  have hcm := ha.capMax
  unfold maxLen at hcm
  have HA2 := Lib.hid (ha.cut (m := tl a) (c' := c) (by omega) (by have := ha.cap; omega) ha.capMax ha.nil)
  have HVA := Lib.hid (val_trim a)
  have HVL := Lib.hid (val_lt_tl ha.ok)
  clear ha
  generalize hx : tl a = x at *
  have HX := Lib.hid hx
  clear hx
  have HP := Lib.hid (pow_split p)
  generalize hk : p / 32 = k at *
  generalize hs : p % 32 = s at *
  have hs32 : s < 32 := by omega
  have hd1 : (p : Int) / 32 = k := by omega
  have hd2 : (p : Int) % 32 = s := by omega
  clear hk hs
  by_cases hkx : x ≤ k
  · have HV := Lib.hid (show val a / 2 ^ p = 0 by
      apply Nat.div_eq_of_lt
      rw [HP.out]
      have h1 := HVL.out
      have h2 : BB ^ x ≤ BB ^ k := Nat.pow_le_pow_right BB_pos hkx
      have h3 : BB ^ k * 1 ≤ BB ^ k * 2 ^ s := Nat.mul_le_mul_left _ (Nat.two_pow_pos s)
      omega)
    go_enter Tryz.func148, Tryz.ntmps148
    go_wp2_with fail
    refine (trim_any A n c a w HA.out).mono ?_
    rintro e w1 ⟨rfl, rfl⟩
    rw [HX.out]
    go_wp2_with fail
    go_ret
    exact ⟨none, 0, 0, [], rfl, Lib.hid (Nw.none_ _ _ _), Lib.hid (by rw [HV.out]; rfl), by omega, Lib.hid (Below.refl _ _)⟩
  · obtain ⟨b1, o1, rfl, hb1⟩ : ∃ b1 o1, A = some ⟨b1, o1, none⟩ ∧ b1 < w.heap.size := by
      obtain ⟨b, off, _, hA, hb, _⟩ := HA2.out.at_ (i := 0) (by omega)
      exact ⟨_, _, hA, hb⟩
    obtain ⟨L, rfl⟩ : ∃ L, x = k + L := ⟨x - k, by omega⟩
    have hL : 0 < L := by omega
    clear hkx
    obtain ⟨l, hl⟩ : ∃ l, l = (a.take (k + L)).drop k := ⟨_, rfl⟩
    have HLL := Lib.hid (show l.length = L by rw [hl, List.length_drop, HA2.out.len]; omega)
    have HVV := Lib.hid (show val a / 2 ^ p = val l / 2 ^ s by
      rw [HP.out, ← Nat.div_div_eq_div_mul]
      congr 1
      have h1 := val_split (a.take (k + L)) k (by rw [HA2.out.len]; omega)
      rw [HVA.out, ← hl] at h1
      have h2 := val_lt (ok_take HA2.out.ok k)
      rw [List.length_take, HA2.out.len, Nat.min_eq_left (by omega)] at h2
      rw [h1, Nat.add_mul_div_left _ _ (Nat.pow_pos BB_pos), Nat.div_eq_of_lt h2, Nat.zero_add])
    have HAT := Lib.hid (show ∀ i, i < L → ∃ q, l[i]? = some q ∧ q < BB ∧ w.cell? ⟨b1, o1 + k + i, none⟩ = some (.int .u32 q) from fun i hi => by
      obtain ⟨b, off, q, hA, _, hq, hqB, hcell⟩ := HA2.out.at_ (i := k + i) (by omega)
      injection hA with hA
      injection hA with h1 h2
      subst h1 h2
      exact ⟨q, by rw [hl, List.getElem?_drop]; exact hq, hqB, by rw [Nat.add_assoc]; exact hcell⟩)
    clear hl
    have hmk := make_u32 L L (L : Int) (L : Int) (by omega) (by omega) (by omega) (by omega)
    have HB0 := Lib.hid (Blk.new w tU (UA (zeros L)))
    have HL0 := Lib.hid ((Below.refl w.heap.size w).alloc (Nat.le_refl _) (.cells (UA (zeros L)) tU))
    have hkL : decide (k + L ≤ k) = false := by simp; omega
    go_enter Tryz.func148, Tryz.ntmps148
    go_wp2_with fail
    refine (trim_any _ n c a w HA.out).mono ?_
    rintro e w1 ⟨rfl, rfl⟩
    rw [HX.out]
    go_wp2_with fail
    clear hmk
    go_loopg [25] L (ShrRel w w.heap.size L s l)
    case atStart => exact ⟨0, zeros L, rfl, by omega, rfl, Lib.hid (zeros_len _), Lib.hid (ok_zeros _), HB0, Lib.hid (by simp [zeros, val_zeros]), Lib.hid (fun j _ h => zeros_at _ j h), HL0⟩
    case round =>
      obtain ⟨i, ol, rfl, hi, rfl, HLEN, HOK, HBK, HV, HZ, HBL⟩ := hrel
      by_cases hin : i < L
      · obtain ⟨q, hq, hqB, hcell1⟩ := HAT.out i hin
        have hc1 : wr.cell? ⟨b1, o1 + k + i, none⟩ = some (.int .u32 q) := (HBL.out.cell (p := ⟨b1, _, none⟩) hb1).trans hcell1
        have HQ := Lib.hid hq
        clear hcell1 hq
        have hg1 : wr.cell? ⟨w.heap.size, i, none⟩ = some (.int .u32 (0 : Nat)) := blkU_cell HBK.out (HZ.out i (by omega) (by omega))
        have hg2 : wr.frozen? ⟨w.heap.size, i, none⟩ = false := HBK.out.frozen i
        by_cases hin2 : i + 1 < L
        · obtain ⟨y, hy, hyB, hcell2⟩ := HAT.out (i + 1) hin2
          have hc2 : wr.cell? ⟨b1, o1 + k + (i + 1), none⟩ = some (.int .u32 y) := (HBL.out.cell (p := ⟨b1, _, none⟩) hb1).trans hcell2
          have HS := Lib.hid (shr_step HLEN.out HOK.out hin hs32 HV.out HZ.out HQ.out hqB (val_drop hy))
          clear hcell2 hy
          unfold BB at hqB hyB
          have hor := or_join64b q y hqB hyB
          go_wp2_with fail
          go_roundg (L - (i + 1))
          case measure => omega
          case rel =>
            refine ⟨i + 1, ol.set i ((q + y * BB) / 2 ^ s % BB), by go_num, by omega, rfl, Lib.hid HS.out.1, Lib.hid HS.out.2.1, Lib.hid ?_, Lib.hid HS.out.2.2.1, Lib.hid HS.out.2.2.2, Lib.hid (HBL.out.setCell (Nat.le_refl _) _)⟩
            have := blkU_set HBK.out i ((q + y * BB) / 2 ^ s % BB)
            rw [shr_cast] at this
            exact this
        · have hd0 : val (l.drop (i + 1)) = 0 + BB * 0 := by
            rw [List.drop_eq_nil_of_le (by rw [HLL.out]; omega)]; simp [val_nil]
          have HS := Lib.hid (shr_step HLEN.out HOK.out hin hs32 HV.out HZ.out HQ.out hqB hd0)
          clear hd0
          unfold BB at hqB
          have hin2' : decide ((i : Int) + 1 < L) = false := by simp; omega
          go_wp2_with fail
          go_roundg (L - (i + 1))
          case measure => omega
          case rel =>
            refine ⟨i + 1, ol.set i ((q + 0 * BB) / 2 ^ s % BB), by go_num, by omega, rfl, Lib.hid HS.out.1, Lib.hid HS.out.2.1, Lib.hid ?_, Lib.hid HS.out.2.2.1, Lib.hid HS.out.2.2.2, Lib.hid (HBL.out.setCell (Nat.le_refl _) _)⟩
            have := blkU_set HBK.out i ((q + 0 * BB) / 2 ^ s % BB)
            rw [shr_cast] at this
            simpa using this
      · obtain rfl : i = L := by omega
        go_wp2_with fail
        go_ret
        refine ⟨_, _, _, ol, rfl, Lib.hid (Nw.of_blk HBK.out HOK.out (Nat.le_refl _) HLEN.out (by unfold maxLen; omega)), Lib.hid ?_, by omega, HBL⟩
        have h1 := HV.out
        rw [List.drop_eq_nil_of_le (by rw [HLL.out]; omega)] at h1
        rw [HVV.out, ← h1]
        simp [val_nil]
end Go.Proofs.YtoogeihbhhcpaaaGreatDoor
namespace Go.Fl.Nm
open Go.RowKit Go.Fl

theorem two_pow_le31 (s : Nat) (h : s < 32) : 2 ^ s ≤ 2147483648 := by
  have : 2 ^ s ≤ 2 ^ 31 := Nat.pow_le_pow_right (by omega) (by omega)
  simpa using this
theorem shl_lt (x s cc : Nat) (hx : x < BB) (hs : s < 32) (hc : cc < 2 ^ s) : x * 2 ^ s + cc < BB * 2 ^ s := by
  have : (x + 1) * 2 ^ s ≤ BB * 2 ^ s := Nat.mul_le_mul_right _ hx
  rw [Nat.add_mul] at this
  omega
theorem or_shl (x s cc : Nat) (hx : x < 4294967296) (hs : s < 32) (hc : cc < 2 ^ s) : bits .or .u64 ((x : Int) * 2 ^ s) (cc : Int) = (x : Int) * 2 ^ s + cc := by
  have h1 := shl_lt x s cc hx hs hc
  have h2 := two_pow_le31 s hs
  have e : (x : Int) * 2 ^ s = ((x * 2 ^ s : Nat) : Int) := by simp
  have h3 : BB * 2 ^ s ≤ BB * 2147483648 := Nat.mul_le_mul_left _ h2
  unfold BB at h1 h3
  rw [e]
  have := bits_join .u64 64 (by decide) (fun n h0 h1 => by simp [IntKind.wrap, IntKind.bits, IntKind.signed]; omega) s ((x * 2 ^ s : Nat) : Int) cc (by omega)
    (by
      have : (2 : Int) ^ s = ((2 ^ s : Nat) : Int) := by simp
      rw [this, ← Int.natCast_emod, Nat.mul_mod_left]; rfl) (by omega) (by omega)
    (by
      have : (2 : Int) ^ s = ((2 ^ s : Nat) : Int) := by simp
      rw [this]; omega) (by omega)
  exact this

theorem Nw.of_own {w : World} {t : TypeId} {base n : Nat} {v : Value} {l : List Nat} (h : w.ownsRow base t 1 v n (U l)) (hok : ok l) : ∃ A c, v = .slice A n c ∧ Nw w t base A n c l := by
  have hl : l.length = n := by have := h.1; rw [U_len] at this; omega
  obtain ⟨A, c, hv, hrd, hnc, hcm⟩ := Rd.of_own h
  rcases h.2 with ⟨h1, h2⟩ | ⟨g, cap, cur, h1, hb, hg, _, _, _, _⟩
  · rw [h1] at hv
    injection hv with h3 h4 h5
    subst h3 h4 h5
    exact ⟨none, 0, h1, ⟨hl, hok, by omega, hcm, fun _ => rfl, hrd⟩, fun h => absurd h (by omega)⟩
  · rw [h1] at hv
    injection hv with h3 h4 h5
    subst h3 h5
    exact ⟨_, _, h1, ⟨hl, hok, hnc, hcm, fun h => (by cases h), hrd⟩, fun _ => ⟨g, cur, rfl, hb, hg⟩⟩
end Go.Fl.Nm

namespace Go.Proofs.YtoogeihbhhcpaaaGreatDoor
open Go.RowKit Go.Fl Go.Fl.Nm

theorem below_of_grown {B : Nat} {w w' : World} {row : Option Nat} (h : w.grownBy w' row) (hr : ∀ g, row = some g → B ≤ g) (hB : B ≤ w.heap.size) : Below B w w' :=
  ⟨h.os, h.tape, h.output, h.size, fun k hk => h.block k (by omega) (fun e => by have := hr k e.symm; omega)⟩

def ShlRel (w : World) (k x s : Nat) (a : List Nat) (m : Nat) (vv cv iv : Value) (wr : World) : Prop :=
  ∃ (i cc : Nat) (o : List Nat), iv = .int .i64 i ∧ cv = .int .u64 cc ∧ cc < 2 ^ s ∧ i ≤ x ∧ m = x - i ∧ Hid (o.length = k + i) ∧ Hid (ok o) ∧ vv = .slice (some ⟨w.heap.size, 0, none⟩) (k + i) (k + x + 1) ∧ Hid (wr.ownsRow w.heap.size tU 1 (.slice (some ⟨w.heap.size, 0, none⟩) (k + i) (k + x + 1)) (k + i) (U o)) ∧
    Hid (val o + BB ^ (k + i) * cc = BB ^ k * (2 ^ s * val (a.take i))) ∧ Hid (Below w.heap.size w wr)
theorem shl_step {o a : List Nat} {i k x s cc : Nat} (hl : o.length = k + i) (hok : ok o) (hv : val o + BB ^ (k + i) * cc = BB ^ k * (2 ^ s * val (a.take i))) (ha : val (a.take (i + 1)) = val (a.take i) + BB ^ i * x) :
    (o ++ [(x * 2 ^ s + cc) % BB]).length = k + (i + 1) ∧ ok (o ++ [(x * 2 ^ s + cc) % BB]) ∧ val (o ++ [(x * 2 ^ s + cc) % BB]) + BB ^ (k + (i + 1)) * ((x * 2 ^ s + cc) / BB) = BB ^ k * (2 ^ s * val (a.take (i + 1))) := by
  refine ⟨by simp [hl]; omega, ok_append.2 ⟨hok, ok_cons.2 ⟨Nat.mod_lt _ BB_pos, ok_nil⟩⟩, ?_⟩
  rw [val_snoc, hl, ← Nat.add_assoc k i 1, Nat.pow_succ BB (k + i), Nat.mul_assoc (BB ^ (k + i)), Nat.add_assoc, ← Nat.mul_add, Nat.mod_add_div, ha, Nat.mul_add (2 ^ s), Nat.mul_add (BB ^ k), ← hv, Nat.mul_add, Nat.pow_add, Nat.mul_comm x]
  have : BB ^ k * BB ^ i * (2 ^ s * x) = BB ^ k * (2 ^ s * (BB ^ i * x)) := by rw [Nat.mul_assoc, Nat.mul_left_comm (BB ^ i)]
  omega
theorem shl_end {o a : List Nat} {k x s p cc : Nat} (hl : o.length = k + x) (hok : ok o) (hv : val o + BB ^ (k + x) * cc = BB ^ k * (2 ^ s * val a)) (hp : 2 ^ p = BB ^ k * 2 ^ s) (hc : cc < BB) :
    ok (o ++ [cc]) ∧ val (o ++ [cc]) = val a * 2 ^ p := by
  refine ⟨ok_append.2 ⟨hok, ok_cons.2 ⟨hc, ok_nil⟩⟩, ?_⟩
  rw [val_snoc, hl, hv, hp, Nat.mul_comm (val a), Nat.mul_assoc]

/-- What shl returns: a block of just the limbs of the product. -/
def ShlPost (N v : Nat) (w : World) (e : Ending) (w' : World) : Prop :=
  ∃ l : List Nat, e = .returned (.slice (some ⟨w.heap.size, 0, none⟩) N N) ∧ Hid (Blk w' w.heap.size tU (UA l)) ∧ Hid (l.length = N) ∧ Hid (ok l) ∧ Hid (val l = v) ∧ Hid (Below w.heap.size w w')
theorem blk_of_own {w : World} {g n base : Nat} {l : List Nat} (h : w.ownsRow base tU 1 (.slice (some ⟨g, 0, none⟩) n n) n (U l)) : Blk w g tU (UA l) := by
  rcases h.2 with ⟨h1, _⟩ | ⟨g', cap, cur, h1, _, hg, _, _, hc, ht⟩
  · cases h1
  · injection h1 with h1 h2 h3
    injection h1 with h1
    injection h1 with h1
    subst h1 h3
    rw [List.take_of_length_le (by simp; omega)] at ht
    unfold Blk UA
    rw [← ht]
    simpa using hg

set_option maxHeartbeats 800000 in
set_option maxRecDepth 100000 in
theorem shl_exact (A : Option Addr) (n c p : Nat) (a : List Nat) (w : World) (ha : Sl w A n c a) (hn : n ≤ 100000) (hp : p ≤ 1000000) :
    Calls Tryz.prog 146 #[.slice A n c, .int .i64 p] w (ShlPost (p / 32 + tl a + 1) (val a * 2 ^ p) w) := by
  have HA := Lib.hid ha
  have hta : tl a ≤ n := by rw [← ha.len]; exact tl_le a
  have HA2 := Lib.hid (ha.cut (m := tl a) (c' := c) (by omega) (by have := ha.cap; omega) ha.capMax ha.nil)
  have HVA := Lib.hid (val_trim a)
  clear ha
  generalize hx : tl a = x at *
  have HX := Lib.hid hx
  clear hx
  have HP := Lib.hid (pow_split p)
  generalize hk : p / 32 = k at *
  generalize hs : p % 32 = s at *
  have hs32 : s < 32 := by omega
  have hkb : k ≤ 40000 := by omega
  have hd1 : (p : Int) / 32 = k := by omega
  have hd2 : (p : Int) % 32 = s := by omega
  clear hk hs
  have hmk := make_u32 k (k + x + 1) (k : Int) ((k : Int) + x + 1) (by omega) (by omega) (by omega) (by omega)
  go_enter Tryz.func146, Tryz.ntmps146
  go_wp2_with fail
  refine (trim_any A n c a w HA.out).mono ?_
  rintro e w1 ⟨rfl, rfl⟩
  rw [HX.out]
  go_wp2_with fail
  clear hmk
  have HO0 := Lib.hid (show (w.alloc (.cells (UA (zeros (k + x + 1))) tU)).ownsRow w.heap.size tU 1 (.slice (some ⟨w.heap.size, 0, none⟩) k (k + x + 1)) k (U (zeros k)) from
    ⟨by rw [U_len, zeros_len]; omega, .inr ⟨w.heap.size, k + x + 1, UA (zeros (k + x + 1)), rfl, Nat.le_refl _, Blk.new _ _ _, by omega, by unfold maxLen; omega, by rw [UA_size, zeros_len]; omega, by simp [UA, U, zeros, List.take_replicate]; omega⟩⟩)
  have HL0 := Lib.hid ((Below.refl w.heap.size w).alloc (Nat.le_refl _) (.cells (UA (zeros (k + x + 1))) tU))
  go_loopg [5, 6, 23] x (ShlRel w k x s (a.take x))
  case atStart => exact ⟨0, 0, zeros k, rfl, rfl, Nat.two_pow_pos s, by omega, rfl, Lib.hid (by rw [zeros_len]; rfl), Lib.hid (ok_zeros _), rfl, HO0, Lib.hid (by simp [zeros, val_zeros, val_nil]), HL0⟩
  case round =>
    obtain ⟨i, cc, o, rfl, rfl, hcc, hi, rfl, HLEN, HOK, rfl, HOW, HV, HBL⟩ := hrel
    have hsz := HBL.out.size
    by_cases hin : i < x
    · obtain ⟨b1, o1, q, hA, hb1, hq, hqB, hcell1⟩ := HA2.out.at_ hin
      subst hA
      have hc1 : wr.cell? ⟨b1, o1 + i, none⟩ = some (.int .u32 q) := (HBL.out.cell (p := ⟨b1, _, none⟩) hb1).trans hcell1
      have HS := Lib.hid (shl_step HLEN.out HOK.out HV.out (val_take_succ hq))
      have HLT := Lib.hid (shl_lt q s cc hqB hs32 hcc)
      clear hcell1 hq
      unfold BB at hqB
      have hor := or_shl q s cc hqB hs32 hcc
      have hcc31 : cc ≤ 2147483648 := by have := two_pow_le31 s hs32; omega
      have h3 : BB * 2 ^ s ≤ BB * 2147483648 := Nat.mul_le_mul_left _ (two_pow_le31 s hs32)
      obtain ⟨i0, ti, tz0, tz1, tz2⟩ := info_parts Tryz.infoU32
      obtain ⟨S, hS⟩ : ∃ S, S = q * 2 ^ s + cc := ⟨_, rfl⟩
      have hSi : (q : Int) * 2 ^ s + cc = (S : Int) := by rw [hS]; simp
      have hS64 : S < 9223372036854775808 := by have := HLT.out; rw [hS]; unfold BB at h3 this; omega
      have hq0 : 0 ≤ (q : Int) * 2 ^ s := by have : (q : Int) * 2 ^ s = ((q * 2 ^ s : Nat) : Int) := by simp
                                             rw [this]; omega
      have hq1 : (q : Int) * 2 ^ s ≤ S := by omega
      rw [hSi] at hor
      have HSS := Lib.hid hS
      clear hS h3 hSi
      go_wp2_with (at_builtin; refine wpList_append_fits _ rfl _ _ _ rfl w.heap.size 125 i0 1 Tryz.underlying38 ti tz1 w.heap.size (k + i) (k + x + 1) (U o) rfl (by exact HOW.out.alloc _) ⟨wr.heap.size, 0, none⟩ 1 1 [.int .u32 ((S : Int) % 4294967296)] rfl rfl (by exact World.news_of_block (cs := #[.int .u32 ((S : Int) % 4294967296)]) (t := 125) (fr := (0, 0)) (heap_alloc_new wr _)) (by simp [Value.oneCell']) (by omega) ?_)
      intro w2 hown2 hgrow
      have HO2 := Lib.hid (show w2.ownsRow w.heap.size tU 1 (.slice (some ⟨w.heap.size, 0, none⟩) (k + (i + 1)) (k + x + 1)) (k + (i + 1)) (U (o ++ [(q * 2 ^ s + cc) % BB])) by
        rw [U_append, ← HSS.out]
        exact hown2)
      have HL2 := Lib.hid ((HBL.out.alloc hsz (.cells #[.int .u32 ((S : Int) % 4294967296)] tU)).trans (below_of_grown hgrow (by
        intro g hg
        injection hg with hg
        omega) (by simp; omega)))
      clear hown2 hgrow ti tz0 tz1 tz2
      go_wp2_with fail
      go_roundg (x - (i + 1))
      case measure => omega
      case rel =>
        refine ⟨i + 1, (q * 2 ^ s + cc) / BB, o ++ [(q * 2 ^ s + cc) % BB], by go_num, ?_, ?_, by omega, rfl, Lib.hid HS.out.1, Lib.hid HS.out.2.1, rfl, HO2, Lib.hid HS.out.2.2, HL2⟩
        · rw [← HSS.out]; unfold BB; simp
        · exact Nat.div_lt_of_lt_mul HLT.out
    · obtain rfl : i = x := by omega
      obtain ⟨i0, ti, tz0, tz1, tz2⟩ := info_parts Tryz.infoU32
      have hcc31 : cc ≤ 2147483648 := by have := two_pow_le31 s hs32; omega
      have HS := Lib.hid (shl_end HLEN.out HOK.out (a := a.take i) (by have := HV.out; rwa [List.take_of_length_le (l := a.take i) (by rw [HA2.out.len]; omega)] at this) HP.out (by unfold BB; omega))
      rw [HVA.out] at HS
      go_wp2_with (at_builtin; refine wpList_append_fits _ rfl _ _ _ rfl w.heap.size 125 i0 1 Tryz.underlying38 ti tz1 w.heap.size (k + i) (k + i + 1) (U o) rfl (by exact HOW.out.alloc _) ⟨wr.heap.size, 0, none⟩ 1 1 [.int .u32 (cc : Int)] rfl rfl (by exact World.news_of_block (cs := #[.int .u32 (cc : Int)]) (t := 125) (fr := (0, 0)) (heap_alloc_new wr _)) (by simp [Value.oneCell']) (by omega) ?_)
      intro w2 hown2 hgrow
      have HB2 := Lib.hid (show Blk w2 w.heap.size tU (UA (o ++ [cc])) from blk_of_own (l := o ++ [cc]) (by rw [U_append]; exact hown2))
      have HL2 := Lib.hid ((HBL.out.alloc hsz (.cells #[.int .u32 (cc : Int)] tU)).trans (below_of_grown hgrow (by
        intro g hg
        injection hg with hg
        omega) (by simp; omega)))
      clear hown2 hgrow ti tz0 tz1 tz2
      go_wp2_with fail
      go_ret
      refine ⟨o ++ [cc], ?_, HB2, Lib.hid (by rw [List.length_append, HLEN.out]; rfl), Lib.hid HS.out.1, Lib.hid HS.out.2, HL2⟩
      rfl
theorem shl_any (A : Option Addr) (n c p : Nat) (a : List Nat) (w : World) (ha : Sl w A n c a) (hn : n ≤ 100000) (hp : p ≤ 1000000) :
    Calls Tryz.prog 146 #[.slice A n c, .int .i64 p] w (Fv (p / 32 + n + 1) (val a * 2 ^ p) w) := by
  have hta : tl a ≤ n := by rw [← ha.len]; exact tl_le a
  refine (shl_exact A n c p a w ha hn hp).mono ?_
  rintro e w' ⟨l, rfl, HB, HL, HO, HV, HBL⟩
  exact ⟨_, _, _, l, rfl, Lib.hid (Nw.of_blk HB.out HO.out (Nat.le_refl _) HL.out (by unfold maxLen; omega)), HV, by omega, HBL⟩
end Go.Proofs.YtoogeihbhhcpaaaGreatDoor
namespace Go.Fl.Nm
open Go.RowKit Go.Fl

end Go.Fl.Nm

namespace Go.Proofs.YtoogeihbhhcpaaaGreatDoor
open Go.RowKit Go.Fl Go.Fl.Nm

theorem quiet_left {P : Program} {f : FuncId} {args : Array Value} {w : World} {n : Nat} {v : Value}
    (h : Calls P f args (w.drewN n) fun e w' => e = .returned v ∧ w.drewN n = w') : Calls P f args (w.drewN n) fun e w'' => e = .returned v ∧ ∃ m, w'' = w.drewN m :=
  h.mono fun _ _ ⟨he, hm⟩ => ⟨he, n, hm.symm⟩

end Go.Proofs.YtoogeihbhhcpaaaGreatDoor
namespace Go.Fl.Nm
open Go.RowKit Go.Fl

theorem and_mask64 (x : Nat) (h : x < 18446744073709551616) : bits .and .u64 (x : Int) 4294967295 = ((x % 4294967296 : Nat) : Int) := by
  have := bits_mask .u64 64 (by decide) (fun n h0 h1 => by simp [IntKind.wrap, IntKind.bits, IntKind.signed]; omega) 32 (by decide) (x : Int) (by omega) (by omega)
  have e : ((2 : Int) ^ 32 - 1) = 4294967295 := by decide
  rw [e] at this
  rw [this]; omega
theorem grown_setCell (w : World) (g i : Nat) (v : Value) : w.grownBy (w.setCell ⟨g, i, none⟩ v) (some g) :=
  ⟨rfl, rfl, rfl, by simp [World.setCell], fun k _ hk => Below.heap_setCell w ⟨g, i, none⟩ v k (fun e => hk (by rw [e]))⟩
theorem grown_trans {a b c : World} {row : Option Nat} (h1 : a.grownBy b row) (h2 : b.grownBy c row) : a.grownBy c row :=
  ⟨h2.os.trans h1.os, h2.tape.trans h1.tape, h2.output.trans h1.output, Nat.le_trans h1.size h2.size, fun k hk hr => (h2.block k (by have := h1.size; omega) hr).trans (h1.block k hk hr)⟩
theorem grown_refl (w : World) (row : Option Nat) : w.grownBy w row := World.grownBy.refl w row
end Go.Fl.Nm

namespace Go.Proofs.YtoogeihbhhcpaaaGreatDoor
open Go.RowKit Go.Fl Go.Fl.Nm

end Go.Proofs.YtoogeihbhhcpaaaGreatDoor
namespace Go.Fl.Nm
open Go.RowKit Go.Fl

end Go.Fl.Nm
namespace Go.Proofs.YtoogeihbhhcpaaaGreatDoor
open Go.RowKit Go.Fl Go.Fl.Nm

theorem U_one (l : List Nat) : ∀ u ∈ U l, u.oneCell' = true := by
  intro u hu
  unfold U at hu
  obtain ⟨x, _, rfl⟩ := List.mem_map.1 hu
  rfl
theorem trim_sl {w : World} {A : Option Addr} {n c : Nat} {a : List Nat} (ha : Sl w A n c a) : tl a ≤ n ∧ Sl w A (tl a) c (a.take (tl a)) := by
  have hta : tl a ≤ n := by rw [← ha.len]; exact tl_le a
  exact ⟨hta, ha.cut hta (by have := ha.cap; omega) ha.capMax ha.nil⟩

end Go.Proofs.YtoogeihbhhcpaaaGreatDoor
