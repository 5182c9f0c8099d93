/-
  The walk of shr.
-/
import Derived.Test.YtnogfceojmnjiaaDoorNumH
set_option linter.unusedVariables false
namespace Go.Fl.Nm
open Go.RowKit Go.Fl

theorem or_join64b (x y : Nat) (hx : x < 4294967296) (hy : y < 4294967296) : bits .or .u64 (x : Int) ((y : Int) * 4294967296) = (x : Int) + y * 4294967296 := by
  have h := or_join64 (y * 4294967296) x (by omega) (by omega) hx
  have hb := fun a b (ha : a < 2 ^ 64) (hb : b < 2 ^ 64) => (bits_nat .u64 64 (by decide) (fun n h0 h1 => by simp [IntKind.wrap, IntKind.bits, IntKind.signed]; omega) a b ha hb).2
  have e : (y : Int) * 4294967296 = ((y * 4294967296 : Nat) : Int) := by omega
  rw [e, hb x (y * 4294967296) (by omega) (by omega), Nat.or_comm, ← hb (y * 4294967296) x (by omega) (by omega), h]
  omega
theorem pow_split (n : Nat) : 2 ^ n = BB ^ (n / 32) * 2 ^ (n % 32) := by
  rw [BB_pow, ← Nat.pow_mul, ← Nat.pow_add, Nat.div_add_mod]
theorem BB_dvd (s : Nat) (hs : s < 32) : ∃ c, BB = 2 ^ s * c := ⟨2 ^ (32 - s), by rw [← Nat.pow_add, BB_pow]; congr 1; omega⟩
/-- The limb at the head of a shifted number. -/
theorem shr_limb (x y v s : Nat) (hs : s < 32) (hx : x < BB) : (x + BB * (y + BB * v)) / 2 ^ s = ((x + y * BB) / 2 ^ s) % BB + BB * ((y + BB * v) / 2 ^ s) := by
  obtain ⟨c, hc⟩ := BB_dvd s hs
  have hp : 0 < 2 ^ s := Nat.two_pow_pos s
  have h1 : (x + BB * (y + BB * v)) / 2 ^ s / BB = (y + BB * v) / 2 ^ s := by
    rw [Nat.div_div_eq_div_mul, Nat.mul_comm (2 ^ s) BB, ← Nat.div_div_eq_div_mul, Nat.add_mul_div_left _ _ BB_pos, Nat.div_eq_of_lt hx, Nat.zero_add]
  have h2 : (x + BB * (y + BB * v)) / 2 ^ s % BB = ((x + y * BB) / 2 ^ s) % BB := by
    have : x + BB * (y + BB * v) = x + y * BB + 2 ^ s * (BB * (c * v)) := by
      rw [Nat.mul_add, Nat.mul_comm BB y, Nat.add_assoc]
      congr 2
      calc BB * (BB * v) = (2 ^ s * c) * (BB * v) := by rw [← hc]
        _ = 2 ^ s * (BB * (c * v)) := by rw [Nat.mul_assoc, Nat.mul_left_comm c BB v]
    rw [this, Nat.add_mul_div_left _ _ hp, Nat.add_mul_mod_self_left]
  have := Nat.mod_add_div ((x + BB * (y + BB * v)) / 2 ^ s) BB
  rw [h1, h2] at this
  exact this.symm
end Go.Fl.Nm

namespace Go.Proofs.YtnogfceojmnjiaaDoor
open Go.RowKit Go.Fl Go.Fl.Nm

theorem shr_cast (q y s : Nat) : (((q + y * BB) / 2 ^ s % BB : Nat) : Int) = ((q : Int) + y * 4294967296) / 2 ^ s % 4294967296 := by
  unfold BB; simp

def ShrRel (w : World) (g n s : Nat) (a : List Nat) (k : Nat) (iv : Value) (wr : World) : Prop :=
  ∃ (i : Nat) (l : List Nat), iv = .int .i64 i ∧ i ≤ n ∧ k = n - i ∧ Hid (l.length = n) ∧ Hid (ok l) ∧ Hid (Blk wr g tU (UA l)) ∧
    Hid (val l + BB ^ i * (val (a.drop i) / 2 ^ s) = val a / 2 ^ s) ∧ Hid (∀ j, i ≤ j → j < n → l[j]? = some 0) ∧ Hid (Below w.heap.size w wr)
theorem shr_step {l a : List Nat} {i n s x y v : Nat} (hl : l.length = n) (hok : ok l) (hi : i < n) (hs : s < 32) (hv : val l + BB ^ i * (val (a.drop i) / 2 ^ s) = val a / 2 ^ s)
    (hz : ∀ j, i ≤ j → j < n → l[j]? = some 0) (hx : a[i]? = some x) (hxB : x < BB) (hy : val (a.drop (i + 1)) = y + BB * v) :
    (l.set i (((x + y * BB) / 2 ^ s) % BB)).length = n ∧ ok (l.set i (((x + y * BB) / 2 ^ s) % BB)) ∧
      val (l.set i (((x + y * BB) / 2 ^ s) % BB)) + BB ^ (i + 1) * (val (a.drop (i + 1)) / 2 ^ s) = val a / 2 ^ s ∧ (∀ j, i + 1 ≤ j → j < n → (l.set i (((x + y * BB) / 2 ^ s) % BB))[j]? = some 0) := by
  refine ⟨by simp [hl], ok_set hok _ _ (Nat.mod_lt _ BB_pos), ?_, fun j h1 h2 => by rw [at_set_ne _ (by omega)]; exact hz j (by omega) h2⟩
  rw [val_set0 _ (hz i (by omega) hi), ← hv, val_drop hx, hy, shr_limb x y v s hs hxB, Nat.pow_succ, Nat.mul_add, Nat.mul_assoc]
  omega

set_option maxHeartbeats 800000 in
set_option maxRecDepth 100000 in
theorem shr_any (A : Option Addr) (n c p : Nat) (a : List Nat) (w : World) (ha : Sl w A n c a) (hn : n ≤ 100000) (hp : p ≤ 100000000) :
    Calls Tryd.prog 26 #[.slice A n c, .int .i64 p] w (Fv n (val a / 2 ^ p) w) := by
  have HA := Lib.hid ha
  have hta : tl a ≤ n := by rw [← ha.len]; exact tl_le a
  have hcap := ha.cap
  have hcm := ha.capMax
  unfold maxLen at hcm
  have HA2 := Lib.hid (ha.cut (m := tl a) (c' := c) (by omega) (by have := ha.cap; omega) ha.capMax ha.nil)
  have HVA := Lib.hid (val_trim a)
  have HVL := Lib.hid (val_lt_tl ha.ok)
  clear ha
  generalize hx : tl a = x at *
  have HX := Lib.hid hx
  clear hx
  have HP := Lib.hid (pow_split p)
  generalize hk : p / 32 = k at *
  generalize hs : p % 32 = s at *
  have hs32 : s < 32 := by omega
  have hd1 : (p : Int) / 32 = k := by omega
  have hd2 : (p : Int) % 32 = s := by omega
  clear hk hs
  by_cases hkx : x ≤ k
  · have HV := Lib.hid (show val a / 2 ^ p = 0 by
      apply Nat.div_eq_of_lt
      rw [HP.out]
      have h1 := HVL.out
      have h2 : BB ^ x ≤ BB ^ k := Nat.pow_le_pow_right BB_pos hkx
      have h3 : BB ^ k * 1 ≤ BB ^ k * 2 ^ s := Nat.mul_le_mul_left _ (Nat.two_pow_pos s)
      omega)
    go_enter Tryd.func26, Tryd.ntmps26
    go_wp2_with fail
    refine (trim_any A n c a w HA.out).mono ?_
    rintro e w1 ⟨rfl, rfl⟩
    rw [HX.out]
    go_wp2_with fail
    go_ret
    exact ⟨none, 0, 0, [], rfl, Lib.hid (Nw.none_ _ _ _), Lib.hid (by rw [HV.out]; rfl), by omega, Lib.hid (Below.refl _ _)⟩
  · obtain ⟨b1, o1, rfl, hb1⟩ : ∃ b1 o1, A = some ⟨b1, o1, none⟩ ∧ b1 < w.heap.size := by
      obtain ⟨b, off, _, hA, hb, _⟩ := HA2.out.at_ (i := 0) (by omega)
      exact ⟨_, _, hA, hb⟩
    obtain ⟨L, rfl⟩ : ∃ L, x = k + L := ⟨x - k, by omega⟩
    have hL : 0 < L := by omega
    clear hkx
    obtain ⟨l, hl⟩ : ∃ l, l = (a.take (k + L)).drop k := ⟨_, rfl⟩
    have HLL := Lib.hid (show l.length = L by rw [hl, List.length_drop, HA2.out.len]; omega)
    have HVV := Lib.hid (show val a / 2 ^ p = val l / 2 ^ s by
      rw [HP.out, ← Nat.div_div_eq_div_mul]
      congr 1
      have h1 := val_split (a.take (k + L)) k (by rw [HA2.out.len]; omega)
      rw [HVA.out, ← hl] at h1
      have h2 := val_lt (ok_take HA2.out.ok k)
      rw [List.length_take, HA2.out.len, Nat.min_eq_left (by omega)] at h2
      rw [h1, Nat.add_mul_div_left _ _ (Nat.pow_pos BB_pos), Nat.div_eq_of_lt h2, Nat.zero_add])
    have HAT := Lib.hid (show ∀ i, i < L → ∃ q, l[i]? = some q ∧ q < BB ∧ w.cell? ⟨b1, o1 + k + i, none⟩ = some (.int .u32 q) from fun i hi => by
      obtain ⟨b, off, q, hA, _, hq, hqB, hcell⟩ := HA2.out.at_ (i := k + i) (by omega)
      injection hA with hA
      injection hA with h1 h2
      subst h1 h2
      exact ⟨q, by rw [hl, List.getElem?_drop]; exact hq, hqB, by rw [Nat.add_assoc]; exact hcell⟩)
    clear hl
    have hmk := make_u32 L L (L : Int) (L : Int) (by omega) (by omega) (by omega) (by omega)
    have HB0 := Lib.hid (Blk.new w tU (UA (zeros L)))
    have HL0 := Lib.hid ((Below.refl w.heap.size w).alloc (Nat.le_refl _) (.cells (UA (zeros L)) tU))
    have hkL : decide (k + L ≤ k) = false := by simp; omega
    go_enter Tryd.func26, Tryd.ntmps26
    go_wp2_with fail
    refine (trim_any _ n c a w HA.out).mono ?_
    rintro e w1 ⟨rfl, rfl⟩
    rw [HX.out]
    go_wp2_with fail
    clear hmk
    go_loopg [25] L (ShrRel w w.heap.size L s l)
    case atStart => exact ⟨0, zeros L, rfl, by omega, rfl, Lib.hid (zeros_len _), Lib.hid (ok_zeros _), HB0, Lib.hid (by simp [zeros, val_zeros]), Lib.hid (fun j _ h => zeros_at _ j h), HL0⟩
    case round =>
      obtain ⟨i, ol, rfl, hi, rfl, HLEN, HOK, HBK, HV, HZ, HBL⟩ := hrel
      by_cases hin : i < L
      · obtain ⟨q, hq, hqB, hcell1⟩ := HAT.out i hin
        have hc1 : wr.cell? ⟨b1, o1 + k + i, none⟩ = some (.int .u32 q) := (HBL.out.cell (p := ⟨b1, _, none⟩) hb1).trans hcell1
        have HQ := Lib.hid hq
        clear hcell1 hq
        have hg1 : wr.cell? ⟨w.heap.size, i, none⟩ = some (.int .u32 (0 : Nat)) := blkU_cell HBK.out (HZ.out i (by omega) (by omega))
        have hg2 : wr.frozen? ⟨w.heap.size, i, none⟩ = false := HBK.out.frozen i
        by_cases hin2 : i + 1 < L
        · obtain ⟨y, hy, hyB, hcell2⟩ := HAT.out (i + 1) hin2
          have hc2 : wr.cell? ⟨b1, o1 + k + (i + 1), none⟩ = some (.int .u32 y) := (HBL.out.cell (p := ⟨b1, _, none⟩) hb1).trans hcell2
          have HS := Lib.hid (shr_step HLEN.out HOK.out hin hs32 HV.out HZ.out HQ.out hqB (val_drop hy))
          clear hcell2 hy
          unfold BB at hqB hyB
          have hor := or_join64b q y hqB hyB
          go_wp2_with fail
          go_roundg (L - (i + 1))
          case measure => omega
          case rel =>
            refine ⟨i + 1, ol.set i ((q + y * BB) / 2 ^ s % BB), by go_num, by omega, rfl, Lib.hid HS.out.1, Lib.hid HS.out.2.1, Lib.hid ?_, Lib.hid HS.out.2.2.1, Lib.hid HS.out.2.2.2, Lib.hid (HBL.out.setCell (Nat.le_refl _) _)⟩
            have := blkU_set HBK.out i ((q + y * BB) / 2 ^ s % BB)
            rw [shr_cast] at this
            exact this
        · have hd0 : val (l.drop (i + 1)) = 0 + BB * 0 := by
            rw [List.drop_eq_nil_of_le (by rw [HLL.out]; omega)]; simp [val_nil]
          have HS := Lib.hid (shr_step HLEN.out HOK.out hin hs32 HV.out HZ.out HQ.out hqB hd0)
          clear hd0
          unfold BB at hqB
          have hin2' : decide ((i : Int) + 1 < L) = false := by simp; omega
          go_wp2_with fail
          go_roundg (L - (i + 1))
          case measure => omega
          case rel =>
            refine ⟨i + 1, ol.set i ((q + 0 * BB) / 2 ^ s % BB), by go_num, by omega, rfl, Lib.hid HS.out.1, Lib.hid HS.out.2.1, Lib.hid ?_, Lib.hid HS.out.2.2.1, Lib.hid HS.out.2.2.2, Lib.hid (HBL.out.setCell (Nat.le_refl _) _)⟩
            have := blkU_set HBK.out i ((q + 0 * BB) / 2 ^ s % BB)
            rw [shr_cast] at this
            simpa using this
      · obtain rfl : i = L := by omega
        go_wp2_with fail
        go_ret
        refine ⟨_, _, _, ol, rfl, Lib.hid (Nw.of_blk HBK.out HOK.out (Nat.le_refl _) HLEN.out (by unfold maxLen; omega)), Lib.hid ?_, by omega, HBL⟩
        have h1 := HV.out
        rw [List.drop_eq_nil_of_le (by rw [HLL.out]; omega)] at h1
        rw [HVV.out, ← h1]
        simp [val_nil]
end Go.Proofs.YtnogfceojmnjiaaDoor
