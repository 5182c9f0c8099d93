/-
  The walk of sub.
-/
import Derived.Test.YtnogfceojmnjiaaDoorNumE
set_option linter.unusedVariables false
namespace Go.Proofs.YtnogfceojmnjiaaDoor
open Go.RowKit Go.Fl Go.Fl.Nm

def SubPost (x y c : Nat) (w : World) (e : Ending) (w' : World) : Prop := ∃ d r : Nat, e = .returned (.tuple #[.int .u32 d, .int .u32 r]) ∧ d < BB ∧ r ≤ 1 ∧ Hid (d + y + c = x + BB * r) ∧ w = w'
theorem sub32_nat (x y c : Nat) (w : World) (hx : x < 4294967296) (hy : y < 4294967296) (hc : c ≤ 1) :
    Calls Tryd.prog 36 #[.int .u32 x, .int .u32 y, .int .u32 c] w (SubPost x y c w) := by
  refine (sub32_any x y c w hx hy hc).mono ?_
  rintro e w1 ⟨rfl, rfl⟩
  have h := bor_spec x y c hx hy hc
  refine ⟨(((x : Int) - y - c) % 4294967296).toNat, bor x y c, ?_, by unfold BB; omega, bor_le x y c, Lib.hid h, rfl⟩
  rw [show (((((x : Int) - y - c) % 4294967296).toNat : Nat) : Int) = ((x : Int) - y - c) % 4294967296 by omega]

theorem val_beyond {l : List Nat} {i : Nat} (h : l.length ≤ i) : val (l.take (i + 1)) = val (l.take i) + BB ^ i * 0 := by
  rw [List.take_of_length_le h, List.take_of_length_le (by omega)]; simp

def SubRel (w : World) (g n : Nat) (a b : List Nat) (k : Nat) (cv iv : Value) (wr : World) : Prop :=
  ∃ (i cc : Nat) (l : List Nat), iv = .int .i64 i ∧ cv = .int .u32 cc ∧ cc ≤ 1 ∧ i ≤ n ∧ k = n - i ∧ Hid (l.length = n) ∧ Hid (ok l) ∧ Hid (Blk wr g tU (UA l)) ∧
    Hid (val l + val (b.take i) = val (a.take i) + BB ^ i * cc) ∧ Hid (∀ j, i ≤ j → j < n → l[j]? = some 0) ∧ Hid (Below w.heap.size w wr)

theorem sub_step {l a b : List Nat} {i n x y cc d r : Nat} (hl : l.length = n) (hok : ok l) (hi : i < n) (hv : val l + val (b.take i) = val (a.take i) + BB ^ i * cc) (hz : ∀ j, i ≤ j → j < n → l[j]? = some 0)
    (ha : val (a.take (i + 1)) = val (a.take i) + BB ^ i * x) (hb : val (b.take (i + 1)) = val (b.take i) + BB ^ i * y) (hd : d < BB) (he : d + y + cc = x + BB * r) :
    (l.set i d).length = n ∧ ok (l.set i d) ∧ val (l.set i d) + val (b.take (i + 1)) = val (a.take (i + 1)) + BB ^ (i + 1) * r ∧
      (∀ j, i + 1 ≤ j → j < n → (l.set i d)[j]? = some 0) := by
  refine ⟨by simp [hl], ok_set hok _ _ hd, ?_, fun j h1 h2 => by rw [at_set_ne _ (by omega)]; exact hz j (by omega) h2⟩
  rw [val_set0 _ (hz i (by omega) (by omega)), ha, hb, Nat.pow_succ, Nat.mul_assoc]
  have e : BB ^ i * (d + y + cc) = BB ^ i * (x + BB * r) := by rw [he]
  simp only [Nat.mul_add] at e ⊢
  omega

set_option maxHeartbeats 800000 in
set_option maxRecDepth 100000 in
theorem sub_any (A B : Option Addr) (n c m d : Nat) (a b : List Nat) (w : World) (ha : Sl w A n c a) (hb : Sl w B m d b) (hn : n ≤ 100000) (hm : m ≤ 100000) (hle : val b ≤ val a) :
    Calls Tryd.prog 22 #[.slice A n c, .slice B m d] w (Fv n (val a - val b) w) := by
  have HA := Lib.hid ha
  have HB := Lib.hid hb
  have hta : tl a ≤ n := by rw [← ha.len]; exact tl_le a
  have htb : tl b ≤ m := by rw [← hb.len]; exact tl_le b
  have hyx : tl b ≤ tl a := by
    rcases Nat.lt_or_ge (tl a) (tl b) with h | h
    · have := val_lt_of_len ha.ok h; omega
    · exact h
  have HA2 := Lib.hid (ha.cut (m := tl a) (c' := c) (by omega) (by have := ha.cap; omega) ha.capMax ha.nil)
  have HB2 := Lib.hid (hb.cut (m := tl b) (c' := d) (by omega) (by have := hb.cap; omega) hb.capMax hb.nil)
  have HVA := Lib.hid (val_trim a)
  have HVB := Lib.hid (val_trim b)
  have HLE := Lib.hid hle
  clear ha hb hle
  generalize hx : tl a = x at *
  generalize hy : tl b = y at *
  have HX := Lib.hid hx
  have HY := Lib.hid hy
  clear hx hy
  have hmk := make_u32 x x (x : Int) (x : Int) (by omega) (by omega) (by omega) (by omega)
  have HB0 := Lib.hid (Blk.new w tU (UA (zeros x)))
  have HL0 := Lib.hid ((Below.refl w.heap.size w).alloc (Nat.le_refl _) (.cells (UA (zeros x)) tU))
  go_enter Tryd.func22, Tryd.ntmps22
  go_wp2_with fail
  refine (trim_any A n c a w HA.out).mono ?_
  rintro e w1 ⟨rfl, rfl⟩
  rw [HX.out]
  go_wp2_with fail
  refine (trim_any B m d b w HB.out).mono ?_
  rintro e w1 ⟨rfl, rfl⟩
  rw [HY.out]
  go_wp2_with fail
  clear hmk
  go_loopg [6, 19] x (SubRel w w.heap.size x (a.take x) (b.take y))
  case atStart => exact ⟨0, 0, zeros x, rfl, rfl, by omega, by omega, rfl, Lib.hid (zeros_len _), Lib.hid (ok_zeros _), HB0, Lib.hid (by simp [val_nil, zeros, val_zeros]), Lib.hid (fun j _ h => zeros_at _ j h), HL0⟩
  case round =>
    obtain ⟨i, cc, l, rfl, rfl, hcc, hi, rfl, HLEN, HOK, HBK, HV, HZ, HBL⟩ := hrel
    by_cases hin : i < x
    · obtain ⟨b1, o1, p, hA, hb1, hp, hpB, hcell1⟩ := HA2.out.at_ hin
      subst hA
      have hc1 : wr.cell? ⟨b1, o1 + i, none⟩ = some (.int .u32 p) := (HBL.out.cell (p := ⟨b1, _, none⟩) hb1).trans hcell1
      have HP := Lib.hid hp
      clear hcell1 hp
      unfold BB at hpB
      have hg1 : wr.cell? ⟨w.heap.size, i, none⟩ = some (.int .u32 (0 : Nat)) := blkU_cell HBK.out (HZ.out i (by omega) (by omega))
      have hg2 : wr.frozen? ⟨w.heap.size, i, none⟩ = false := HBK.out.frozen i
      by_cases him : i < y
      · obtain ⟨b2, o2, q, hB, hb2, hq, hqB, hcell2⟩ := HB2.out.at_ him
        subst hB
        have hc2 : wr.cell? ⟨b2, o2 + i, none⟩ = some (.int .u32 q) := (HBL.out.cell (p := ⟨b2, _, none⟩) hb2).trans hcell2
        have HQ := Lib.hid hq
        clear hcell2 hq
        unfold BB at hqB
        go_wp2_with fail
        refine (sub32_nat p q cc _ hpB hqB hcc).mono ?_
        rintro e w1 ⟨dd, r, rfl, hd, hr, HE, rfl⟩
        have HS := Lib.hid (sub_step HLEN.out HOK.out hin HV.out HZ.out (val_take_succ HP.out) (val_take_succ HQ.out) hd HE.out)
        unfold BB at hd
        go_wp2_with fail
        go_roundg (x - (i + 1))
        case measure => omega
        case rel => exact ⟨i + 1, r, l.set i dd, by go_num, rfl, hr, by omega, rfl, Lib.hid HS.out.1, Lib.hid HS.out.2.1, Lib.hid (blkU_set HBK.out i dd), Lib.hid HS.out.2.2.1, Lib.hid HS.out.2.2.2, Lib.hid (HBL.out.setCell (Nat.le_refl _) _)⟩
      · have K := sub32_nat p 0 cc wr hpB (by omega) hcc
        rw [show ((0 : Nat) : Int) = 0 from rfl] at K
        have HK := Lib.hid K
        clear K
        go_wp2_with fail
        refine HK.out.mono ?_
        rintro e w1 ⟨dd, r, rfl, hd, hr, HE, rfl⟩
        have HS := Lib.hid (sub_step (y := 0) HLEN.out HOK.out hin HV.out HZ.out (val_take_succ HP.out) (val_beyond (by rw [HB2.out.len]; omega)) hd HE.out)
        clear HK
        unfold BB at hd
        go_wp2_with fail
        go_roundg (x - (i + 1))
        case measure => omega
        case rel => exact ⟨i + 1, r, l.set i dd, by go_num, rfl, hr, by omega, rfl, Lib.hid HS.out.1, Lib.hid HS.out.2.1, Lib.hid (blkU_set HBK.out i dd), Lib.hid HS.out.2.2.1, Lib.hid HS.out.2.2.2, Lib.hid (HBL.out.setCell (Nat.le_refl _) _)⟩
    · obtain rfl : i = x := by omega
      go_wp2_with fail
      go_ret
      refine ⟨_, _, _, l, rfl, Lib.hid (Nw.of_blk HBK.out HOK.out (Nat.le_refl _) HLEN.out (by unfold maxLen; omega)), Lib.hid ?_, by omega, HBL⟩
      have h1 := HV.out
      rw [List.take_of_length_le (l := a.take i) (by rw [HA2.out.len]; omega), List.take_of_length_le (l := b.take y) (by rw [HB2.out.len]; omega), HVA.out, HVB.out] at h1
      have h2 := val_lt HOK.out
      rw [HLEN.out] at h2
      have h3 := HLE.out
      rcases Nat.eq_zero_or_pos cc with h | h
      · rw [h] at h1; omega
      · obtain rfl : cc = 1 := by omega
        omega
end Go.Proofs.YtnogfceojmnjiaaDoor
