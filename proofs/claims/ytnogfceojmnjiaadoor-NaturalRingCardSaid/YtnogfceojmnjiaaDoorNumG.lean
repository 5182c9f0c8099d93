/-
  The walk of mul.
-/
import Derived.Test.YtnogfceojmnjiaaDoorNumF
set_option linter.unusedVariables false
namespace Go.Proofs.YtnogfceojmnjiaaDoor
open Go.RowKit Go.Fl Go.Fl.Nm

def MulRel (w : World) (g n m : Nat) (a b : List Nat) (k : Nat) (iv : Value) (wr : World) : Prop :=
  ∃ (i : Nat) (l : List Nat), iv = .int .i64 i ∧ i ≤ n ∧ k = n - i ∧ Hid (l.length = n + m) ∧ Hid (ok l) ∧ Hid (Blk wr g tU (UA l)) ∧
    Hid (val l = val (a.take i) * val b) ∧ Hid (∀ j, i + m ≤ j → j < n + m → l[j]? = some 0) ∧ Hid (Below w.heap.size w wr)
def MulIn (w : World) (g n m i x : Nat) (b l0 : List Nat) (k : Nat) (cv iv : Value) (wr : World) : Prop :=
  ∃ (kk cc : Nat) (l : List Nat), iv = .int .i64 kk ∧ cv = .int .u64 cc ∧ cc < 4294967296 ∧ kk ≤ m ∧ k = m - kk ∧ Hid (l.length = n + m) ∧ Hid (ok l) ∧ Hid (Blk wr g tU (UA l)) ∧
    Hid (val l + BB ^ (i + kk) * cc = val l0 + BB ^ i * (x * val (b.take kk))) ∧ Hid (∀ j, i + m ≤ j → j < n + m → l[j]? = some 0) ∧ Hid (Below w.heap.size w wr)

theorem mul_step {l l0 b : List Nat} {i n m kk x y o cc : Nat} (hl : l.length = n + m) (hok : ok l) (hv : val l + BB ^ (i + kk) * cc = val l0 + BB ^ i * (x * val (b.take kk)))
    (hz : ∀ j, i + m ≤ j → j < n + m → l[j]? = some 0) (hk : kk < m) (hb : val (b.take (kk + 1)) = val (b.take kk) + BB ^ kk * y) (ho : l[i + kk]? = some o) :
    (l.set (i + kk) ((x * y + o + cc) % BB)).length = n + m ∧ ok (l.set (i + kk) ((x * y + o + cc) % BB)) ∧
      val (l.set (i + kk) ((x * y + o + cc) % BB)) + BB ^ (i + (kk + 1)) * ((x * y + o + cc) / BB) = val l0 + BB ^ i * (x * val (b.take (kk + 1))) ∧
      (∀ j, i + m ≤ j → j < n + m → (l.set (i + kk) ((x * y + o + cc) % BB))[j]? = some 0) := by
  refine ⟨by simp [hl], ok_set hok _ _ (Nat.mod_lt _ BB_pos), ?_, fun j h1 h2 => by rw [at_set_ne _ (by omega)]; exact hz j h1 h2⟩
  have h1 := val_set ((x * y + o + cc) % BB) ho
  rw [hb, ← Nat.add_assoc i kk 1, Nat.pow_succ, Nat.mul_assoc (BB ^ (i + kk))]
  have e : BB ^ (i + kk) * (x * y + o + cc) = BB ^ (i + kk) * ((x * y + o + cc) % BB) + BB ^ (i + kk) * (BB * ((x * y + o + cc) / BB)) := by rw [← Nat.mul_add, Nat.mod_add_div]
  have e2 : BB ^ i * (x * (val (b.take kk) + BB ^ kk * y)) = BB ^ i * (x * val (b.take kk)) + BB ^ (i + kk) * (x * y) := by
    rw [Nat.mul_add x, Nat.mul_add, Nat.pow_add, Nat.mul_left_comm x, Nat.mul_assoc (BB ^ i)]
  rw [e2]
  simp only [Nat.mul_add] at e h1 ⊢
  omega
theorem mul_out {l l0 a b : List Nat} {i n m x cc : Nat} (hl : l.length = n + m) (hok : ok l) (hv : val l + BB ^ (i + m) * cc = val l0 + BB ^ i * (x * val b)) (h0 : val l0 = val (a.take i) * val b)
    (hz : ∀ j, i + m ≤ j → j < n + m → l[j]? = some 0) (hi : i < n) (hc : cc < BB) (ha : val (a.take (i + 1)) = val (a.take i) + BB ^ i * x) :
    (l.set (i + m) cc).length = n + m ∧ ok (l.set (i + m) cc) ∧ val (l.set (i + m) cc) = val (a.take (i + 1)) * val b ∧ (∀ j, i + 1 + m ≤ j → j < n + m → (l.set (i + m) cc)[j]? = some 0) := by
  refine ⟨by simp [hl], ok_set hok _ _ hc, ?_, fun j h1 h2 => by rw [at_set_ne _ (by omega)]; exact hz j (by omega) h2⟩
  rw [val_set0 _ (hz (i + m) (by omega) (by omega)), hv, h0, ha, Nat.add_mul, Nat.mul_assoc]
theorem mul_bd {x y : Nat} (hx : x < 4294967296) (hy : y < 4294967296) : (x : Int) * y ≤ 18446744065119617025 ∧ 0 ≤ (x : Int) * y ∧ x * y ≤ 18446744065119617025 := by
  have h : x * y ≤ 4294967295 * 4294967295 := Nat.mul_le_mul (by omega) (by omega)
  have e : ((x * y : Nat) : Int) = (x : Int) * y := by simp
  refine ⟨?_, ?_, by omega⟩ <;> rw [← e] <;> omega

set_option maxHeartbeats 800000 in
set_option maxRecDepth 100000 in
theorem mul_any (A B : Option Addr) (n c m d : Nat) (a b : List Nat) (w : World) (ha : Sl w A n c a) (hb : Sl w B m d b) (hn : n ≤ 100000) (hm : m ≤ 100000) :
    Calls Tryd.prog 20 #[.slice A n c, .slice B m d] w (Fv (n + m) (val a * val b) w) := by
  have HA := Lib.hid ha
  have HB := Lib.hid hb
  clear ha hb
  have hmk := make_u32 (n + m) (n + m) ((n : Int) + m) ((n : Int) + m) (by omega) (by omega) (by omega) (by omega)
  have HB0 := Lib.hid (Blk.new w tU (UA (zeros (n + m))))
  have HL0 := Lib.hid ((Below.refl w.heap.size w).alloc (Nat.le_refl _) (.cells (UA (zeros (n + m))) tU))
  go_enter Tryd.func20, Tryd.ntmps20
  go_wp2_with fail
  clear hmk
  go_loopg [20] n (MulRel w w.heap.size n m a b)
  case atStart => exact ⟨0, zeros (n + m), rfl, by omega, rfl, Lib.hid (zeros_len _), Lib.hid (ok_zeros _), HB0, Lib.hid (by simp [val_nil, zeros, val_zeros]), Lib.hid (fun j _ h => zeros_at _ j h), HL0⟩
  case round =>
    obtain ⟨i, l0, rfl, hi, rfl, HLEN0, HOK0, HBK0, HV0, HZ0, HBL0⟩ := hrel
    by_cases hin : i < n
    · obtain ⟨b1, o1, x, hA, hb1, hx, hxB, hcell1⟩ := HA.out.at_ hin
      subst hA
      have hc1 : wr.cell? ⟨b1, o1 + i, none⟩ = some (.int .u32 x) := (HBL0.out.cell (p := ⟨b1, _, none⟩) hb1).trans hcell1
      have HX := Lib.hid hx
      clear hcell1 hx
      unfold BB at hxB
      obtain ⟨wo, rfl⟩ : ∃ wo : World, wo = wr := ⟨_, rfl⟩
      go_wp2_with fail
      go_loopg [8, 27] m (MulIn w w.heap.size n m i x b l0)
      case atStart => exact ⟨0, 0, l0, rfl, rfl, by omega, by omega, rfl, HLEN0, HOK0, HBK0, Lib.hid (by simp [val_nil]), HZ0, HBL0⟩
      case round =>
        obtain ⟨kk, cc, l, rfl, rfl, hcc, hk, rfl, HLEN, HOK, HBK, HV, HZ, HBL⟩ := hrel
        by_cases hkm : kk < m
        · obtain ⟨b2, o2, y, hB, hb2, hy, hyB, hcell2⟩ := HB.out.at_ hkm
          subst hB
          have hc2 : wr.cell? ⟨b2, o2 + kk, none⟩ = some (.int .u32 y) := (HBL.out.cell (p := ⟨b2, _, none⟩) hb2).trans hcell2
          obtain ⟨o, ho⟩ : ∃ o, l[i + kk]? = some o := ⟨_, List.getElem?_eq_getElem (by rw [HLEN.out]; omega)⟩
          have hoB := ok_at HOK.out ho
          have hg1 : wr.cell? ⟨w.heap.size, i + kk, none⟩ = some (.int .u32 o) := blkU_cell HBK.out ho
          have hg2 : wr.frozen? ⟨w.heap.size, i + kk, none⟩ = false := HBK.out.frozen _
          have HS := Lib.hid (mul_step HLEN.out HOK.out HV.out HZ.out hkm (val_take_succ hy) ho)
          clear hcell2 hy ho
          unfold BB at hyB hoB
          obtain ⟨p1, p2, p3⟩ := mul_bd hxB hyB
          go_wp2_with fail
          have ec : (x : Int) * y + o + cc = ((x * y + o + cc : Nat) : Int) := by simp
          rw [ec]
          go_roundg (m - (kk + 1))
          case measure => omega
          case rel =>
            refine ⟨kk + 1, (x * y + o + cc) / BB, l.set (i + kk) ((x * y + o + cc) % BB), by go_num, ?_, ?_, by omega, rfl, Lib.hid HS.out.1, Lib.hid HS.out.2.1, Lib.hid ?_, Lib.hid HS.out.2.2.1, Lib.hid HS.out.2.2.2, Lib.hid (HBL.out.setCell (Nat.le_refl _) _)⟩
            · unfold BB; generalize x * y + o + cc = s; simp
            · unfold BB; generalize x * y = p at *; omega
            · have := blkU_set HBK.out (i + kk) ((x * y + o + cc) % BB)
              rw [show (((x * y + o + cc) % BB : Nat) : Int) = ((x * y + o + cc : Nat) : Int) % 4294967296 by unfold BB; generalize x * y + o + cc = s; simp] at this
              exact this
        · obtain rfl : kk = m := by omega
          have HV1 := Lib.hid HV.out
          rw [List.take_of_length_le (by rw [HB.out.len]; omega)] at HV1
          have HS := Lib.hid (mul_out HLEN.out HOK.out HV1.out HV0.out HZ.out hin hcc (val_take_succ HX.out))
          have hg1 : wr.cell? ⟨w.heap.size, i + kk, none⟩ = some (.int .u32 (0 : Nat)) := blkU_cell HBK.out (HZ.out _ (by omega) (by omega))
          have hg2 : wr.frozen? ⟨w.heap.size, i + kk, none⟩ = false := HBK.out.frozen _
          go_wp2_with fail
          go_roundg (n - (i + 1))
          case measure => omega
          case rel => exact ⟨i + 1, l.set (i + kk) cc, by go_num, by omega, rfl, Lib.hid HS.out.1, Lib.hid HS.out.2.1, Lib.hid (blkU_set HBK.out _ cc), Lib.hid HS.out.2.2.1, Lib.hid HS.out.2.2.2, Lib.hid (HBL.out.setCell (Nat.le_refl _) _)⟩
    · obtain rfl : i = n := by omega
      go_wp2_with fail
      go_ret
      refine ⟨_, _, _, l0, rfl, Lib.hid (Nw.of_blk HBK0.out HOK0.out (Nat.le_refl _) HLEN0.out (by unfold maxLen; omega)), Lib.hid ?_, by omega, HBL0⟩
      have h1 := HV0.out
      rwa [List.take_of_length_le (by rw [HA.out.len]; omega)] at h1
end Go.Proofs.YtnogfceojmnjiaaDoor
