/-
  The walks of the reference: Add, Mul.
-/
import Derived.Test.YtffdkakogeofmaaGreatDoorNumU
set_option linter.unusedVariables false
namespace Go.Fl.Nm
open Go.RowKit Go.Fl
theorem radd_step {o a b : List Nat} {i cc : Nat} (hl : o.length = i) (hok : ok o) (hv : val o + BB ^ i * cc = val (a.take i) + val (b.take i)) :
    (o ++ [(at0 a i + at0 b i + cc) % BB]).length = i + 1 ∧ ok (o ++ [(at0 a i + at0 b i + cc) % BB]) ∧
    val (o ++ [(at0 a i + at0 b i + cc) % BB]) + BB ^ (i + 1) * ((at0 a i + at0 b i + cc) / BB) = val (a.take (i + 1)) + val (b.take (i + 1)) := by
  refine ⟨by simp [hl], ok_append.2 ⟨hok, ok_cons.2 ⟨Nat.mod_lt _ BB_pos, ok_nil⟩⟩, ?_⟩
  rw [val_snoc, hl, take_at0 a, take_at0 b, Nat.pow_succ, Nat.mul_assoc]
  have h2 := Nat.div_add_mod (at0 a i + at0 b i + cc) BB
  have h3 : BB ^ i * (BB * ((at0 a i + at0 b i + cc) / BB)) + BB ^ i * ((at0 a i + at0 b i + cc) % BB) = BB ^ i * (at0 a i + at0 b i + cc) := by rw [← Nat.mul_add, h2]
  rw [Nat.mul_add, Nat.mul_add] at h3
  omega
theorem take_all {l : List Nat} {i : Nat} (h : l.length ≤ i) : l.take i = l := List.take_of_length_le h
end Go.Fl.Nm

namespace Go.Proofs.YtffdkakogeofmaaGreatDoor
open Go.RowKit Go.Fl Go.Fl.Nm

def RAddRel (w : World) (N : Nat) (a b : List Nat) (k : Nat) (ov cv iv : Value) (wr : World) : Prop :=
  ∃ (i cc : Nat) (o : List Nat), iv = .int .i64 i ∧ cv = .int .u64 cc ∧ cc ≤ 1 ∧ k = N + 1 - i ∧ i ≤ N + 1 ∧ (N < i → cc = 0) ∧ Hid (o.length = i) ∧ Hid (ok o) ∧ Hid (wr.ownsRow w.heap.size tU 1 ov i (U o)) ∧
    Hid (val o + BB ^ i * cc = val (a.take i) + val (b.take i)) ∧ Hid (Below w.heap.size w wr)

set_option maxHeartbeats 800000 in
set_option maxRecDepth 100000 in
theorem rAdd (A B : Option Addr) (n c m d : Nat) (a b : List Nat) (w : World) (ha : Sl w A n c a) (hb : Sl w B m d b) (hn : n ≤ 900000) (hm : m ≤ 900000) :
    Calls Tryz.prog 83 #[.slice A n c, .slice B m d] w (RP (val a + val b) w) := by
  have HA := Lib.hid ha
  have HB := Lib.hid hb
  clear ha hb
  obtain ⟨N, hN⟩ : ∃ N, N = max n m := ⟨_, rfl⟩
  have hmx : max (n : Int) m = N := by omega
  have HNA := Lib.hid (show a.length ≤ N by rw [HA.out.len]; omega)
  have HNB := Lib.hid (show b.length ≤ N by rw [HB.out.len]; omega)
  have hNb : N ≤ 900000 := by omega
  clear hN
  go_enter Tryz.func83, Tryz.ntmps83
  go_wp2_with fail
  go_loopg [5, 6, 7] (N + 1) (RAddRel w N a b)
  case atStart => exact ⟨0, 0, [], rfl, rfl, by omega, by omega, by omega, fun _ => rfl, Lib.hid rfl, Lib.hid ok_nil, Lib.hid ⟨rfl, .inl ⟨rfl, rfl⟩⟩, Lib.hid (by simp [val_nil]), Lib.hid (Below.refl _ _)⟩
  case round =>
    obtain ⟨i, cc, o, rfl, rfl, hcc, rfl, hi, hic, HLEN, HOK, HOW, HV, HBL⟩ := hrel
    by_cases hst : i < N ∨ 0 < cc
    · have hiN : i ≤ N := by rcases hst with h | h <;> omega
      have KA := Lib.hid (rAt A n c i a wr (HA.out.below HBL.out) (by omega))
      have KB := Lib.hid (rAt B m d i b wr (HB.out.below HBL.out) (by omega))
      have hx := at0_lt HA.out.ok i
      have hy := at0_lt HB.out.ok i
      have HS := Lib.hid (radd_step HLEN.out HOK.out HV.out)
      have HEND := Lib.hid (show N < i + 1 → (at0 a i + at0 b i + cc) / BB = 0 from fun h => by
        rw [at0_out (by have := HNA.out; omega), at0_out (by have := HNB.out; omega)]
        exact Nat.div_eq_of_lt (by unfold BB; omega))
      generalize at0 a i = x at *
      generalize at0 b i = y at *
      obtain ⟨S, hS⟩ : ∃ S, S = x + y + cc := ⟨_, rfl⟩
      rw [← hS] at HS HEND
      have hSi : (x : Int) + y + cc = (S : Int) := by omega
      have hand := and_mask64 S (by omega)
      have hSb : S < 9000000000 := by omega
      obtain ⟨i0, ti, tz0, tz1, tz2⟩ := info_parts Tryz.infoU32
      have hbs := HBL.out.size
      have hc2 : S / BB ≤ 1 := by unfold BB; omega
      clear hS
      generalize hM : S % 4294967296 = M at *
      have HM := Lib.hid (show S % BB = M from hM)
      rw [HM.out] at HS
      have hMb : M < 4294967296 := by omega
      clear hM
      by_cases h1 : i < N
      · have hd : decide (i < N) = true := by simpa using h1
        clear hst h1
        go_wp2_with fail
        refine KA.out.mono ?_
        rintro e w1 ⟨rfl, rfl⟩
        go_wp2_with fail
        refine KB.out.mono ?_
        rintro e w1 ⟨rfl, rfl⟩
        go_wp2_with (at_builtin; refine wpList_append_lies _ rfl _ _ _ rfl w.heap.size 49 i0 _ 1 4 Tryz.underlying23 ti tz0 tz1 tz2 rfl (by omega) u5 i (U o) rfl (by exact HOW.out.alloc _) ⟨wr.heap.size, 0, none⟩ 1 1 [.int .u32 (M : Int)] rfl rfl (by exact World.news_of_block (cs := #[.int .u32 (M : Int)]) (t := 49) (fr := (0, 0)) (heap_alloc_new wr _)) (by simp [Value.oneCell']) (by omega) (by unfold maxLen; omega) (by omega) (by simp; omega) (wr.heap.size + 1) (by simp) ?_)
        intro g cap w3 hown hgrow hat hlt2
        have HO3 := Lib.hid (show w3.ownsRow w.heap.size tU 1 (.slice (some ⟨g, 0, none⟩) (i + 1) cap) (i + 1) (U (o ++ [M])) by rw [U_append]; exact hown)
        have HL3 := Lib.hid (show Below w.heap.size w w3 from (HBL.out.alloc (by omega) _).grown hgrow (by simp; omega) (fun k hk => (HOW.out.lt k hk).1))
        clear hown hgrow hat hlt2 ti tz0 tz1 tz2
        go_wp2_with fail
        go_roundg (N + 1 - (i + 1))
        case measure => omega
        case rel => exact ⟨i + 1, S / BB, o ++ [M], by go_num, by unfold BB; simp, hc2, rfl, by omega, HEND.out, Lib.hid HS.out.1, Lib.hid HS.out.2.1, HO3, Lib.hid HS.out.2.2, HL3⟩
      · have hd : decide (i < N) = false := by simpa using h1
        have hd2 : decide (0 < cc) = true := by simp; omega
        clear hst h1
        go_wp2_with fail
        refine KA.out.mono ?_
        rintro e w1 ⟨rfl, rfl⟩
        go_wp2_with fail
        refine KB.out.mono ?_
        rintro e w1 ⟨rfl, rfl⟩
        go_wp2_with (at_builtin; refine wpList_append_lies _ rfl _ _ _ rfl w.heap.size 49 i0 _ 1 4 Tryz.underlying23 ti tz0 tz1 tz2 rfl (by omega) u5 i (U o) rfl (by exact HOW.out.alloc _) ⟨wr.heap.size, 0, none⟩ 1 1 [.int .u32 (M : Int)] rfl rfl (by exact World.news_of_block (cs := #[.int .u32 (M : Int)]) (t := 49) (fr := (0, 0)) (heap_alloc_new wr _)) (by simp [Value.oneCell']) (by omega) (by unfold maxLen; omega) (by omega) (by simp; omega) (wr.heap.size + 1) (by simp) ?_)
        intro g cap w3 hown hgrow hat hlt2
        have HO3 := Lib.hid (show w3.ownsRow w.heap.size tU 1 (.slice (some ⟨g, 0, none⟩) (i + 1) cap) (i + 1) (U (o ++ [M])) by rw [U_append]; exact hown)
        have HL3 := Lib.hid (show Below w.heap.size w w3 from (HBL.out.alloc (by omega) _).grown hgrow (by simp; omega) (fun k hk => (HOW.out.lt k hk).1))
        clear hown hgrow hat hlt2 ti tz0 tz1 tz2
        go_wp2_with fail
        go_roundg (N + 1 - (i + 1))
        case measure => omega
        case rel => exact ⟨i + 1, S / BB, o ++ [M], by go_num, by unfold BB; simp, hc2, rfl, by omega, HEND.out, Lib.hid HS.out.1, Lib.hid HS.out.2.1, HO3, Lib.hid HS.out.2.2, HL3⟩
    · have hd : decide (i < N) = false := by simp; omega
      have hd2 : decide (0 < cc) = false := by simp; omega
      obtain ⟨A', c', hu, hnw⟩ := Nw.of_own HOW.out HOK.out
      subst hu
      have HN := Lib.hid hnw
      have HVV := Lib.hid (show val o = val a + val b by
        have h1 := HV.out
        rw [take_all (by have := HNA.out; omega), take_all (by have := HNB.out; omega), show cc = 0 by omega] at h1
        omega)
      clear hnw hst
      go_wp2_with fail
      refine (rTrim A' i c' o wr HN.out.sl (by omega)).mono ?_
      rw [HVV.out]
      rintro e w2 ⟨C, k, ck, rfl, HC, HL2⟩
      go_wp2_with fail
      go_ret
      exact ⟨C, k, ck, rfl, Lib.hid (HC.out.base HBL.out.size), Lib.hid (HBL.out.trans (HL2.out.mono HBL.out.size))⟩

def RMulRel (w : World) (g n m : Nat) (a b : List Nat) (k : Nat) (iv : Value) (wr : World) : Prop :=
  ∃ (i : Nat) (l : List Nat), iv = .int .i64 i ∧ i ≤ n ∧ k = n - i ∧ Hid (l.length = n + m + 1) ∧ Hid (ok l) ∧ Hid (Blk wr g tU (UA l)) ∧
    Hid (val l = val (a.take i) * val b) ∧ Hid (∀ j, i + m ≤ j → j < n + m + 1 → l[j]? = some 0) ∧ Hid (Below w.heap.size w wr)
def RMulIn (w : World) (g n m i x : Nat) (b l0 : List Nat) (k : Nat) (cv iv : Value) (wr : World) : Prop :=
  ∃ (kk cc : Nat) (l : List Nat), iv = .int .i64 kk ∧ cv = .int .u64 cc ∧ cc < 4294967296 ∧ kk ≤ m + 1 ∧ (m < kk → cc = 0) ∧ k = m + 1 - kk ∧ Hid (l.length = n + m + 1) ∧ Hid (ok l) ∧ Hid (Blk wr g tU (UA l)) ∧
    Hid (val l + BB ^ (i + kk) * cc = val l0 + BB ^ i * (x * val (b.take kk))) ∧ Hid (∀ j, i + max m kk ≤ j → j < n + m + 1 → l[j]? = some 0) ∧ Hid (Below w.heap.size w wr)

theorem rmul_step {l l0 b : List Nat} {i n m kk x o cc : Nat} (hl : l.length = n + m + 1) (hok : ok l) (hv : val l + BB ^ (i + kk) * cc = val l0 + BB ^ i * (x * val (b.take kk)))
    (hz : ∀ j, i + max m kk ≤ j → j < n + m + 1 → l[j]? = some 0) (hi : i < n) (hk : kk ≤ m) (ho : l[i + kk]? = some o) :
    (l.set (i + kk) ((x * at0 b kk + o + cc) % BB)).length = n + m + 1 ∧ ok (l.set (i + kk) ((x * at0 b kk + o + cc) % BB)) ∧
    val (l.set (i + kk) ((x * at0 b kk + o + cc) % BB)) + BB ^ (i + (kk + 1)) * ((x * at0 b kk + o + cc) / BB) = val l0 + BB ^ i * (x * val (b.take (kk + 1))) ∧
    (∀ j, i + max m (kk + 1) ≤ j → j < n + m + 1 → (l.set (i + kk) ((x * at0 b kk + o + cc) % BB))[j]? = some 0) := by
  refine ⟨by simp [hl], ok_set hok _ _ (Nat.mod_lt _ BB_pos), ?_, fun j h1 h2 => ?_⟩
  · have h1 := val_set ((x * at0 b kk + o + cc) % BB) ho
    have h2 := Nat.div_add_mod (x * at0 b kk + o + cc) BB
    have h3 : BB ^ (i + kk) * (BB * ((x * at0 b kk + o + cc) / BB)) + BB ^ (i + kk) * ((x * at0 b kk + o + cc) % BB) = BB ^ (i + kk) * (x * at0 b kk + o + cc) := by rw [← Nat.mul_add, h2]
    rw [Nat.mul_add, Nat.mul_add] at h3
    rw [take_at0 b kk, show i + (kk + 1) = i + kk + 1 by omega, Nat.pow_succ, Nat.mul_assoc, Nat.mul_add, Nat.mul_add]
    have h4 : BB ^ i * (x * (BB ^ kk * at0 b kk)) = BB ^ (i + kk) * (x * at0 b kk) := by
      rw [Nat.pow_add, Nat.mul_assoc, Nat.mul_left_comm x]
    omega
  · rw [at_set_ne _ (by omega)]
    exact hz j (by omega) h2

set_option maxHeartbeats 1600000 in
set_option maxRecDepth 100000 in
theorem rMul (A B : Option Addr) (n c m d : Nat) (a b : List Nat) (w : World) (ha : Sl w A n c a) (hb : Sl w B m d b) (hn : n ≤ 100000) (hm : m ≤ 100000) :
    Calls Tryz.prog 70 #[.slice A n c, .slice B m d] w (RP (val a * val b) w) := by
  have HA := Lib.hid ha
  have HB := Lib.hid hb
  clear ha hb
  have hmk := make_u32 (n + m + 1) (n + m + 1) ((n : Int) + m + 1) ((n : Int) + m + 1) (by omega) (by omega) (by omega) (by omega)
  have HB0 := Lib.hid (Blk.new w tU (UA (zeros (n + m + 1))))
  have HL0 := Lib.hid ((Below.refl w.heap.size w).alloc (Nat.le_refl _) (.cells (UA (zeros (n + m + 1))) tU))
  go_enter Tryz.func70, Tryz.ntmps70
  go_wp2_with fail
  clear hmk
  go_loopg [6] n (RMulRel w w.heap.size n m a b)
  case atStart => exact ⟨0, zeros (n + m + 1), rfl, by omega, rfl, Lib.hid (zeros_len _), Lib.hid (ok_zeros _), HB0, Lib.hid (by simp [val_nil, zeros, val_zeros]), Lib.hid (fun j _ h => zeros_at _ j h), HL0⟩
  case round =>
    obtain ⟨i, l0, rfl, hi, rfl, HLEN0, HOK0, HBK0, HV0, HZ0, HBL0⟩ := hrel
    by_cases hin : i < n
    · obtain ⟨b1, o1, x, hA, hb1, hx, hxB, hcell1⟩ := HA.out.at_ hin
      subst hA
      have HX := Lib.hid hx
      have HC1 := Lib.hid hcell1
      clear hcell1 hx
      unfold BB at hxB
      have hd : decide (i < n) = true := by simpa using hin
      obtain ⟨wo, rfl⟩ : ∃ wo : World, wo = wr := ⟨_, rfl⟩
      go_wp2_with fail
      go_loopg [7, 8] (m + 1) (RMulIn w w.heap.size n m i x b l0)
      case atStart => exact ⟨0, 0, l0, rfl, rfl, by omega, by omega, fun _ => rfl, rfl, HLEN0, HOK0, HBK0, Lib.hid (by simp [val_nil]), Lib.hid (fun j h1 h2 => HZ0.out j (by omega) h2), HBL0⟩
      case round =>
        obtain ⟨kk, cc, l, rfl, rfl, hcc, hk, hkc, rfl, HLEN, HOK, HBK, HV, HZ, HBL⟩ := hrel
        by_cases hst : kk < m ∨ 0 < cc
        · have hkm : kk ≤ m := by rcases hst with h | h <;> omega
          have hc1 : wr.cell? ⟨b1, o1 + i, none⟩ = some (.int .u32 x) := (HBL.out.cell (p := ⟨b1, _, none⟩) hb1).trans HC1.out
          obtain ⟨o, ho⟩ : ∃ o, l[i + kk]? = some o := ⟨_, List.getElem?_eq_getElem (by rw [HLEN.out]; omega)⟩
          have hoB := ok_at HOK.out ho
          have hg1 : wr.cell? ⟨w.heap.size, i + kk, none⟩ = some (.int .u32 o) := blkU_cell HBK.out ho
          have hg2 : wr.frozen? ⟨w.heap.size, i + kk, none⟩ = false := HBK.out.frozen _
          have HS := Lib.hid (rmul_step HLEN.out HOK.out HV.out HZ.out hin hkm ho)
          have HEND := Lib.hid (show m < kk + 1 → (x * at0 b kk + o + cc) / BB = 0 from fun h => by
            have h1 : l[i + kk]? = some 0 := HZ.out _ (by omega) (by omega)
            rw [ho] at h1
            injection h1 with h1
            rw [at0_out (by rw [HB.out.len]; omega), h1]
            exact Nat.div_eq_of_lt (by unfold BB; omega))
          have HHO := Lib.hid ho
          clear ho
          have KB := Lib.hid (fun q => rAt B m d kk b (wr.drewN q) ((HB.out.below HBL.out).drewN q) (by omega))
          have hy := at0_lt HB.out.ok kk
          generalize at0 b kk = y at *
          unfold BB at hoB
          obtain ⟨p1, p2, p3⟩ := mul_bd hxB hy
          obtain ⟨S, hS⟩ : ∃ S, S = x * y + o + cc := ⟨_, rfl⟩
          rw [← hS] at HS HEND
          have hSi : (x : Int) * y + o + cc = (S : Int) := by rw [hS]; simp
          have hSb : S < 18446744073709551616 := by omega
          have hand := and_mask64 S hSb
          have hI : ((i : Int) + kk).toNat = i + kk := by omega
          have hc2 : S / BB < 4294967296 := by unfold BB; omega
          have hix : i < n := hin
          clear hS p3
          generalize hM : S % 4294967296 = M at *
          have HM := Lib.hid (show S % BB = M from hM)
          rw [HM.out] at HS
          have hMb : M < 4294967296 := by omega
          clear hM
          by_cases h1 : kk < m
          · have hd1 : decide (kk < m) = true := by simpa using h1
            clear hst h1
            go_wp2_with fail
            go_quiet ((go_at_call 84; exact quiet_left (KB.out _)))
            clear hI
            go_wp2_with fail
            go_roundg (m + 1 - (kk + 1))
            case measure => omega
            case rel => exact ⟨kk + 1, S / BB, l.set (i + kk) M, by go_num, by unfold BB; simp, hc2, by omega, HEND.out, rfl, Lib.hid HS.out.1, Lib.hid HS.out.2.1, Lib.hid (blkU_set (HBK.out.drewN nq) (i + kk) M), Lib.hid HS.out.2.2.1, Lib.hid HS.out.2.2.2, Lib.hid ((below_drewN HBL.out nq).setCell (Nat.le_refl _) _)⟩
          · have hd1 : decide (kk < m) = false := by simpa using h1
            have hd2 : decide (0 < cc) = true := by simp; omega
            clear hst h1
            go_wp2_with fail
            go_quiet ((go_at_call 84; exact quiet_left (KB.out _)))
            clear hI
            go_wp2_with fail
            go_roundg (m + 1 - (kk + 1))
            case measure => omega
            case rel => exact ⟨kk + 1, S / BB, l.set (i + kk) M, by go_num, by unfold BB; simp, hc2, by omega, HEND.out, rfl, Lib.hid HS.out.1, Lib.hid HS.out.2.1, Lib.hid (blkU_set (HBK.out.drewN nq) (i + kk) M), Lib.hid HS.out.2.2.1, Lib.hid HS.out.2.2.2, Lib.hid ((below_drewN HBL.out nq).setCell (Nat.le_refl _) _)⟩
        · have hd1 : decide (kk < m) = false := by simp; omega
          have hd2 : decide (0 < cc) = false := by simp; omega
          have HVE := Lib.hid (show val l = val (a.take (i + 1)) * val b by
            have h1 := HV.out
            rw [take_all (by rw [HB.out.len]; omega), show cc = 0 by omega, HV0.out] at h1
            rw [val_take_succ HX.out, Nat.add_mul, Nat.mul_assoc]
            omega)
          have HZE := Lib.hid (show ∀ j, i + 1 + m ≤ j → j < n + m + 1 → l[j]? = some 0 from fun j h1 h2 => HZ.out j (by omega) h2)
          clear hst
          go_wp2_with fail
          go_roundg (n - (i + 1))
          case measure => omega
          case rel => exact ⟨i + 1, l, by go_num, by omega, rfl, HLEN, HOK, HBK, HVE, HZE, HBL⟩
    · obtain rfl : i = n := by omega
      have hd : decide (i < i) = false := by simp
      have HN := Lib.hid (Nw.of_blk (base := w.heap.size) HBK0.out HOK0.out (Nat.le_refl _) HLEN0.out (by unfold maxLen; omega))
      have HVV := Lib.hid (show val l0 = val a * val b by
        have h1 := HV0.out
        rwa [take_all (by rw [HA.out.len]; omega)] at h1)
      go_wp2_with fail
      refine (rTrim _ (i + m + 1) _ l0 wr HN.out.sl (by omega)).mono ?_
      rw [HVV.out]
      rintro e w2 ⟨C, k, ck, rfl, HC, HL2⟩
      go_wp2_with fail
      go_ret
      exact ⟨C, k, ck, rfl, Lib.hid (HC.out.base HBL0.out.size), Lib.hid (HBL0.out.trans (HL2.out.mono HBL0.out.size))⟩
end Go.Proofs.YtffdkakogeofmaaGreatDoor
