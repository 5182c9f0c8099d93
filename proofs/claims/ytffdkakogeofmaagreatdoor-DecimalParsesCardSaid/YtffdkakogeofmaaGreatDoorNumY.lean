/-
  The walks of the reference: Sub, Shl, Shr.
-/
import Derived.Test.YtffdkakogeofmaaGreatDoorNumW
set_option linter.unusedVariables false
namespace Go.Fl.Nm
open Go.RowKit Go.Fl
theorem rsub_limb (x y cc : Nat) (hx : x < BB) (hy : y < BB) (hc : cc ≤ 1) : (x + BB - y - cc) / BB ≤ 1 ∧ (x + BB - y - cc) % BB + y + cc = x + BB * (1 - (x + BB - y - cc) / BB) := by
  unfold BB at *
  omega
theorem rsub_step {o a b : List Nat} {i cc d r : Nat} (hl : o.length = i) (hok : ok o) (hv : val o + val (b.take i) = val (a.take i) + BB ^ i * cc) (hd : d < BB) (he : d + at0 b i + cc = at0 a i + BB * r) :
    (o ++ [d]).length = i + 1 ∧ ok (o ++ [d]) ∧ val (o ++ [d]) + val (b.take (i + 1)) = val (a.take (i + 1)) + BB ^ (i + 1) * r := by
  refine ⟨by simp [hl], ok_append.2 ⟨hok, ok_cons.2 ⟨hd, ok_nil⟩⟩, ?_⟩
  rw [val_snoc, hl, take_at0 a, take_at0 b, Nat.pow_succ, Nat.mul_assoc]
  have h3 : BB ^ i * (d + at0 b i + cc) = BB ^ i * (at0 a i + BB * r) := by rw [he]
  rw [Nat.mul_add, Nat.mul_add, Nat.mul_add] at h3
  omega
theorem rsub_end {o a b : List Nat} {n cc : Nat} (hl : o.length = n) (hok : ok o) (hoa : ok a) (ha : a.length = n) (hv : val o + val (b.take n) = val (a.take n) + BB ^ n * cc) (hle : val b ≤ val a) : val o = val a - val b := by
  have h1 := val_lt hok
  have h2 := val_lt hoa
  rw [hl] at h1
  rw [ha] at h2
  rw [List.take_of_length_le (show a.length ≤ n by omega)] at hv
  have h3 : val (b.take n) = val b := by
    rcases Nat.lt_or_ge b.length n with h | h
    · rw [List.take_of_length_le (by omega)]
    · have e := val_split b n h
      rcases Nat.eq_zero_or_pos (val (b.drop n)) with h0 | h0
      · rw [h0] at e; omega
      · have : BB ^ n * 1 ≤ BB ^ n * val (b.drop n) := Nat.mul_le_mul_left _ h0
        omega
  rw [h3] at hv
  rcases Nat.eq_zero_or_pos cc with h | h
  · subst h; omega
  · have : BB ^ n * 1 ≤ BB ^ n * cc := Nat.mul_le_mul_left _ h
    omega
theorem or_low32 (s cc X : Nat) (hs : s < 32) (hX : X % 2 ^ s = 0) (hXb : X < 4294967296) (hc : cc < 2 ^ s) (hsum : X + cc < 4294967296) : bits .or .u32 (cc : Int) (X : Int) = ((cc + X : Nat) : Int) := by
  have h2 := two_pow_le31 s hs
  have hb := fun a b (ha : a < 2 ^ 32) (hb : b < 2 ^ 32) => (bits_nat .u32 32 (by decide) (fun n h0 h1 => by simp [IntKind.wrap, IntKind.bits, IntKind.signed]; omega) a b ha hb).2
  have := bits_join .u32 32 (by decide) (fun n h0 h1 => by simp [IntKind.wrap, IntKind.bits, IntKind.signed]; omega) s (X : Int) cc (by omega)
    (by
      have : (2 : Int) ^ s = ((2 ^ s : Nat) : Int) := by simp
      rw [this, ← Int.natCast_emod, hX]; rfl) (by omega) (by omega)
    (by
      have : (2 : Int) ^ s = ((2 ^ s : Nat) : Int) := by simp
      rw [this]; omega) (by omega)
  rw [hb X cc (by omega) (by omega)] at this
  rw [hb cc X (by omega) (by omega), Nat.or_comm, this]
  omega
/-- The low part of a shifted limb. -/
theorem low_part32 (x s : Nat) (hs : s < 32) : (x * 2 ^ s) % BB % 2 ^ s = 0 := by
  obtain ⟨c, hc⟩ := BB_dvd s hs
  rw [hc, Nat.mul_comm x, Nat.mul_mod_mul_left, Nat.mul_mod_right]
theorem low_sum (x s cc : Nat) (hs : s < 32) (hc : cc < 2 ^ s) : (x * 2 ^ s) % BB + cc < BB := by
  obtain ⟨c, hcc⟩ := BB_dvd s hs
  have hp : 0 < 2 ^ s := Nat.two_pow_pos s
  have hc0 : 0 < c := by
    rcases Nat.eq_zero_or_pos c with h | h
    · rw [h] at hcc; unfold BB at hcc; omega
    · exact h
  rw [hcc, Nat.mul_comm x, Nat.mul_mod_mul_left]
  have h1 : x % c + 1 ≤ c := Nat.mod_lt _ hc0
  have h2 : 2 ^ s * (x % c + 1) ≤ 2 ^ s * c := Nat.mul_le_mul_left _ h1
  rw [Nat.mul_add] at h2
  omega
theorem high_lt (x s : Nat) (hx : x < BB) : x * 2 ^ s / BB < 2 ^ s := by
  rw [Nat.div_lt_iff_lt_mul BB_pos, Nat.mul_comm]
  exact Nat.mul_lt_mul_of_pos_left hx (Nat.two_pow_pos s)
theorem rshl_step {l a : List Nat} {i k n s x cc : Nat} (hl : l.length = k + n + 1) (hok : ok l) (hi : i < n) (hs : s < 32) (hv : val l = BB ^ k * (2 ^ s * val (a.take i))) (hcc : l[k + i]? = some cc) (hcb : cc < 2 ^ s)
    (hz : ∀ j, k + i < j → j < k + n + 1 → l[j]? = some 0) (hx : a[i]? = some x) (hxB : x < BB) :
    ((l.set (k + i) (cc + x * 2 ^ s % BB)).set (k + i + 1) (x * 2 ^ s / BB)).length = k + n + 1 ∧ ok ((l.set (k + i) (cc + x * 2 ^ s % BB)).set (k + i + 1) (x * 2 ^ s / BB)) ∧
    val ((l.set (k + i) (cc + x * 2 ^ s % BB)).set (k + i + 1) (x * 2 ^ s / BB)) = BB ^ k * (2 ^ s * val (a.take (i + 1))) ∧
    ((l.set (k + i) (cc + x * 2 ^ s % BB)).set (k + i + 1) (x * 2 ^ s / BB))[k + (i + 1)]? = some (x * 2 ^ s / BB) ∧
    (∀ j, k + (i + 1) < j → j < k + n + 1 → ((l.set (k + i) (cc + x * 2 ^ s % BB)).set (k + i + 1) (x * 2 ^ s / BB))[j]? = some 0) := by
  have h2 := low_sum x s cc hs hcb
  have h3 := high_lt x s hxB
  have h4 := two_pow_le31 s hs
  refine ⟨by simp [hl], ok_set (ok_set hok _ _ (by omega)) _ _ (by unfold BB at *; omega), ?_, ?_, fun j h1 h2 => ?_⟩
  · have e1 := val_set (cc + x * 2 ^ s % BB) hcc
    have e2 := val_set0 (l := l.set (k + i) (cc + x * 2 ^ s % BB)) (j := k + i + 1) (x * 2 ^ s / BB) (by rw [at_set_ne _ (by omega)]; exact hz _ (by omega) (by omega))
    rw [e2, val_take_succ hx]
    have e3 := Nat.div_add_mod (x * 2 ^ s) BB
    have e4 : BB ^ (k + i) * (BB * (x * 2 ^ s / BB)) + BB ^ (k + i) * (x * 2 ^ s % BB) = BB ^ (k + i) * (x * 2 ^ s) := by rw [← Nat.mul_add, e3]
    rw [Nat.pow_succ, Nat.mul_assoc]
    have e5 : BB ^ k * (2 ^ s * (val (a.take i) + BB ^ i * x)) = BB ^ k * (2 ^ s * val (a.take i)) + BB ^ (k + i) * (x * 2 ^ s) := by
      rw [Nat.mul_add, Nat.mul_add, Nat.pow_add]
      congr 1
      rw [Nat.mul_assoc, Nat.mul_left_comm (2 ^ s), Nat.mul_comm (2 ^ s) x]
    rw [e5, ← hv, ← e4]
    rw [Nat.mul_add] at e1
    omega
  · rw [show k + (i + 1) = k + i + 1 by omega, List.getElem?_set_self (by simp [hl]; omega)]
  · rw [at_set_ne _ (by omega), at_set_ne _ (by omega)]
    exact hz j (by omega) h2
theorem drop_at0 (l : List Nat) (i : Nat) : val (l.drop i) = at0 l i + BB * val (l.drop (i + 1)) := by
  rcases Nat.lt_or_ge i l.length with hi | hi
  · rw [at0_in (List.getElem?_eq_getElem hi)]
    exact val_drop (List.getElem?_eq_getElem hi)
  · rw [at0_out hi, List.drop_eq_nil_of_le hi, List.drop_eq_nil_of_le (by omega)]; rfl
theorem val_div_pow {a : List Nat} (h : ok a) (k : Nat) : val a / BB ^ k = val (a.drop k) := by
  rcases Nat.lt_or_ge a.length k with hk | hk
  · rw [List.drop_eq_nil_of_le (by omega), val_nil]
    apply Nat.div_eq_of_lt
    exact Nat.lt_of_lt_of_le (val_lt h) (Nat.pow_le_pow_right BB_pos (by omega))
  · have e := val_split a k hk
    have h1 := val_lt (ok_take h k)
    rw [List.length_take, Nat.min_eq_left hk] at h1
    rw [e, Nat.add_mul_div_left _ _ (Nat.pow_pos BB_pos), Nat.div_eq_of_lt h1, Nat.zero_add]
theorem rshr_step {o a : List Nat} {j k s : Nat} (hl : o.length = j) (hok : ok o) (hoa : ok a) (hs : s < 32) (hv : val o + BB ^ j * (val (a.drop (k + j)) / 2 ^ s) = val (a.drop k) / 2 ^ s) :
    (o ++ [(at0 a (k + j) + at0 a (k + j + 1) * BB) / 2 ^ s % BB]).length = j + 1 ∧ ok (o ++ [(at0 a (k + j) + at0 a (k + j + 1) * BB) / 2 ^ s % BB]) ∧
    val (o ++ [(at0 a (k + j) + at0 a (k + j + 1) * BB) / 2 ^ s % BB]) + BB ^ (j + 1) * (val (a.drop (k + (j + 1))) / 2 ^ s) = val (a.drop k) / 2 ^ s := by
  refine ⟨by simp [hl], ok_append.2 ⟨hok, ok_cons.2 ⟨Nat.mod_lt _ BB_pos, ok_nil⟩⟩, ?_⟩
  rw [val_snoc, hl, ← hv, drop_at0 a (k + j), show k + (j + 1) = k + j + 1 by omega, drop_at0 a (k + j + 1), shr_limb _ _ _ s hs (at0_lt hoa (k + j)), Nat.pow_succ, Nat.mul_add, Nat.mul_assoc]
  omega
end Go.Fl.Nm

namespace Go.Proofs.YtffdkakogeofmaaGreatDoor
open Go.RowKit Go.Fl Go.Fl.Nm

def RSubRel (w : World) (n : Nat) (a b : List Nat) (k : Nat) (ov cv iv : Value) (wr : World) : Prop :=
  ∃ (i cc : Nat) (o : List Nat), iv = .int .i64 i ∧ cv = .int .u64 cc ∧ cc ≤ 1 ∧ k = n - i ∧ i ≤ n ∧ Hid (o.length = i) ∧ Hid (ok o) ∧ Hid (wr.ownsRow w.heap.size tU 1 ov i (U o)) ∧
    Hid (val o + val (b.take i) = val (a.take i) + BB ^ i * cc) ∧ Hid (Below w.heap.size w wr)

set_option maxHeartbeats 800000 in
set_option maxRecDepth 100000 in
theorem rSub (A B : Option Addr) (n c m d : Nat) (a b : List Nat) (w : World) (ha : Sl w A n c a) (hb : Sl w B m d b) (hn : n ≤ 900000) (hm : m ≤ 900000) (hle : val b ≤ val a) :
    Calls Tryz.prog 145 #[.slice A n c, .slice B m d] w (RP (val a - val b) w) := by
  have HA := Lib.hid ha
  have HB := Lib.hid hb
  have HLE := Lib.hid hle
  clear ha hb hle
  go_enter Tryz.func145, Tryz.ntmps145
  go_wp2_with fail
  go_loopg [5, 6, 7] n (RSubRel w n a b)
  case atStart => exact ⟨0, 0, [], rfl, rfl, by omega, by omega, by omega, Lib.hid rfl, Lib.hid ok_nil, Lib.hid ⟨rfl, .inl ⟨rfl, rfl⟩⟩, Lib.hid (by simp [val_nil]), Lib.hid (Below.refl _ _)⟩
  case round =>
    obtain ⟨i, cc, o, rfl, rfl, hcc, rfl, hi, HLEN, HOK, HOW, HV, HBL⟩ := hrel
    by_cases hin : i < n
    · have hd : decide (i < n) = true := by simpa using hin
      have KA := Lib.hid (rAt A n c i a wr (HA.out.below HBL.out) (by omega))
      have KB := Lib.hid (rAt B m d i b wr (HB.out.below HBL.out) (by omega))
      have hx := at0_lt HA.out.ok i
      have hy := at0_lt HB.out.ok i
      obtain ⟨hq1, hq2⟩ := rsub_limb (at0 a i) (at0 b i) cc hx hy hcc
      have HS := Lib.hid (rsub_step HLEN.out HOK.out HV.out (Nat.mod_lt _ BB_pos) hq2)
      generalize at0 a i = x at *
      generalize at0 b i = y at *
      clear hq2
      have hxb : x + BB - y - cc < 18446744073709551616 := by unfold BB; omega
      have hXi : (x : Int) + 4294967296 - y - cc = ((x + BB - y - cc : Nat) : Int) := by unfold BB; omega
      have hand := and_mask64 (x + BB - y - cc) hxb
      generalize x + BB - y - cc = X at *
      obtain ⟨i0, ti, tz0, tz1, tz2⟩ := info_parts Tryz.infoU32
      have hbs := HBL.out.size
      generalize hM : X % 4294967296 = M at *
      have HM := Lib.hid (show X % BB = M from hM)
      rw [HM.out] at HS
      have hMb : M < 4294967296 := by omega
      have hX1 : X / 4294967296 ≤ 1 := hq1
      clear hM
      generalize hT : X / BB = Tq at *
      have hTi : (X : Int) / 4294967296 = (Tq : Int) := by rw [← hT]; unfold BB; simp
      clear hT hX1
      go_wp2_with fail
      refine KA.out.mono ?_
      rintro e w1 ⟨rfl, rfl⟩
      go_wp2_with fail
      refine KB.out.mono ?_
      rintro e w1 ⟨rfl, rfl⟩
      go_wp2_with (at_builtin; refine wpList_append_lies _ rfl _ _ _ rfl w.heap.size 49 i0 _ 1 4 Tryz.underlying23 ti tz0 tz1 tz2 rfl (by omega) u5 i (U o) rfl (by exact HOW.out.alloc _) ⟨wr.heap.size, 0, none⟩ 1 1 [.int .u32 (M : Int)] rfl rfl (by exact World.news_of_block (cs := #[.int .u32 (M : Int)]) (t := 49) (fr := (0, 0)) (heap_alloc_new wr _)) (by simp [Value.oneCell']) (by omega) (by unfold maxLen; omega) (by omega) (by simp; omega) (wr.heap.size + 1) (by simp) ?_)
      intro g cap w3 hown hgrow hat hlt2
      have HO3 := Lib.hid (show w3.ownsRow w.heap.size tU 1 (.slice (some ⟨g, 0, none⟩) (i + 1) cap) (i + 1) (U (o ++ [M])) by rw [U_append]; exact hown)
      have HL3 := Lib.hid (show Below w.heap.size w w3 from (HBL.out.alloc (by omega) _).grown hgrow (by simp; omega) (fun k hk => (HOW.out.lt k hk).1))
      clear hown hgrow hat hlt2 ti tz0 tz1 tz2
      go_wp2_with fail
      go_roundg (n - (i + 1))
      case measure => omega
      case rel => exact ⟨i + 1, 1 - Tq, o ++ [M], by go_num, by congr 1; omega, by omega, rfl, by omega, Lib.hid HS.out.1, Lib.hid HS.out.2.1, HO3, Lib.hid HS.out.2.2, HL3⟩
    · obtain rfl : i = n := by omega
      have hd : decide (i < i) = false := by simp
      obtain ⟨A', c', hu, hnw⟩ := Nw.of_own HOW.out HOK.out
      subst hu
      have HN := Lib.hid hnw
      have HVV := Lib.hid (rsub_end HLEN.out HOK.out HA.out.ok HA.out.len HV.out HLE.out)
      clear hnw
      go_wp2_with fail
      refine (rTrim A' i c' o wr HN.out.sl (by omega)).mono ?_
      rw [HVV.out]
      rintro e w2 ⟨C, k, ck, rfl, HC, HL2⟩
      go_wp2_with fail
      go_ret
      exact ⟨C, k, ck, rfl, Lib.hid (HC.out.base HBL.out.size), Lib.hid (HBL.out.trans (HL2.out.mono HBL.out.size))⟩

def RShlRel (w : World) (g k n s : Nat) (a : List Nat) (q : Nat) (iv : Value) (wr : World) : Prop :=
  ∃ (i cc : Nat) (l : List Nat), iv = .int .i64 i ∧ i ≤ n ∧ q = n - i ∧ Hid (l.length = k + n + 1) ∧ Hid (ok l) ∧ Hid (Blk wr g tU (UA l)) ∧ Hid (val l = BB ^ k * (2 ^ s * val (a.take i))) ∧ Hid (l[k + i]? = some cc) ∧ cc < 2 ^ s ∧
    Hid (∀ j, k + i < j → j < k + n + 1 → l[j]? = some 0) ∧ Hid (Below w.heap.size w wr)

set_option maxHeartbeats 1600000 in
set_option maxRecDepth 100000 in
theorem rShl (A : Option Addr) (n0 c p : Nat) (a0 : List Nat) (w : World) (ha : Sl w A n0 c a0) (hn : n0 ≤ 100000) (hp : p ≤ 1000000) :
    Calls Tryz.prog 75 #[.slice A n0 c, .int .i64 p] w (RP (val a0 * 2 ^ p) w) := by
  have HA0 := Lib.hid ha
  have HLL := Lib.hid (Nat.le_trans (limbs_le_len ha.ok) (Nat.le_of_eq ha.len))
  clear ha
  have HP := Lib.hid (pow_split p)
  generalize hk : p / 32 = k at *
  generalize hs : p % 32 = s at *
  have hs32 : s < 32 := by omega
  have hkb : k ≤ 40000 := by omega
  have hd1 : (p : Int) / 32 = k := by omega
  have hd2 : (p : Int) % 32 = s := by omega
  clear hk hs
  have hs31 := two_pow_le31 s hs32
  have hs0 := Nat.two_pow_pos s
  go_enter Tryz.func75, Tryz.ntmps75
  go_wp2_with fail
  refine (rTrim A n0 c a0 w HA0.out (by omega)).mono ?_
  rintro e w1 ⟨X, n, cx, rfl, HX, HL1⟩
  have HA := Lib.hid HX.out.sl
  have hnn : n ≤ 100000 := by
    have h1 := HA.out.len
    have h2 := HLL.out
    omega
  have HVA := Lib.hid (val_limbs (val a0))
  generalize limbs (val a0) = a at *
  have hmk := make_u32 (k + n + 1) (k + n + 1) ((k : Int) + n + 1) ((k : Int) + n + 1) (by omega) (by omega) (by omega) (by omega)
  have HB0 := Lib.hid (Blk.new w1 tU (UA (zeros (k + n + 1))))
  have HL0 := Lib.hid (HL1.out.alloc HL1.out.size (.cells (UA (zeros (k + n + 1))) tU))
  have HA1 := Lib.hid (HA.out.alloc (.cells (UA (zeros (k + n + 1))) tU))
  go_wp2_with fail
  clear hmk
  have HL0' := Lib.hid ((Below.refl w1.heap.size w1).alloc (Nat.le_refl _) (.cells (UA (zeros (k + n + 1))) tU))
  go_loopg [6] n (RShlRel w1 w1.heap.size k n s a)
  case atStart =>
    exact ⟨0, 0, zeros (k + n + 1), rfl, by omega, rfl, Lib.hid (zeros_len _), Lib.hid (ok_zeros _), HB0, Lib.hid (by simp [val_nil, zeros, val_zeros]), Lib.hid (zeros_at _ _ (by omega)), hs0, Lib.hid (fun j _ h => zeros_at _ j h), HL0'⟩
  case round =>
    obtain ⟨i, cc, l, rfl, hi, rfl, HLEN, HOK, HBK, HV, HCC, hcb, HZ, HBL⟩ := hrel
    by_cases hin : i < n
    · have hd : decide (i < n) = true := by simpa using hin
      obtain ⟨b1, o1, x, hA, hb1, hx, hxB, hcell1⟩ := HA.out.at_ hin
      subst hA
      have hc1 : wr.cell? ⟨b1, o1 + i, none⟩ = some (.int .u32 x) := (HBL.out.cell (p := ⟨b1, _, none⟩) hb1).trans hcell1
      have HS := Lib.hid (rshl_step HLEN.out HOK.out hin hs32 HV.out HCC.out hcb HZ.out hx hxB)
      have h1 := low_sum x s cc hs32 hcb
      have h2 := low_part32 x s hs32
      have h3 := high_lt x s hxB
      have h4 := shl_lt x s 0 hxB hs32 hs0
      have h5 : BB * 2 ^ s ≤ BB * 2147483648 := Nat.mul_le_mul_left _ hs31
      clear hcell1 hx
      have hg1 : wr.cell? ⟨w1.heap.size, k + i, none⟩ = some (.int .u32 cc) := blkU_cell HBK.out HCC.out
      have hg2 : wr.frozen? ⟨w1.heap.size, k + i, none⟩ = false := HBK.out.frozen _
      have hI : (i : Int) + k = ((k + i : Nat) : Int) := by omega
      unfold BB at h1 h2 h4 h5 hxB
      have hcB : cc < 4294967296 := by omega
      have hXi : (x : Int) * 2 ^ s = ((x * 2 ^ s : Nat) : Int) := by simp
      have h6 : x * 2 ^ s / 4294967296 < 2 ^ s := h3
      have HXX := Lib.hid (show x * 2 ^ s % BB = x * 2 ^ s % 4294967296 ∧ x * 2 ^ s / BB = x * 2 ^ s / 4294967296 from ⟨rfl, rfl⟩)
      rw [HXX.out.1, HXX.out.2] at HS
      clear HXX h3
      generalize x * 2 ^ s = Y at *
      have hY : Y < 18446744073709551616 := by omega
      have hand := and_mask64 Y hY
      have hor := or_low32 s cc (Y % 4294967296) hs32 h2 (by omega) hcb (by omega)
      have hhi : (Y : Int) / 4294967296 = ((Y / 4294967296 : Nat) : Int) := by simp
      generalize hlo : Y % 4294967296 = lo at *
      generalize hhe : Y / 4294967296 = hh at *
      have hhb : hh < 4294967296 := by omega
      have hlb : lo < 4294967296 := by omega
      clear h1 h2 h4 h5 hlo hhe
      have HB2 := Lib.hid (blkU_set HBK.out (k + i) (cc + lo))
      rw [show ((cc + lo : Nat) : Int) = (cc : Int) + lo by omega] at HB2
      have hz1 : (l.set (k + i) (cc + lo))[k + i + 1]? = some 0 := by rw [at_set_ne _ (by omega)]; exact HZ.out _ (by omega) (by omega)
      have hg3 : (wr.setCell ⟨w1.heap.size, k + i, none⟩ (.int .u32 ((cc : Int) + lo))).cell? ⟨w1.heap.size, k + i + 1, none⟩ = some (.int .u32 ((0 : Nat) : Int)) := blkU_cell HB2.out hz1
      have hg4 : (wr.setCell ⟨w1.heap.size, k + i, none⟩ (.int .u32 ((cc : Int) + lo))).frozen? ⟨w1.heap.size, k + i + 1, none⟩ = false := HB2.out.frozen _
      clear hz1
      go_wp2_with fail
      go_roundg (n - (i + 1))
      case measure => omega
      case rel =>
        exact ⟨i + 1, hh, _, by go_num, by omega, rfl, Lib.hid HS.out.1, Lib.hid HS.out.2.1, Lib.hid (blkU_set HB2.out (k + i + 1) hh), Lib.hid HS.out.2.2.1, Lib.hid HS.out.2.2.2.1, h6, Lib.hid HS.out.2.2.2.2, Lib.hid ((HBL.out.setCell (Nat.le_refl _) _).setCell (Nat.le_refl _) _)⟩
    · obtain rfl : i = n := by omega
      have hd : decide (i < i) = false := by simp
      have HN := Lib.hid (Nw.of_blk (base := w1.heap.size) HBK.out HOK.out (Nat.le_refl _) HLEN.out (by unfold maxLen; omega))
      have HVV := Lib.hid (show val l = val a0 * 2 ^ p by
        have h1 := HV.out
        rw [take_all (by rw [HA.out.len]; omega), HVA.out] at h1
        rw [h1, HP.out, ← Nat.mul_assoc, Nat.mul_comm])
      go_wp2_with fail
      refine (rTrim _ (k + i + 1) _ l wr HN.out.sl (by omega)).mono ?_
      rw [HVV.out]
      rintro e w2 ⟨C, kk, ck, rfl, HC, HL2⟩
      go_wp2_with fail
      go_ret
      have hs1 := HL1.out.size
      have hs2 := HBL.out.size
      exact ⟨C, kk, ck, rfl, Lib.hid (HC.out.base (by omega)), Lib.hid ((HL1.out.trans (HBL.out.mono hs1)).trans (HL2.out.mono (by omega)))⟩

def RShrRel (w : World) (k n s : Nat) (a : List Nat) (q : Nat) (ov iv : Value) (wr : World) : Prop :=
  ∃ (j : Nat) (o : List Nat), iv = .int .i64 ((k : Int) + j) ∧ (k + j ≤ n ∨ j = 0) ∧ q = n - (k + j) ∧ Hid (o.length = j) ∧ Hid (ok o) ∧ Hid (wr.ownsRow w.heap.size tU 1 ov j (U o)) ∧
    Hid (val o + BB ^ j * (val (a.drop (k + j)) / 2 ^ s) = val (a.drop k) / 2 ^ s) ∧ Hid (Below w.heap.size w wr)

set_option maxHeartbeats 1600000 in
set_option maxRecDepth 100000 in
theorem rShr (A : Option Addr) (n c p : Nat) (a : List Nat) (w : World) (ha : Sl w A n c a) (hn : n ≤ 100000) (hp : p ≤ 1000000) :
    Calls Tryz.prog 82 #[.slice A n c, .int .i64 p] w (RP (val a / 2 ^ p) w) := by
  have HA := Lib.hid ha
  clear ha
  have HP := Lib.hid (pow_split p)
  generalize hk : p / 32 = k at *
  generalize hs : p % 32 = s at *
  have hs32 : s < 32 := by omega
  have hkb : k ≤ 40000 := by omega
  have hd1 : (p : Int) / 32 = k := by omega
  have hd2 : (p : Int) % 32 = s := by omega
  clear hk hs
  go_enter Tryz.func82, Tryz.ntmps82
  go_wp2_with fail
  go_loopg [5, 6] (n - k) (RShrRel w k n s a)
  case atStart => exact ⟨0, [], by go_num, .inr rfl, rfl, Lib.hid rfl, Lib.hid ok_nil, Lib.hid ⟨rfl, .inl ⟨rfl, rfl⟩⟩, Lib.hid (by simp [val_nil]), Lib.hid (Below.refl _ _)⟩
  case round =>
    obtain ⟨j, o, rfl, hj, rfl, HLEN, HOK, HOW, HV, HBL⟩ := hrel
    have hI : (k : Int) + j = ((k + j : Nat) : Int) := by omega
    rw [hI]
    by_cases hin : k + j < n
    · have hd : decide (k + j < n) = true := by simpa using hin
      have KA := Lib.hid (rAt A n c (k + j) a wr (HA.out.below HBL.out) (by omega))
      have KB := Lib.hid (rAt A n c (k + j + 1) a wr (HA.out.below HBL.out) (by omega))
      rw [show ((k + j + 1 : Nat) : Int) = ((k + j : Nat) : Int) + 1 by omega] at KB
      have hx := at0_lt HA.out.ok (k + j)
      have hy := at0_lt HA.out.ok (k + j + 1)
      have HS := Lib.hid (rshr_step HLEN.out HOK.out HA.out.ok hs32 HV.out)
      generalize at0 a (k + j) = x at *
      generalize at0 a (k + j + 1) = y at *
      have hXi : (x : Int) + y * 4294967296 = ((x + y * BB : Nat) : Int) := by unfold BB; omega
      have hXb : x + y * BB < 18446744073709551616 := by unfold BB; omega
      generalize x + y * BB = X at *
      have hsi : (X : Int) / 2 ^ s = ((X / 2 ^ s : Nat) : Int) := by simp
      have hZb : X / 2 ^ s < 18446744073709551616 := Nat.lt_of_le_of_lt (Nat.div_le_self _ _) hXb
      have hand := and_mask64 (X / 2 ^ s) hZb
      generalize X / 2 ^ s = Z at *
      obtain ⟨i0, ti, tz0, tz1, tz2⟩ := info_parts Tryz.infoU32
      have hbs := HBL.out.size
      generalize hM : Z % 4294967296 = M at *
      have HM := Lib.hid (show Z % BB = M from hM)
      rw [HM.out] at HS
      have hMb : M < 4294967296 := by omega
      clear hM hI
      obtain ⟨i, hi⟩ : ∃ i, i = k + j := ⟨_, rfl⟩
      rw [← hi] at hd hin KA KB ⊢
      have HII := Lib.hid hi
      have hib : i ≤ 100000 := by omega
      have hjb : j ≤ 100000 := by omega
      clear hi
      go_wp2_with fail
      refine KA.out.mono ?_
      rintro e w1 ⟨rfl, rfl⟩
      go_wp2_with fail
      refine KB.out.mono ?_
      rintro e w1 ⟨rfl, rfl⟩
      go_wp2_with (at_builtin; refine wpList_append_lies _ rfl _ _ _ rfl w.heap.size 49 i0 _ 1 4 Tryz.underlying23 ti tz0 tz1 tz2 rfl (by omega) u5 j (U o) rfl (by exact HOW.out.alloc _) ⟨wr.heap.size, 0, none⟩ 1 1 [.int .u32 (M : Int)] rfl rfl (by exact World.news_of_block (cs := #[.int .u32 (M : Int)]) (t := 49) (fr := (0, 0)) (heap_alloc_new wr _)) (by simp [Value.oneCell']) (by omega) (by unfold maxLen; omega) (by omega) (by simp; omega) (wr.heap.size + 1) (by simp) ?_)
      intro g cap w3 hown hgrow hat hlt2
      have HO3 := Lib.hid (show w3.ownsRow w.heap.size tU 1 (.slice (some ⟨g, 0, none⟩) (j + 1) cap) (j + 1) (U (o ++ [M])) by rw [U_append]; exact hown)
      have HL3 := Lib.hid (show Below w.heap.size w w3 from (HBL.out.alloc (by omega) _).grown hgrow (by simp; omega) (fun k hk => (HOW.out.lt k hk).1))
      clear hown hgrow hat hlt2 ti tz0 tz1 tz2
      go_wp2_with fail
      go_roundg (n - (k + (j + 1)))
      case measure => have := HII.out; omega
      case rel => exact ⟨j + 1, o ++ [M], by have := HII.out; congr 1; omega, .inl (by have := HII.out; omega), rfl, Lib.hid HS.out.1, Lib.hid HS.out.2.1, HO3, Lib.hid HS.out.2.2, HL3⟩
    · have hd : decide (k + j < n) = false := by simpa using hin
      obtain ⟨A', c', hu, hnw⟩ := Nw.of_own HOW.out HOK.out
      subst hu
      have HN := Lib.hid hnw
      have HVV := Lib.hid (show val o = val a / 2 ^ p by
        have h1 := HV.out
        rw [List.drop_eq_nil_of_le (show a.length ≤ k + j by rw [HA.out.len]; omega), val_nil, Nat.zero_div, Nat.mul_zero, Nat.add_zero] at h1
        rw [h1, HP.out, ← Nat.div_div_eq_div_mul, val_div_pow HA.out.ok])
      clear hnw
      obtain ⟨i, hi⟩ : ∃ i, i = k + j := ⟨_, rfl⟩
      have hjb : j ≤ 1000000 := by omega
      have hib : i ≤ 2000000 := by omega
      rw [← hi] at hd ⊢
      clear hi hin hI
      go_wp2_with fail
      refine (rTrim A' j c' o wr HN.out.sl (by omega)).mono ?_
      rw [HVV.out]
      rintro e w2 ⟨C, kk, ck, rfl, HC, HL2⟩
      go_wp2_with fail
      go_ret
      exact ⟨C, kk, ck, rfl, Lib.hid (HC.out.base HBL.out.size), Lib.hid (HBL.out.trans (HL2.out.mono HBL.out.size))⟩
end Go.Proofs.YtffdkakogeofmaaGreatDoor
