/-
  The walks of the reference's limbs and numbers: zeros, right, Of, Neg, Sign, Top.
-/
import Derived.Test.YtoogeihbhhcpaaaGreatDoorDecP
import Derived.Test.YtoogeihbhhcpaaaGreatDoorPkF
import Derived.Test.YtoogeihbhhcpaaaGreatDoorRaT
import Derived.Test.YtoogeihbhhcpaaaGreatDoorDecB
set_option linter.unusedVariables false
namespace Go.Fl.Nm
open Go.RowKit Go.Fl
theorem Sl.from_ {w : World} {b off n c k : Nat} {l : List Nat} (h : Sl w (some ⟨b, off, none⟩) n c l) (hk : k < n) : Sl w (some ⟨b, off + k, none⟩) (n - k) (c - k) (l.drop k) := by
  have hcap := h.cap
  have hcm := h.capMax
  refine ⟨by rw [List.length_drop, h.len], ok_drop h.ok k, by omega, by omega, fun h => by (cases h), by simp [U, List.length_drop, h.len], fun h0 => ?_⟩
  obtain ⟨b', off', e, hb, hc⟩ := h.rd.2 (by omega)
  injection e with e
  injection e with e1 e2
  subst e1 e2
  refine ⟨b, off + k, rfl, hb, fun j u hu => ?_⟩
  have := hc (k + j) u (by
    unfold U at hu ⊢
    rw [List.map_drop, List.getElem?_drop] at hu
    exact hu)
  rw [← Nat.add_assoc] at this
  exact this
end Go.Fl.Nm
namespace Go.Fl.Dy
open Go.Fl.Nm
theorem bit_v2 {x j : Nat} (hx : x ≠ 0) (hj : j ≤ v2 x) : x / 2 ^ j % 2 = if j = v2 x then 1 else 0 := by
  obtain ⟨e, ho⟩ := v2_spec hx
  split
  · rename_i h
    subst h
    have : x / 2 ^ v2 x = od x := rfl
    rw [this]; exact ho
  · obtain ⟨d, hd⟩ : ∃ d, v2 x = j + (d + 1) := ⟨v2 x - j - 1, by omega⟩
    have e2 : x = 2 ^ j * (2 ^ d * 2 * od x) := by
      conv => lhs; rw [e, hd]
      rw [Nat.pow_add, Nat.pow_succ, Nat.mul_assoc, Nat.mul_assoc]
    have e3 : x / 2 ^ j = 2 ^ d * 2 * od x := by
      conv => lhs; rw [e2]
      exact Nat.mul_div_cancel_left _ (Nat.two_pow_pos j)
    rw [e3, Nat.mul_comm (2 ^ d), Nat.mul_assoc, Nat.mul_mod_right]
end Go.Fl.Dy
namespace Go.Proofs.YtoogeihbhhcpaaaGreatDoor
open Go.RowKit Go.Fl Go.Fl.Nm Go.Fl.Dy
def ZrRel (w : World) (V : Nat) (k : Nat) (iv : Value) (wr : World) : Prop :=
  ∃ j : Nat, iv = .int .i64 (j : Int) ∧ V - j = k ∧ j ≤ V ∧ Hid (Below w.heap.size w wr)
set_option maxHeartbeats 1600000 in
theorem uZeros (A : Option Addr) (n c x : Nat) (w : World) (ha : Sl w A n c (limbs x)) (hn : n ≤ 10000) (hx : x ≠ 0) :
    Calls Tryz.prog 181 #[.slice A n c] w (Ret (.int .i64 (v2 x : Nat)) w) := by
  have HA := Lib.hid ha
  have hbl : blen x ≤ 32 * n := by rw [← ha.len]; exact bits_limbs (Nat.le_refl _)
  have hvl := v2_lt hx
  have HB := Lib.hid (fun (j : Nat) (hj : j ≤ v2 x) => bit_v2 hx hj)
  obtain ⟨V, hV⟩ : ∃ V, v2 x = V := ⟨_, rfl⟩
  rw [hV] at hvl HB ⊢
  have hVn : V < 32 * n := by omega
  clear ha hbl hvl hV
  go_enter Tryz.func181, Tryz.ntmps181
  go_wp2_with fail
  go_loopg [3] V (ZrRel w V)
  case atStart => exact ⟨0, rfl, rfl, Nat.zero_le _, Lib.hid (Below.refl _ _)⟩
  case round =>
    obtain ⟨j, rfl, hk, hj, HW⟩ := hrel
    obtain ⟨q, hq⟩ : ∃ q, q = j / 32 := ⟨_, rfl⟩
    obtain ⟨r, hr⟩ : ∃ r, r = j % 32 := ⟨_, rfl⟩
    have hr32 : r < 32 := by omega
    have hqn : q < n := by omega
    have hd1 : (j : Int) / 32 = q := by omega
    have hd2 : (j : Int) % 32 = r := by omega
    obtain ⟨b1, o1, y, hA, hb1, hy, hyB, hcell1⟩ := HA.out.at_ hqn
    subst hA
    have hc1 : wr.cell? ⟨b1, o1 + q, none⟩ = some (.int .u32 y) := (HW.out.cell (p := ⟨b1, _, none⟩) hb1).trans hcell1
    have hbit := bit_at HA.out.ok (show j = 32 * q + r by omega) hr32 hy
    rw [val_limbs, HB.out j hj] at hbit
    have hsh : y / 2 ^ r < 4294967296 := Nat.lt_of_le_of_lt (Nat.div_le_self _ _) hyB
    have hand := and_one32 (y / 2 ^ r) hsh
    have hshi : (y : Int) / 2 ^ r = ((y / 2 ^ r : Nat) : Int) := by simp
    have hj9 : j < 1000000 := by omega
    clear hq hr hcell1 hy
    unfold BB at hyB
    generalize y / 2 ^ r = z at *
    by_cases hjv : j = V
    · rw [if_pos hjv] at hbit
      have hz : ((z % 2 : Nat) : Int) = 1 := by omega
      rw [hz] at hand
      subst hjv
      clear hbit hz
      go_wp2_with fail
      go_ret
      exact ⟨rfl, HW⟩
    · rw [if_neg hjv] at hbit
      have hz : ((z % 2 : Nat) : Int) = 0 := by omega
      rw [hz] at hand
      clear hbit hz
      go_wp2_with fail
      go_roundg (V - (j + 1))
      case measure => omega
      case rel => exact ⟨j + 1, by go_num, rfl, by omega, HW⟩
def RtRel (w : World) (n s : Nat) (a : List Nat) (q : Nat) (ov iv : Value) (wr : World) : Prop :=
  ∃ (j : Nat) (o : List Nat), iv = .int .i64 (j : Int) ∧ j ≤ n ∧ q = n - j ∧ Hid (o.length = j) ∧ Hid (ok o) ∧ Hid (wr.ownsRow w.heap.size tU 1 ov j (U o)) ∧
    Hid (val o + BB ^ j * (val (a.drop j) / 2 ^ s) = val a / 2 ^ s) ∧ Hid (Below w.heap.size w wr)
theorem or_join64' (x y : Nat) (hx : x < 4294967296) (hy : y < 4294967296) : bits .or .u64 (x : Int) ((y : Int) * 4294967296) = ((x + y * BB : Nat) : Int) := by
  have h := or_join64 (y * 4294967296) x (by omega) (by omega) hx
  have hb := fun a b (ha : a < 2 ^ 64) (hb : b < 2 ^ 64) => (bits_nat .u64 64 (by decide) (fun n h0 h1 => by simp [IntKind.wrap, IntKind.bits, IntKind.signed]; omega) a b ha hb).2
  have e : (y : Int) * 4294967296 = ((y * 4294967296 : Nat) : Int) := by omega
  rw [e, hb x (y * 4294967296) (by omega) (by omega), Nat.or_comm, ← hb (y * 4294967296) x (by omega) (by omega), h]
  unfold BB
  congr 1
  omega
set_option maxHeartbeats 1600000 in
set_option maxRecDepth 100000 in
theorem uRight (b off n c p : Nat) (a0 : List Nat) (w : World) (ha : Sl w (some ⟨b, off, none⟩) n c a0) (hn : n ≤ 100000) (hp : p < 32 * n) :
    Calls Tryz.prog 182 #[.slice (some ⟨b, off, none⟩) n c, .int .i64 p] w (RP (val a0 / 2 ^ p) w) := by
  have HP := Lib.hid (pow_split p)
  generalize hk : p / 32 = k at *
  generalize hs : p % 32 = s at *
  have hs32 : s < 32 := by omega
  have hkn : k < n := by omega
  have hd1 : (p : Int) / 32 = k := by omega
  have hd2 : (p : Int) % 32 = s := by omega
  have HA := Lib.hid (ha.from_ hkn)
  have hcap := ha.cap
  have hcm := ha.capMax
  unfold maxLen at hcm
  have HVA := Lib.hid (val_div_pow ha.ok k)
  obtain ⟨m, hm⟩ : ∃ m, n - k = m := ⟨_, rfl⟩
  obtain ⟨c2, hc2⟩ : ∃ m, c - k = m := ⟨_, rfl⟩
  rw [hm, hc2] at HA
  have hge : decide ((n : Int) ≤ (k : Int)) = false := decide_eq_false (by omega)
  have hge' : decide (n ≤ k) = false := decide_eq_false (by omega)
  have k0 : (0 : Int) ≤ (k : Int) := by omega
  have k1 : (k : Int) ≤ (n : Int) := by omega
  have k2 : k ≤ n := by omega
  have hmn : m ≤ 100000 := by omega
  generalize a0.drop k = a at *
  clear ha hk hs
  go_enter Tryz.func182, Tryz.ntmps182
  go_upto_region 4 with (fail)
  clear hd1 hge hge' k0 k1 k2 hm hc2 hcap hcm
  go_wp2_with fail
  go_loopg [5, 6] m (RtRel w m s a)
  case atStart => exact ⟨0, [], rfl, by omega, rfl, Lib.hid rfl, Lib.hid ok_nil, Lib.hid ⟨rfl, .inl ⟨rfl, rfl⟩⟩, Lib.hid (by simp [val_nil]), Lib.hid (Below.refl _ _)⟩
  case round =>
    obtain ⟨i, o, rfl, hi, rfl, HLEN, HOK, HOW, HV, HBL⟩ := hrel
    obtain ⟨i0, ti, tz0, tz1, tz2⟩ := info_parts Tryz.infoU32
    have hbs := HBL.out.size
    by_cases hin : i < m
    · have hd : decide (i < m) = true := by simpa using hin
      by_cases him : i + 1 < m
      · obtain ⟨b1, o1, x, hA, hb1, hx, hxB, hcell1⟩ := HA.out.at_ hin
        injection hA with hA
        injection hA with hA1 hA2
        subst hA1 hA2
        have hc1 : wr.cell? ⟨b, off + k + i, none⟩ = some (.int .u32 x) := (HBL.out.cell (p := ⟨b, _, none⟩) hb1).trans hcell1
        have hax : at0 a i = x := at0_in hx
        clear hcell1 hx
        obtain ⟨b2, o2, y, hB, hb2, hy, hyB, hcell2⟩ := HA.out.at_ him
        injection hB with hB
        injection hB with hB1 hB2
        subst hB1 hB2
        have hc2 : wr.cell? ⟨b, off + k + (i + 1), none⟩ = some (.int .u32 y) := (HBL.out.cell (p := ⟨b, _, none⟩) hb2).trans hcell2
        have hay : at0 a (i + 1) = y := at0_in hy
        have hdm : decide (i + 1 < m) = true := by simpa using him
        have hdm2 : decide ((i : Int) + 1 < (m : Int)) = true := decide_eq_true (by omega)
        clear hcell2 hy
        have HS := Lib.hid (show (o ++ [(x + y * BB) / 2 ^ s % BB]).length = i + 1 ∧ ok (o ++ [(x + y * BB) / 2 ^ s % BB]) ∧ val (o ++ [(x + y * BB) / 2 ^ s % BB]) + BB ^ (i + 1) * (val (a.drop (i + 1)) / 2 ^ s) = val a / 2 ^ s from by
          have h9 := rshr_step (k := 0) HLEN.out HOK.out HA.out.ok hs32 (by rw [Nat.zero_add, List.drop_zero]; exact HV.out)
          rw [Nat.zero_add, Nat.zero_add, List.drop_zero, hax, hay] at h9
          exact h9)
        clear hax hay
        unfold BB at hxB hyB
        have hor := or_join64' x y hxB hyB
        have hXb : x + y * BB < 18446744073709551616 := by unfold BB; omega
        have hXI : (x : Int) + (y : Int) * 4294967296 = ((x + y * BB : Nat) : Int) := by unfold BB; omega
        generalize hX : x + y * BB = X at *
        have hshi : (X : Int) / 2 ^ s = ((X / 2 ^ s : Nat) : Int) := by simp
        have hZb : X / 2 ^ s < 18446744073709551616 := Nat.lt_of_le_of_lt (Nat.div_le_self _ _) hXb
        have hand := and_mask64 (X / 2 ^ s) hZb
        generalize X / 2 ^ s = Z at *
        generalize hM : Z % 4294967296 = M at *
        have HM := Lib.hid (show Z % BB = M from hM)
        rw [HM.out] at HS
        have hMb : M < 4294967296 := by omega
        clear hM
        go_wp2_with (at_builtin; refine wpList_append_lies _ rfl _ _ _ rfl w.heap.size 125 i0 _ 1 4 Tryz.underlying38 ti tz0 tz1 tz2 rfl (by omega) u5 i (U o) rfl (by exact HOW.out.alloc _) ⟨wr.heap.size, 0, none⟩ 1 1 [.int .u32 (M : Int)] rfl rfl (by exact World.news_of_block (cs := #[.int .u32 (M : Int)]) (t := 125) (fr := (0, 0)) (heap_alloc_new wr _)) (by simp [Value.oneCell']) (by omega) (by unfold maxLen; omega) (by omega) (by simp; omega) (wr.heap.size + 1) (by simp) ?_)
        intro g cap w3 hown hgrow hat hlt2
        have HO3 := Lib.hid (show w3.ownsRow w.heap.size tU 1 (.slice (some ⟨g, 0, none⟩) (i + 1) cap) (i + 1) (U (o ++ [M])) by rw [U_append]; exact hown)
        have HL3 := Lib.hid (show Below w.heap.size w w3 from (HBL.out.alloc (by omega) _).grown hgrow (by simp; omega) (fun k hk => (HOW.out.lt k hk).1))
        clear hown hgrow hat hlt2 ti tz0 tz1 tz2
        go_wp2_with fail
        go_roundg (m - (i + 1))
        case measure => omega
        case rel => exact ⟨i + 1, o ++ [M], by go_num, by omega, rfl, Lib.hid HS.out.1, Lib.hid HS.out.2.1, HO3, Lib.hid HS.out.2.2, HL3⟩
      · obtain ⟨b1, o1, x, hA, hb1, hx, hxB, hcell1⟩ := HA.out.at_ hin
        injection hA with hA
        injection hA with hA1 hA2
        subst hA1 hA2
        have hc1 : wr.cell? ⟨b, off + k + i, none⟩ = some (.int .u32 x) := (HBL.out.cell (p := ⟨b, _, none⟩) hb1).trans hcell1
        have hax : at0 a i = x := at0_in hx
        clear hcell1 hx
        obtain ⟨y, hy0⟩ : ∃ y : Nat, y = 0 := ⟨0, rfl⟩
        have hay : at0 a (i + 1) = y := by rw [hy0]; exact at0_out (by rw [HA.out.len]; omega)
        have hyB : y < BB := by rw [hy0]; exact BB_pos
        have hdm : decide (i + 1 < m) = false := by simpa using him
        have hdm2 : decide ((i : Int) + 1 < (m : Int)) = false := decide_eq_false (by omega)
        have HS := Lib.hid (show (o ++ [(x + y * BB) / 2 ^ s % BB]).length = i + 1 ∧ ok (o ++ [(x + y * BB) / 2 ^ s % BB]) ∧ val (o ++ [(x + y * BB) / 2 ^ s % BB]) + BB ^ (i + 1) * (val (a.drop (i + 1)) / 2 ^ s) = val a / 2 ^ s from by
          have h9 := rshr_step (k := 0) HLEN.out HOK.out HA.out.ok hs32 (by rw [Nat.zero_add, List.drop_zero]; exact HV.out)
          rw [Nat.zero_add, Nat.zero_add, List.drop_zero, hax, hay] at h9
          exact h9)
        clear hax hay
        unfold BB at hxB hyB
        have hXb : x + y * BB < 18446744073709551616 := by unfold BB; omega
        have hXI : (x : Int) + (y : Int) * 4294967296 = ((x + y * BB : Nat) : Int) := by unfold BB; omega
        have hXX : x + y * BB = x := by rw [hy0, Nat.zero_mul, Nat.add_zero]
        rw [hXX] at HS hXb
        clear hXI hXX hy0
        generalize hX : x = X at *
        have hshi : (X : Int) / 2 ^ s = ((X / 2 ^ s : Nat) : Int) := by simp
        have hZb : X / 2 ^ s < 18446744073709551616 := Nat.lt_of_le_of_lt (Nat.div_le_self _ _) hXb
        have hand := and_mask64 (X / 2 ^ s) hZb
        generalize X / 2 ^ s = Z at *
        generalize hM : Z % 4294967296 = M at *
        have HM := Lib.hid (show Z % BB = M from hM)
        rw [HM.out] at HS
        have hMb : M < 4294967296 := by omega
        clear hM
        go_wp2_with (at_builtin; refine wpList_append_lies _ rfl _ _ _ rfl w.heap.size 125 i0 _ 1 4 Tryz.underlying38 ti tz0 tz1 tz2 rfl (by omega) u5 i (U o) rfl (by exact HOW.out.alloc _) ⟨wr.heap.size, 0, none⟩ 1 1 [.int .u32 (M : Int)] rfl rfl (by exact World.news_of_block (cs := #[.int .u32 (M : Int)]) (t := 125) (fr := (0, 0)) (heap_alloc_new wr _)) (by simp [Value.oneCell']) (by omega) (by unfold maxLen; omega) (by omega) (by simp; omega) (wr.heap.size + 1) (by simp) ?_)
        intro g cap w3 hown hgrow hat hlt2
        have HO3 := Lib.hid (show w3.ownsRow w.heap.size tU 1 (.slice (some ⟨g, 0, none⟩) (i + 1) cap) (i + 1) (U (o ++ [M])) by rw [U_append]; exact hown)
        have HL3 := Lib.hid (show Below w.heap.size w w3 from (HBL.out.alloc (by omega) _).grown hgrow (by simp; omega) (fun k hk => (HOW.out.lt k hk).1))
        clear hown hgrow hat hlt2 ti tz0 tz1 tz2
        go_wp2_with fail
        go_roundg (m - (i + 1))
        case measure => omega
        case rel => exact ⟨i + 1, o ++ [M], by go_num, by omega, rfl, Lib.hid HS.out.1, Lib.hid HS.out.2.1, HO3, Lib.hid HS.out.2.2, HL3⟩
    · obtain rfl : i = m := by omega
      have hd : decide (i < i) = false := by simp
      obtain ⟨A', c', hu, hnw⟩ := Nw.of_own HOW.out HOK.out
      subst hu
      have HN := Lib.hid hnw
      have HVV := Lib.hid (show val o = val a0 / 2 ^ p by
        have h1 := HV.out
        rw [List.drop_eq_nil_of_le (by rw [HA.out.len]; exact Nat.le_refl _), val_nil, Nat.zero_div, Nat.mul_zero, Nat.add_zero, ← HVA.out, Nat.div_div_eq_div_mul, ← HP.out] at h1
        exact h1)
      clear hnw ti tz0 tz1 tz2
      go_wp2_with fail
      refine (uTrim A' i c' o wr HN.out.sl (by omega)).mono ?_
      rw [HVV.out]
      rintro e w2 ⟨C, k, ck, rfl, HC, HL2⟩
      go_wp2_with fail
      go_ret
      exact ⟨C, k, ck, rfl, Lib.hid (HC.out.base HBL.out.size), Lib.hid (HBL.out.trans (HL2.out.mono HBL.out.size))⟩

set_option maxHeartbeats 2000000 in
theorem uOf (neg : Bool) (A : Option Addr) (n c : Nat) (l : List Nat) (ex : Int) (w : World) (ha : Sl w A n c l) (hn : n ≤ 9000) (h1 : -1000000000 ≤ ex) (h2 : ex ≤ 1000000000) :
    Calls Tryz.prog 152 #[.bool neg, .slice A n c, .int .i64 ex] w (DyR (canon neg (val l) ex) w) := by
  have HA := Lib.hid ha
  have hn1 : n ≤ 1000000 := by omega
  obtain ⟨x, hx⟩ : ∃ x, val l = x := ⟨_, rfl⟩
  have HX := Lib.hid hx
  have HLN := Lib.hid (show (limbs x).length ≤ 9000 by rw [← hx]; exact Nat.le_trans (limbs_le_len ha.ok) (by rw [ha.len]; exact hn))
  rw [hx]
  clear ha hx
  go_enter Tryz.func152, Tryz.ntmps152
  go_wp2_with fail
  obtain ⟨w1, hw⟩ : ∃ z9 : World, z9 = (w.alloc (.cells #[.bool false, .slice none 0 0, .int .i64 0] 40)) := ⟨_, rfl⟩
  have HB1 := Lib.hid (show Below w.heap.size w w1 by rw [hw]; exact below_a1 _ _)
  have F1a := Lib.hid (HA.out.belowW HB1.out)
  have F1r := Lib.hid (show Blk w1 (w.heap.size) 40 #[.bool false, .slice none 0 0, .int .i64 0] by rw [hw]; exact Blk.new _ _ _)
  rw [← hw]
  clear hw
  refine (uTrim A n c l w1 F1a.out hn1).mono ?_
  rw [HX.out]
  rintro e w2 ⟨B, m, d, rfl, HY, HB2⟩
  have F2a := Lib.hid (F1a.out.belowW HB2.out)
  have F2r := Lib.hid (F1r.out.belowW HB2.out)
  have HL2 := Lib.hid (HB1.out.trans (HB2.out.mono HB1.out.size))
  have F2y := Lib.hid (HY.out.sl)
  have hm : m ≤ 9000 := by rw [← F2y.out.len]; exact HLN.out
  have pr0 : (w2).cell? ⟨w.heap.size, 0, none⟩ = some (.bool false) := F2r.out.cell 0
  have fr0 : (w2).frozen? ⟨w.heap.size, 0, none⟩ = false := F2r.out.frozen 0
  have pr1 : (w2).cell? ⟨w.heap.size, 1, none⟩ = some (.slice none 0 0) := F2r.out.cell 1
  have fr1 : (w2).frozen? ⟨w.heap.size, 1, none⟩ = false := F2r.out.frozen 1
  have pr2 : (w2).cell? ⟨w.heap.size, 2, none⟩ = some (.int .i64 0) := F2r.out.cell 2
  have fr2 : (w2).frozen? ⟨w.heap.size, 2, none⟩ = false := F2r.out.frozen 2
  by_cases h0 : x = 0
  case pos =>
    have HR := Lib.hid (show canon neg x ex = ⟨false, 0, 0⟩ by rw [h0]; rfl)
    obtain rfl : m = 0 := by rw [← F2y.out.len, h0, limbs_zero]; rfl
    clear h0
    go_wp2_with fail
    try rw [store3_put F2r.out, F2r.out.put_self]
    refine bodyPost_ret (v := .agg #[.bool false, .slice none 0 0, .int .i64 0]) (by simp [results, Tryz.results152, go_sem, pr0, pr1, pr2]) rfl ?_
    rw [HR.out]
    exact ⟨none, 0, 0, rfl, Lib.hid (by rw [show (⟨false, 0, 0⟩ : D).k = 0 from rfl, limbs_zero]; exact Sl.none_ _), HL2⟩
  case neg =>
    have hm0 : 0 < m := by
      rcases Nat.eq_zero_or_pos m with h | h
      · exfalso
        have h9 := F2y.out.len
        rw [h, limbs_pos h0] at h9
        simp at h9
      · exact h
    have dm : ((m : Int) == 0) = false := by rw [beq_eq_false_iff_ne]; omega
    have hbl : v2 x < 32 * m := by
      have h1 := v2_lt h0
      have h2 : blen x ≤ 32 * (limbs x).length := bits_limbs (Nat.le_refl _)
      rw [F2y.out.len] at h2
      omega
    obtain ⟨b, off, hBA⟩ : ∃ b off, B = some ⟨b, off, none⟩ := by
      obtain ⟨b, off, y, e, _⟩ := F2y.out.at_ hm0
      exact ⟨b, off, e⟩
    subst hBA
    obtain ⟨V, hV⟩ : ∃ V, v2 x = V := ⟨_, rfl⟩
    have HRR := Lib.hid (show canon neg x ex = ⟨neg, x / 2 ^ V, ex + (V : Int)⟩ by rw [canon_pos h0, ← hV]; rfl)
    have HVV := Lib.hid hV
    have HVL := Lib.hid (val_limbs x)
    rw [hV] at hbl
    have hmm : m ≤ 10000 := by omega
    have hm5 : m ≤ 100000 := by omega
    have hV9 : V < 1000000 := by omega
    have hsum : IntKind.i64.wrap (ex + (V : Int)) = ex + (V : Int) := IntWalk.i64_in _ (by omega)
    clear hV
    go_wp2_with fail
    refine (uZeros (some ⟨b, off, none⟩) m d x w2 F2y.out hmm h0).mono ?_
    rw [HVV.out]
    rintro e w3 ⟨rfl, HB3⟩
    have F3a := Lib.hid (F2a.out.belowW HB3.out)
    have F3r := Lib.hid (F2r.out.belowW HB3.out)
    have F3y := Lib.hid (F2y.out.belowW HB3.out)
    have HL3 := Lib.hid (HL2.out.trans (HB3.out.mono HL2.out.size))
    clear pr0 fr0 pr1 fr1 pr2 fr2
    have pr0 : (w3).cell? ⟨w.heap.size, 0, none⟩ = some (.bool false) := F3r.out.cell 0
    have fr0 : (w3).frozen? ⟨w.heap.size, 0, none⟩ = false := F3r.out.frozen 0
    have pr1 : (w3).cell? ⟨w.heap.size, 1, none⟩ = some (.slice none 0 0) := F3r.out.cell 1
    have fr1 : (w3).frozen? ⟨w.heap.size, 1, none⟩ = false := F3r.out.frozen 1
    have pr2 : (w3).cell? ⟨w.heap.size, 2, none⟩ = some (.int .i64 0) := F3r.out.cell 2
    have fr2 : (w3).frozen? ⟨w.heap.size, 2, none⟩ = false := F3r.out.frozen 2
    go_wp2_with fail
    refine (uRight b off m d V (limbs x) w3 F3y.out hm5 hbl).mono ?_
    rw [HVL.out]
    rintro e w4 ⟨C, q, qc, rfl, HC, HB4⟩
    have F4a := Lib.hid (F3a.out.belowW HB4.out)
    have F4r := Lib.hid (F3r.out.belowW HB4.out)
    have F4y := Lib.hid (F3y.out.belowW HB4.out)
    have HL4 := Lib.hid (HL3.out.trans (HB4.out.mono HL3.out.size))
    have F4z := Lib.hid (HC.out.sl)
    clear pr0 fr0 pr1 fr1 pr2 fr2
    have pr0 : (w4).cell? ⟨w.heap.size, 0, none⟩ = some (.bool false) := F4r.out.cell 0
    have fr0 : (w4).frozen? ⟨w.heap.size, 0, none⟩ = false := F4r.out.frozen 0
    have pr1 : (w4).cell? ⟨w.heap.size, 1, none⟩ = some (.slice none 0 0) := F4r.out.cell 1
    have fr1 : (w4).frozen? ⟨w.heap.size, 1, none⟩ = false := F4r.out.frozen 1
    have pr2 : (w4).cell? ⟨w.heap.size, 2, none⟩ = some (.int .i64 0) := F4r.out.cell 2
    have fr2 : (w4).frozen? ⟨w.heap.size, 2, none⟩ = false := F4r.out.frozen 2
    go_wp2_with fail
    refine bodyPost_ret (v := .agg #[.bool neg, .slice C q qc, .int .i64 (ex + (V : Int))]) (by simp [results, Tryz.results152, go_sem, pr0, pr1, pr2]) rfl ?_
    rw [HRR.out]
    exact ⟨C, q, qc, rfl, Lib.hid (store3_sl F4z.out F4r.out noU3 _ _ _), Lib.hid (store3_below HL4.out F4r.out _ _ _ (Nat.le_refl _))⟩

set_option maxHeartbeats 1000000 in
theorem uSign (d : D) (A : Option Addr) (n c : Nat) (w : World) (h : Sl w A n c (limbs d.k)) : Calls Tryz.prog 107 #[.agg #[.bool d.neg, .slice A n c, .int .i64 d.e]] w (Ret (.int .i64 (sg d)) w) := by
  have hl := h.len
  have hm := h.max
  unfold maxLen at hm
  by_cases h0 : d.k = 0
  · have HR := Lib.hid (show sg d = 0 by unfold sg; rw [if_pos h0])
    obtain rfl : n = 0 := by rw [← hl, h0, limbs_zero]; rfl
    clear h hl h0
    go_enter Tryz.func107, Tryz.ntmps107
    go_wp2_with fail
    obtain ⟨w1, hw⟩ : ∃ z9 : World, z9 = (w.alloc (.cells #[.bool d.neg, .slice A 0 c, .int .i64 d.e] 40)) := ⟨_, rfl⟩
    have HB1 := Lib.hid (show Below w.heap.size w w1 by rw [hw]; exact below_a1 _ _)
    have F1d := Lib.hid (show Blk w1 (w.heap.size) 40 #[.bool d.neg, .slice A 0 c, .int .i64 d.e] by rw [hw]; exact Blk.new _ _ _)
    rw [← hw]
    clear hw
    go_ret
    exact ⟨by rw [HR.out]; rfl, HB1⟩
  · have hn0 : n ≠ 0 := by
      intro e
      rw [e, limbs_pos h0] at hl
      simp at hl
    have dm : ((n : Int) == 0) = false := by rw [beq_eq_false_iff_ne]; omega
    cases hng : d.neg with
    | false =>
      have HR := Lib.hid (show sg d = 1 by unfold sg; rw [if_neg h0, hng]; rfl)
      clear h hl h0 hn0
      go_enter Tryz.func107, Tryz.ntmps107
      go_wp2_with fail
      obtain ⟨w1, hw⟩ : ∃ z9 : World, z9 = (w.alloc (.cells #[.bool false, .slice A n c, .int .i64 d.e] 40)) := ⟨_, rfl⟩
      have HB1 := Lib.hid (show Below w.heap.size w w1 by rw [hw]; exact below_a1 _ _)
      have F1d := Lib.hid (show Blk w1 (w.heap.size) 40 #[.bool false, .slice A n c, .int .i64 d.e] by rw [hw]; exact Blk.new _ _ _)
      rw [← hw]
      clear hw
      go_ret
      exact ⟨by rw [HR.out]; rfl, HB1⟩
    | true =>
      have HR := Lib.hid (show sg d = -1 by unfold sg; rw [if_neg h0, hng]; rfl)
      clear h hl h0 hn0
      go_enter Tryz.func107, Tryz.ntmps107
      go_wp2_with fail
      obtain ⟨w1, hw⟩ : ∃ z9 : World, z9 = (w.alloc (.cells #[.bool true, .slice A n c, .int .i64 d.e] 40)) := ⟨_, rfl⟩
      have HB1 := Lib.hid (show Below w.heap.size w w1 by rw [hw]; exact below_a1 _ _)
      have F1d := Lib.hid (show Blk w1 (w.heap.size) 40 #[.bool true, .slice A n c, .int .i64 d.e] by rw [hw]; exact Blk.new _ _ _)
      rw [← hw]
      clear hw
      go_ret
      exact ⟨by rw [HR.out]; rfl, HB1⟩

set_option maxHeartbeats 1000000 in
theorem uNeg (d : D) (A : Option Addr) (n c : Nat) (w : World) (h : Sl w A n c (limbs d.k)) (h0 : d.k ≠ 0) : Calls Tryz.prog 110 #[.agg #[.bool d.neg, .slice A n c, .int .i64 d.e]] w (Ret (.agg #[.bool (!d.neg), .slice A n c, .int .i64 d.e]) w) := by
  have hl := h.len
  have hm := h.max
  unfold maxLen at hm
  have hn0 : n ≠ 0 := by
    intro e
    rw [e, limbs_pos h0] at hl
    simp at hl
  have dm : decide ((0 : Int) < (n : Int)) = true := decide_eq_true (by omega)
  have dm' : decide (0 < n) = true := decide_eq_true (by omega)
  clear h hl h0 hn0
  cases hng : d.neg with
  | false =>
    go_enter Tryz.func110, Tryz.ntmps110
    go_wp2_with fail
    obtain ⟨w1, hw⟩ : ∃ z9 : World, z9 = ((w.alloc (.cells #[.bool false, .slice A n c, .int .i64 d.e] 40)).alloc (.cells #[.bool true, .slice A n c, .int .i64 d.e] 40)) := ⟨_, rfl⟩
    have HB1 := Lib.hid (show Below w.heap.size w w1 by rw [hw]; exact below_a2 _ _ _)
    have F1d := Lib.hid (show Blk w1 (w.heap.size) 40 #[.bool false, .slice A n c, .int .i64 d.e] by rw [hw]; exact (Blk.new _ _ _).alloc _)
    have F1r := Lib.hid (show Blk w1 (w.heap.size + 1) 40 #[.bool true, .slice A n c, .int .i64 d.e] by rw [hw]; exact Blk.new1 _ _ _ _)
    rw [← hw]
    clear hw
    have pr0 : (w1).cell? ⟨w.heap.size + 1, 0, none⟩ = some (.bool true) := F1r.out.cell 0
    have fr0 : (w1).frozen? ⟨w.heap.size + 1, 0, none⟩ = false := F1r.out.frozen 0
    have pr1 : (w1).cell? ⟨w.heap.size + 1, 1, none⟩ = some (.slice A n c) := F1r.out.cell 1
    have fr1 : (w1).frozen? ⟨w.heap.size + 1, 1, none⟩ = false := F1r.out.frozen 1
    have pr2 : (w1).cell? ⟨w.heap.size + 1, 2, none⟩ = some (.int .i64 d.e) := F1r.out.cell 2
    have fr2 : (w1).frozen? ⟨w.heap.size + 1, 2, none⟩ = false := F1r.out.frozen 2
    refine bodyPost_ret (v := .agg #[.bool true, .slice A n c, .int .i64 d.e]) (by simp [results, Tryz.results110, go_sem, pr0, pr1, pr2]) rfl ?_
    exact ⟨rfl, HB1⟩
  | true =>
    go_enter Tryz.func110, Tryz.ntmps110
    go_wp2_with fail
    obtain ⟨w1, hw⟩ : ∃ z9 : World, z9 = ((w.alloc (.cells #[.bool true, .slice A n c, .int .i64 d.e] 40)).alloc (.cells #[.bool false, .slice A n c, .int .i64 d.e] 40)) := ⟨_, rfl⟩
    have HB1 := Lib.hid (show Below w.heap.size w w1 by rw [hw]; exact below_a2 _ _ _)
    have F1d := Lib.hid (show Blk w1 (w.heap.size) 40 #[.bool true, .slice A n c, .int .i64 d.e] by rw [hw]; exact (Blk.new _ _ _).alloc _)
    have F1r := Lib.hid (show Blk w1 (w.heap.size + 1) 40 #[.bool false, .slice A n c, .int .i64 d.e] by rw [hw]; exact Blk.new1 _ _ _ _)
    rw [← hw]
    clear hw
    have pr0 : (w1).cell? ⟨w.heap.size + 1, 0, none⟩ = some (.bool false) := F1r.out.cell 0
    have fr0 : (w1).frozen? ⟨w.heap.size + 1, 0, none⟩ = false := F1r.out.frozen 0
    have pr1 : (w1).cell? ⟨w.heap.size + 1, 1, none⟩ = some (.slice A n c) := F1r.out.cell 1
    have fr1 : (w1).frozen? ⟨w.heap.size + 1, 1, none⟩ = false := F1r.out.frozen 1
    have pr2 : (w1).cell? ⟨w.heap.size + 1, 2, none⟩ = some (.int .i64 d.e) := F1r.out.cell 2
    have fr2 : (w1).frozen? ⟨w.heap.size + 1, 2, none⟩ = false := F1r.out.frozen 2
    refine bodyPost_ret (v := .agg #[.bool false, .slice A n c, .int .i64 d.e]) (by simp [results, Tryz.results110, go_sem, pr0, pr1, pr2]) rfl ?_
    exact ⟨rfl, HB1⟩
theorem uBits (A : Option Addr) (n c x : Nat) (w : World) (h : Sl w A n c (limbs x)) (h0 : x ≠ 0) (hn : n ≤ 256) :
    Calls Tryz.prog 106 #[.slice A n c] w (Ret (.int .i64 (blen x : Nat)) w) := by
  have hl := h.len
  have hn0 : 0 < n := by
    rcases Nat.eq_zero_or_pos n with e | e
    · rw [e, limbs_pos h0] at hl
      simp at hl
    · exact e
  obtain ⟨b, off, y, hA, _, hy, hyB, hc⟩ := h.at_ (i := n - 1) (by omega)
  subst hA
  have hy2 : (limbs x)[(limbs x).length - 1]? = some y := by rw [hl]; exact hy
  have h1 := blen_top h.ok (fun e => by rw [e] at hl; simp at hl; omega) hy2 (limbs_top hy2)
  rw [val_limbs, hl] at h1
  rw [h1]
  refine (bits02_any b off n c y w hn0 hn hc hyB).mono ?_
  rintro e w' ⟨rfl, rfl⟩
  exact ⟨rfl, Lib.hid (Below.refl _ _)⟩
set_option maxHeartbeats 1000000 in
theorem uTop (d : D) (A : Option Addr) (n c : Nat) (w : World) (h : Sl w A n c (limbs d.k)) (hv : vld d) : Calls Tryz.prog 108 #[.agg #[.bool d.neg, .slice A n c, .int .i64 d.e]] w (Ret (.int .i64 (topB d)) w) := by
  have hl := h.len
  have hm := h.max
  unfold maxLen at hm
  by_cases h0 : d.k = 0
  · have HR := Lib.hid (show topB d = 0 by unfold topB; rw [if_pos h0])
    obtain rfl : n = 0 := by rw [← hl, h0, limbs_zero]; rfl
    clear h hl h0
    go_enter Tryz.func108, Tryz.ntmps108
    go_wp2_with fail
    obtain ⟨w1, hw⟩ : ∃ z9 : World, z9 = (w.alloc (.cells #[.bool d.neg, .slice A 0 c, .int .i64 d.e] 40)) := ⟨_, rfl⟩
    have HB1 := Lib.hid (show Below w.heap.size w w1 by rw [hw]; exact below_a1 _ _)
    have F1d := Lib.hid (show Blk w1 (w.heap.size) 40 #[.bool d.neg, .slice A 0 c, .int .i64 d.e] by rw [hw]; exact Blk.new _ _ _)
    rw [← hw]
    clear hw
    go_ret
    exact ⟨by rw [HR.out]; rfl, HB1⟩
  · have hn0 : n ≠ 0 := by
      intro e
      rw [e, limbs_pos h0] at hl
      simp at hl
    have dm : ((n : Int) == 0) = false := by rw [beq_eq_false_iff_ne]; omega
    have HR := Lib.hid (show topB d = blen d.k + d.e by unfold topB; rw [if_neg h0])
    have H := Lib.hid h
    have hb := vld_ebd hv
    have hbb := vld_bits hv
    obtain ⟨b, hbl⟩ : ∃ b, blen d.k = b := ⟨_, rfl⟩
    rw [hbl] at HR hbb
    have HBL := Lib.hid hbl
    have e1 : IntKind.i64.wrap ((b : Int) + d.e) = (b : Int) + d.e := IntWalk.i64_in _ (by omega)
    have H0 := Lib.hid h0
    have hn256 : n ≤ 256 := by rw [← h.len]; exact vld_len hv
    clear h hl h0 hn0 hbl
    go_enter Tryz.func108, Tryz.ntmps108
    go_wp2_with fail
    obtain ⟨w1, hw⟩ : ∃ z9 : World, z9 = (w.alloc (.cells #[.bool d.neg, .slice A n c, .int .i64 d.e] 40)) := ⟨_, rfl⟩
    have HB1 := Lib.hid (show Below w.heap.size w w1 by rw [hw]; exact below_a1 _ _)
    have F1a := Lib.hid (H.out.belowW HB1.out)
    have F1d := Lib.hid (show Blk w1 (w.heap.size) 40 #[.bool d.neg, .slice A n c, .int .i64 d.e] by rw [hw]; exact Blk.new _ _ _)
    rw [← hw]
    clear hw
    go_wp2_with fail
    have HR2 := Lib.hid (below_dr w1)
    have R2a := Lib.hid (F1a.out.belowW HR2.out)
    have R2d := Lib.hid (F1d.out.belowW HR2.out)
    have c2d1 : w1.drew.cell? ⟨w.heap.size, 1, none⟩ = some (.slice A n c) := R2d.out.cell 1
    have c2d2 : w1.drew.cell? ⟨w.heap.size, 2, none⟩ = some (.int .i64 d.e) := R2d.out.cell 2
    go_region_held3 (fun w' => w'.cell? ⟨w.heap.size, 1, none⟩ = some (.slice A n c) ∧ w'.cell? ⟨w.heap.size, 2, none⟩ = some (.int .i64 d.e)) ((with_reducible refine ⟨?_, ?_⟩) <;> (with_reducible assumption)) (first
      | (go_at_call 106
         (with_reducible refine (uBits A n c d.k _ R2a.out H0.out hn256).mono ?_)
         rw [HBL.out]
         rintro e w3 ⟨rfl, HC3⟩
         have R3a := Lib.hid (R2a.out.belowW HC3.out)
         have R3d := Lib.hid (R2d.out.belowW HC3.out)
         have HR3 := Lib.hid (HR2.out.trans (HC3.out.mono HR2.out.size))
         have c3d1 : w3.cell? ⟨w.heap.size, 1, none⟩ = some (.slice A n c) := R3d.out.cell 1
         have c3d2 : w3.cell? ⟨w.heap.size, 2, none⟩ = some (.int .i64 d.e) := R3d.out.cell 2))
    have HL3 := Lib.hid (HB1.out.trans (HR3.out.mono HB1.out.size))
    go_wp2_with fail
    go_ret
    exact ⟨by rw [HR.out]; rfl, HL3⟩
end Go.Proofs.YtoogeihbhhcpaaaGreatDoor
