/-
  The walks of the reference: Decimal, Text.
  The walk of the reference's Text.
-/
import Derived.Test.YtoogeihbhhcpaaaGreatDoorPkI
import Derived.Test.YtoogeihbhhcpaaaGreatDoorPkF
set_option linter.unusedVariables false
namespace Go.Fl.Nm
open Go.Lib Go.RowKit Go.Fl
theorem decE_ten (v : Nat) (h : 0 < v) : decE v = decE (v / 10) ++ [UInt8.ofNat (48 + v % 10)] := by
  unfold decE
  rw [if_neg (by omega)]
  by_cases h10 : v < 10
  · rw [decDigits_one h10, if_pos (by omega), Nat.mod_eq_of_lt h10]; rfl
  · rw [dec_big h10, if_neg (by omega)]
end Go.Fl.Nm

namespace Go.Proofs.YtoogeihbhhcpaaaGreatDoor
open Go.RowKit Go.Fl Go.Fl.Nm

end Go.Proofs.YtoogeihbhhcpaaaGreatDoor
namespace Go.Fl.Nm
open Go.Lib Go.RowKit Go.Fl
theorem ten_step {l a : List Nat} {k n r x : Nat} (hl : l.length = n) (hok : ok l) (hk : k < n) (hr : r < 10) (hlo : ∀ j, j < k + 1 → l[j]? = a[j]?) (hv : val (l.drop (k + 1)) * 10 + r = val (a.drop (k + 1))) (hx : a[k]? = some x) (hxB : x < BB) :
    (l.set k ((r * BB + x) / 10)).length = n ∧ ok (l.set k ((r * BB + x) / 10)) ∧ (∀ j, j < k → (l.set k ((r * BB + x) / 10))[j]? = a[j]?) ∧ val ((l.set k ((r * BB + x) / 10)).drop k) * 10 + (r * BB + x) % 10 = val (a.drop k) ∧ (r * BB + x) / 10 < BB := by
  have hq : (r * BB + x) / 10 < BB := by unfold BB at *; omega
  refine ⟨by simp [hl], ok_set hok _ _ hq, fun j hj => by rw [at_set_ne _ (by omega)]; exact hlo j (by omega), ?_, hq⟩
  have h1 : (l.set k ((r * BB + x) / 10))[k]? = some ((r * BB + x) / 10) := List.getElem?_set_self (by omega)
  rw [val_drop h1, val_drop hx, List.drop_set_of_lt (by omega), ← hv, Nat.add_mul, Nat.mul_assoc, Nat.mul_add]
  have e := Nat.div_add_mod (r * BB + x) 10
  rw [Nat.mul_comm BB r]
  omega
/-- The cells of a block begin with these limbs. -/
def CS (l : List Nat) (cs : Array Value) : Prop := ∀ (i x : Nat), l[i]? = some x → cs[i]? = some (.int .u32 (x : Int))
theorem CS.set {l : List Nat} {cs : Array Value} (h : CS l cs) (k y : Nat) : CS (l.set k y) (cs.setIfInBounds k (.int .u32 (y : Int))) := by
  intro i x hx
  by_cases hik : k = i
  · subst hik
    have hlt : k < l.length := by
      rcases Nat.lt_or_ge k l.length with h1 | h1
      · exact h1
      · rw [List.getElem?_eq_none (by simpa using h1)] at hx; cases hx
    rw [List.getElem?_set_self hlt] at hx
    injection hx with hx
    subst hx
    have h2 := h k _ (List.getElem?_eq_getElem hlt)
    have hlt2 : k < cs.size := by
      rcases Nat.lt_or_ge k cs.size with h1 | h1
      · exact h1
      · rw [Array.getElem?_eq_none h1] at h2; cases h2
    rw [Array.getElem?_setIfInBounds, if_pos rfl, if_pos hlt2]
  · rw [at_set_ne _ hik] at hx
    rw [Array.getElem?_setIfInBounds, if_neg hik]
    exact h i x hx
theorem digit_at (r : Nat) (h : r < 10) : (⟨#[48, 49, 50, 51, 52, 53, 54, 55, 56, 57]⟩ : ByteArray).extract r (r + 1) = ⟨[UInt8.ofNat (48 + r)].toArray⟩ := by
  have : ∀ k : Fin 10, (⟨#[48, 49, 50, 51, 52, 53, 54, 55, 56, 57]⟩ : ByteArray).extract k.val (k.val + 1) = ⟨[UInt8.ofNat (48 + k.val)].toArray⟩ := by decide +kernel
  exact this ⟨r, h⟩
end Go.Fl.Nm

namespace Go.Proofs.YtoogeihbhhcpaaaGreatDoor
open Go.RowKit Go.Fl Go.Fl.Nm Go.Lib

def RTextRel (w : World) (V : Nat) (k : Nat) (av ov : Value) (wr : World) : Prop :=
  ∃ (X : Option Addr) (n c : Nat) (o : List UInt8), av = .slice X n c ∧ ov = .string ⟨o.toArray⟩ ∧ Hid (Nw wr tU w.heap.size X n c (limbs k)) ∧ n ≤ 100 ∧ Hid (decE k ++ o = decDigits V) ∧ o.length ≤ 4000 ∧ Hid (Below w.heap.size w wr)
def RTenRel (w : World) (g n : Nat) (a : List Nat) (k : Nat) (rv iv : Value) (wr : World) : Prop :=
  ∃ (r : Nat) (l : List Nat) (cs : Array Value), iv = .int .i64 ((k : Int) - 1) ∧ rv = .int .u64 r ∧ r < 10 ∧ k ≤ n ∧ Hid (l.length = n) ∧ Hid (ok l) ∧ Hid (Blk wr g tU cs) ∧ Hid (CS l cs) ∧ Hid (∀ j, j < k → l[j]? = a[j]?) ∧
    Hid (val (l.drop k) * 10 + r = val (a.drop k)) ∧ Hid (w.grownBy wr (some g))

set_option maxHeartbeats 1600000 in
set_option maxRecDepth 100000 in
theorem rText (A : Option Addr) (n0 c : Nat) (a : List Nat) (w : World) (ha : Sl w A n0 c a) (hn : n0 ≤ 100) :
    Calls Tryz.prog 118 #[.slice A n0 c] w fun e w' => e = .returned (.string ⟨(decDigits (val a)).toArray⟩) ∧ Hid (Below w.heap.size w w') := by
  have HA := Lib.hid ha
  have HLL := Lib.hid (Nat.le_trans (limbs_le_len ha.ok) (Nat.le_of_eq ha.len))
  have HLEN := Lib.hid (dec_len_le (N := 3999) (val_lt_tl ha.ok) (by have := tl_le a; have := ha.len; omega))
  clear ha
  go_enter Tryz.func118, Tryz.ntmps118
  go_wp2_with fail
  refine (rTrim A n0 c a w HA.out (by omega)).mono ?_
  rintro e w1 ⟨X, n, cx, rfl, HX, HL1⟩
  have hnn : n ≤ 100 := by
    have h1 := HX.out.sl.len
    have h2 := HLL.out
    omega
  by_cases h0 : n = 0
  · subst h0
    have HV0 := Lib.hid (show val a = 0 from limbs_eq_nil.1 (List.eq_nil_of_length_eq_zero HX.out.sl.len))
    go_wp2_with fail
    go_ret
    refine ⟨?_, HL1⟩
    rw [HV0.out, decDigits_one (by omega)]
    rfl
  · have hd0 : ((n : Int) == 0) = false := by rw [beq_eq_false_iff_ne]; omega
    have HVP := Lib.hid (show 0 < val a from by
      rcases Nat.eq_zero_or_pos (val a) with h | h
      · have h1 := HX.out.sl.len
        rw [h, limbs_zero] at h1
        exact absurd h1.symm h0
      · exact h)
    clear h0
    go_wp2_with fail
    go_loopg [0, 3] (val a) (RTextRel w (val a))
    case atStart =>
      refine ⟨X, n, cx, [], rfl, rfl, HX, hnn, Lib.hid ?_, by simp, HL1⟩
      unfold decE
      rw [if_neg (by have := HVP.out; omega)]
      simp
    case round =>
      obtain ⟨X, n, c, o, rfl, rfl, HX, hnn, HD, ho, HBL⟩ := hrel
      by_cases h0 : n = 0
      · subst h0
        have hk : gk = 0 := limbs_eq_nil.1 (List.eq_nil_of_length_eq_zero HX.out.sl.len)
        have HO := Lib.hid (show o = decDigits (val a) by
          have := HD.out
          rw [hk] at this
          exact this)
        clear hk
        go_wp2_with fail
        go_ret
        exact ⟨by rw [← HO.out]; rfl, HBL⟩
      · have hd1 : decide (0 < n) = true := decide_eq_true (by omega)
        have hk0 : 0 < gk := by
          rcases Nat.eq_zero_or_pos gk with h | h
          · have h1 := HX.out.sl.len
            rw [h, limbs_zero] at h1
            exact absurd h1.symm h0
          · exact h
        have HST := Lib.hid (decE_ten gk hk0)
        obtain ⟨g, cs0, hXA, hgB, hblk⟩ := HX.out.2 (by omega)
        subst hXA
        have HB0 := Lib.hid hblk
        have HLN := Lib.hid HX.out.sl.len
        have HOK0 := Lib.hid HX.out.sl.ok
        have HCS0 := Lib.hid (show CS (limbs gk) cs0 from fun i x hx => by
          have hi : i < n := by
            rcases Nat.lt_or_ge i n with h1 | h1
            · exact h1
            · rw [List.getElem?_eq_none (by rw [HLN.out]; exact h1)] at hx; cases hx
          obtain ⟨b, off, y, hA2, _, hy, _, hc⟩ := HX.out.sl.at_ hi
          cases hA2
          rw [hy] at hx
          injection hx with hx
          subst hx
          rw [Nat.zero_add, hblk.cell] at hc
          exact hc)
        have HVK := Lib.hid (val_limbs gk)
        have hcm := HX.out.sl.capMax
        have hcap := HX.out.sl.cap
        generalize limbs gk = al at *
        clear hblk h0
        obtain ⟨wo, rfl⟩ : ∃ wo : World, wo = wr := ⟨_, rfl⟩
        obtain ⟨K, rfl⟩ : ∃ K : Nat, K = gk := ⟨_, rfl⟩
        go_wp2_with fail
        go_loopg [4, 5] n (RTenRel wo g n al)
        case atStart =>
          refine ⟨0, al, cs0, rfl, rfl, by omega, Nat.le_refl _, HLN, HOK0, HB0, HCS0, Lib.hid (fun _ _ => rfl), Lib.hid ?_, Lib.hid (grown_refl _ _)⟩
          rw [List.drop_eq_nil_of_le (by rw [HLN.out]; omega)]; rfl
        case round =>
          obtain ⟨r, l, cs, rfl, rfl, hr, hkn, HLL2, HLO, HLB, HLC, HLK, HLV, HLG⟩ := hrel
          cases gk with
          | zero =>
            rw [show ((0 : Nat) : Int) - 1 = -1 by omega]
            have h1 := HLV.out
            rw [List.drop_zero, List.drop_zero, HVK.out] at h1
            have HQ := Lib.hid (show val l = K / 10 by omega)
            have HR := Lib.hid (show K % 10 = r by omega)
            clear h1
            have HSL := Lib.hid (show Sl wr (some ⟨g, 0, none⟩) n c l from ⟨HLL2.out, HLO.out, hcap, hcm, (fun h => by cases h), by rw [U_len, HLL2.out]; omega, fun _ => ⟨g, 0, rfl, HLB.out.lt, fun j u hu => by
              rw [Nat.zero_add, HLB.out.cell]
              unfold U at hu
              rw [List.getElem?_map, Option.map_eq_some_iff] at hu
              obtain ⟨x, hx, rfl⟩ := hu
              exact HLC.out j x hx⟩⟩)
            have HBL2 := Lib.hid (HBL.out.trans (below_of_grown HLG.out (fun k hk => by cases hk; exact hgB) HBL.out.size))
            go_wp2_with fail
            refine (rTrim _ n c l wr HSL.out (by omega)).mono ?_
            rw [HQ.out]
            rintro e w3 ⟨Y, ny, cy, rfl, HY, HL3⟩
            have HBL3 := Lib.hid (HBL2.out.trans (HL3.out.mono HBL2.out.size))
            have hny : ny ≤ 100 := by
              rw [← HY.out.sl.len, ← HQ.out]
              have h1 := limbs_le_len HLO.out
              have h2 := HLL2.out
              omega
            have hex := digit_at r hr
            have hcat := ba_cat [UInt8.ofNat (48 + r)] o
            have HDN := Lib.hid (show decE (K / 10) ++ ([UInt8.ofNat (48 + r)] ++ o) = decDigits (val a) by
              rw [← HD.out, HST.out, HR.out, List.append_assoc])
            have hol : ([UInt8.ofNat (48 + r)] ++ o).length ≤ 4000 := by
              have h1 := congrArg List.length HDN.out
              rw [List.length_append] at h1
              have h2 := HLEN.out
              omega
            have hos : (⟨o.toArray⟩ : ByteArray).size ≤ 4000 := by
              show o.toArray.size ≤ 4000
              simpa using ho
            have hI : ((r : Int) + 1).toNat = r + 1 := by omega
            generalize UInt8.ofNat (48 + r) = db at *
            go_wp2_with fail
            go_roundg (K / 10)
            case measure => have := HQ.out; omega
            case rel => exact ⟨Y, ny, cy, [db] ++ o, rfl, by first | rfl | rw [← hcat], Lib.hid (HY.out.base HBL2.out.size), hny, HDN, hol, HBL3⟩
          | succ j =>
            rw [show ((j + 1 : Nat) : Int) - 1 = j by omega]
            obtain ⟨x, hx⟩ : ∃ x, al[j]? = some x := ⟨_, List.getElem?_eq_getElem (by rw [HLN.out]; omega)⟩
            have hxB := ok_at HOK0.out hx
            have hg1 : wr.cell? ⟨g, j, none⟩ = some (.int .u32 x) := (HLB.out.cell j).trans (HLC.out j x (by rw [HLK.out j (by omega)]; exact hx))
            have hg2 : wr.frozen? ⟨g, j, none⟩ = false := HLB.out.frozen j
            have HS := Lib.hid (ten_step HLL2.out HLO.out (by omega) hr HLK.out HLV.out hx hxB)
            have hX : r * BB + x < 42949672960 := by unfold BB at *; omega
            have hXi : (r : Int) * 4294967296 + x = ((r * BB + x : Nat) : Int) := by unfold BB; omega
            unfold BB at hxB
            clear hx
            generalize r * BB + x = Z at *
            have hq1 : (Z : Int) / 10 = ((Z / 10 : Nat) : Int) := by omega
            have hq2 : (Z : Int) % 10 = ((Z % 10 : Nat) : Int) := by omega
            have hqB : Z / 10 < 4294967296 := by omega
            have hr10 : Z % 10 < 10 := by omega
            generalize Z / 10 = qz at *
            generalize Z % 10 = rz at *
            go_wp2_with fail
            go_roundg j
            case measure => omega
            case rel =>
              refine ⟨rz, l.set j qz, cs.setIfInBounds j (.int .u32 (qz : Int)), rfl, by rw [hq2], hr10, by omega, Lib.hid HS.out.1, Lib.hid HS.out.2.1, Lib.hid ?_, Lib.hid (HLC.out.set j qz), Lib.hid HS.out.2.2.1, Lib.hid HS.out.2.2.2.1, Lib.hid (grown_trans HLG.out (grown_setCell _ _ _ _))⟩
              rw [HLB.out.setCell_eq]
              exact HLB.out.put _
end Go.Proofs.YtoogeihbhhcpaaaGreatDoor
