/-
  The walks of the reference: Trim, at, Cmp, Bits.
  The walks of the reference: Add, Mul.
  The walks of the laws NaturalProducts, NaturalQuotients, NaturalRoots.
  The walks of the reference: Sub, Shl, Shr.
  The walks of the laws NaturalSums, NaturalShifts.
  The walks of the reference: less, DivMod.
-/
import Derived.Test.YtoogeihbhhcpaaaGreatDoorPkE
import Derived.Laws.AppendOwnNone
import Derived.StillTailTactics
set_option linter.unusedVariables false
namespace Go.Fl.Nm
open Go.RowKit Go.Fl
/-- A limb; 0 behind the end. -/
def at0 (l : List Nat) (i : Nat) : Nat := l.getD i 0
theorem at0_in {l : List Nat} {i x : Nat} (h : l[i]? = some x) : at0 l i = x := by simp [at0, h]
theorem at0_out {l : List Nat} {i : Nat} (h : l.length ≤ i) : at0 l i = 0 := by simp [at0, List.getElem?_eq_none h]
theorem at0_lt {l : List Nat} (h : ok l) (i : Nat) : at0 l i < 4294967296 := by
  rcases Nat.lt_or_ge i l.length with hi | hi
  · rw [at0_in (List.getElem?_eq_getElem hi)]
    exact ok_at h (List.getElem?_eq_getElem hi)
  · rw [at0_out hi]; omega
theorem take_at0 (l : List Nat) (i : Nat) : val (l.take (i + 1)) = val (l.take i) + BB ^ i * at0 l i := by
  rcases Nat.lt_or_ge i l.length with hi | hi
  · rw [at0_in (List.getElem?_eq_getElem hi)]
    exact val_take_succ (List.getElem?_eq_getElem hi)
  · rw [at0_out hi, List.take_of_length_le hi, List.take_of_length_le (by omega)]; simp
def padL (N : Nat) (l : List Nat) : List Nat := l ++ List.replicate (N - l.length) 0
theorem pad_val (N : Nat) (l : List Nat) : val (padL N l) = val l := by unfold padL; rw [val_append, val_zeros]; simp
theorem pad_ok {N : Nat} {l : List Nat} (h : ok l) : ok (padL N l) := ok_append.2 ⟨h, ok_zeros _⟩
theorem pad_at {N : Nat} {l : List Nat} {i : Nat} (hi : i < N) : (padL N l)[i]? = some (at0 l i) := by
  unfold padL
  rcases Nat.lt_or_ge i l.length with h | h
  · rw [List.getElem?_append_left h, at0_in (List.getElem?_eq_getElem h)]
    exact List.getElem?_eq_getElem h
  · rw [List.getElem?_append_right h, at0_out h, List.getElem?_replicate, if_pos (by omega)]
theorem pad_len {N : Nat} {l : List Nat} (h : l.length ≤ N) : (padL N l).length = N := by simp [padL]; omega
theorem pad_drop {N k : Nat} {a b : List Nat} (ha : a.length ≤ N) (hb : b.length ≤ N) (h : ∀ j, k ≤ j → at0 a j = at0 b j) : (padL N a).drop k = (padL N b).drop k := by
  apply List.ext_getElem?
  intro i
  rw [List.getElem?_drop, List.getElem?_drop]
  rcases Nat.lt_or_ge (k + i) N with hi | hi
  · rw [pad_at hi, pad_at hi, h _ (by omega)]
  · rw [List.getElem?_eq_none (by rw [pad_len ha]; exact hi), List.getElem?_eq_none (by rw [pad_len hb]; exact hi)]
theorem at0_less {a b : List Nat} {N i : Nat} (hoa : ok a) (ha : a.length ≤ N) (hb : b.length ≤ N) (hi : i < N) (h : at0 a i < at0 b i) (hd : ∀ j, i + 1 ≤ j → at0 a j = at0 b j) : val a < val b := by
  rw [← pad_val N a, ← pad_val N b]
  exact val_lt_of_top (pad_ok hoa) (pad_at hi) (pad_at hi) h (pad_drop ha hb hd)
theorem at0_eq {a b : List Nat} {N : Nat} (ha : a.length ≤ N) (hb : b.length ≤ N) (h : ∀ j, 0 ≤ j → at0 a j = at0 b j) : val a = val b := by
  have := pad_drop ha hb h
  rw [List.drop_zero, List.drop_zero] at this
  rw [← pad_val N a, this, pad_val]
theorem Nw.empty (w : World) (t : TypeId) (base : Nat) (ad : Addr) : Nw w t base (some ad) 0 0 [] :=
  ⟨⟨rfl, ok_nil, Nat.le_refl _, by unfold maxLen; omega, fun h => (by cases h), rfl, fun h => absurd h (by omega)⟩, fun h => absurd h (by omega)⟩
theorem blen_half {x : Nat} (h : 0 < x) : blen x = blen (x / 2) + 1 := by
  by_cases h1 : x = 1
  · subst h1; rfl
  · have h2 : x / 2 ≠ 0 := by omega
    have e : x = 2 ^ 1 * (x / 2) + x % 2 := by omega
    have := blen_mul (x := x / 2) (k := 1) (r := x % 2) h2 (by omega)
    rw [← e] at this
    omega
end Go.Fl.Nm

namespace Go.Proofs.YtoogeihbhhcpaaaGreatDoor
open Go.RowKit Go.Fl Go.Fl.Nm

/-- What the reference returns: the limbs of a number, in memory of its own. -/
def RP (v : Nat) (w : World) (e : Ending) (w' : World) : Prop :=
  ∃ (A : Option Addr) (n c : Nat), e = .returned (.slice A n c) ∧ Hid (Nw w' tU w.heap.size A n c (limbs v)) ∧ Hid (Below w.heap.size w w')

set_option maxHeartbeats 800000 in
set_option maxRecDepth 100000 in
theorem rTrim (A : Option Addr) (n c : Nat) (l : List Nat) (w : World) (h : Sl w A n c l) (hn : n ≤ 1000000) :
    Calls Tryz.prog 157 #[.slice A n c] w (RP (val l) w) := by
  have hm := h.max
  have hcap := h.cap
  have hcm := h.capMax
  unfold maxLen at hm hcm
  have H := Lib.hid h
  have hlen : l.length = n := h.len
  have HL := Lib.hid hlen
  have HTL := Lib.hid (trim_limbs h.ok)
  have HLO := Lib.hid (limbs_ok (val l))
  have HOWN := Lib.hid (show (w.alloc (.cells #[] tU)).ownsRow w.heap.size tU 1 (.slice (some ⟨w.heap.size, 0, none⟩) 0 0) 0 [] from ⟨rfl, .inr ⟨w.heap.size, 0, #[], rfl, Nat.le_refl _, Blk.new _ _ _, Nat.le_refl _, by unfold maxLen; omega, rfl, rfl⟩⟩)
  have HL0 := Lib.hid ((Below.refl w.heap.size w).alloc (Nat.le_refl _) (.cells #[] tU))
  obtain ⟨i0, ti, tz0, tz1, tz2⟩ := info_parts Tryz.infoU32
  cases A with
  | none =>
    have := h.nil rfl
    subst this
    obtain rfl : n = 0 := by omega
    have : l = [] := List.eq_nil_of_length_eq_zero hlen
    subst this
    clear h hlen
    go_enter Tryz.func157, Tryz.ntmps157
    go_wp2
    go_loop [3] (fun i => i = .int .i64 0) (fun _ => 0)
    case atStart => rfl
    case round =>
      subst hrel
      go_wp2_with (at_builtin; refine wpList_append_own_none rfl _ _ _ rfl w.heap.size 125 i0 1 Tryz.underlying38 ti (.slice (some ⟨w.heap.size, 0, none⟩) 0 0) 0 [] rfl (by exact HOWN.out) rfl ?_)
      go_ret
      refine ⟨_, 0, 0, rfl, Lib.hid ?_, HL0⟩
      rw [val_nil, limbs_zero]
      exact Nw.empty _ _ _ _
  | some ad =>
    clear h hlen
    go_enter Tryz.func157, Tryz.ntmps157
    go_wp2_with fail
    go_loop [3] (fun i => ∃ k : Nat, i = .int .i64 k ∧ k ≤ n ∧ Hid (∀ x ∈ l.drop k, x = 0)) (fun i => (intOf i).toNat)
    case atStart => exact ⟨n, rfl, by omega, Lib.hid (by rw [List.drop_eq_nil_of_le (by rw [HL.out]; omega)]; simp)⟩
    case round =>
      obtain ⟨k, rfl, hk, HZ⟩ := hrel
      by_cases hk0 : k = 0
      · subst hk0
        have HT := Lib.hid (tl_unique (by omega) HZ.out (fun x h => absurd h (by omega)))
        have HRD := Lib.hid ((H.out.cut (m := 0) (c' := c) (by omega) (by omega) (by unfold maxLen; omega) (fun h => by cases h)).rd.alloc (.cells #[] tU))
        have hd : decide ((0 : Int) < 0) = false := rfl
        go_wp2_with (at_builtin; refine wpList_append_rd _ rfl _ _ _ rfl w.heap.size 125 i0 _ 1 4 Tryz.underlying38 ti tz0 tz1 tz2 rfl (by omega) (.slice (some ⟨w.heap.size, 0, none⟩) 0 0) 0 [] rfl (by exact HOWN.out) (some ad) (0) c (by simp) (U (l.take (0))) rfl (by exact HRD.out) (U_one _) (by unfold maxLen; omega) (by omega) (by simp) ?_)
        intro v' w2 hown2 hgrow
        have HO2 := Lib.hid (show w2.ownsRow w.heap.size tU 1 v' (0) (U (limbs (val l))) by
          rw [← HTL.out, HT.out]
          simpa using hown2)
        have HL2 := Lib.hid (HL0.out.trans (below_of_grown hgrow (by
          intro g hg
          have : w.heap.size = g := by simpa [Value.ownBlock] using hg
          omega) (by simp)))
        clear hown2 hgrow ti tz0 tz1 tz2
        go_wp2_with fail
        go_ret
        obtain ⟨A', c', rfl, hnw⟩ := Nw.of_own HO2.out HLO.out
        exact ⟨A', _, c', rfl, Lib.hid hnw, HL2⟩
      · obtain ⟨j, rfl⟩ : ∃ j, k = j + 1 := ⟨k - 1, by omega⟩
        obtain ⟨b, off, x, hA, hb, hx, hxB, hcell⟩ := H.out.at_ (i := j) (by omega)
        injection hA with hA
        subst hA
        have HX := Lib.hid hx
        clear hx hk0
        unfold BB at hxB
        by_cases hx0 : x = 0
        · subst hx0
          have HZ' := Lib.hid (show ∀ x ∈ l.drop j, x = 0 by
            rw [drop_at HX.out]
            intro y hy
            rcases List.mem_cons.1 hy with rfl | hy
            · rfl
            · exact HZ.out y hy)
          clear ti tz0 tz1 tz2
          go_wp2_with fail
          go_round
          case rel => exact ⟨j, by go_num, by omega, HZ'⟩
          case measure => simp [intOf]
        · have HT := Lib.hid (tl_unique (by rw [HL.out]; exact hk) HZ.out (fun y _ hy => by
            rw [show j + 1 - 1 = j by omega, HX.out] at hy
            injection hy with hy
            rw [← hy]; exact hx0))
          have hxd : ((x : Int) == 0) = false := by rw [beq_eq_false_iff_ne]; omega
          have HRD := Lib.hid ((H.out.cut (m := j + 1) (c' := c) hk (by omega) (by unfold maxLen; omega) (fun h => by cases h)).rd.alloc (.cells #[] tU))
          clear hx0
          go_wp2_with (at_builtin; refine wpList_append_rd _ rfl _ _ _ rfl w.heap.size 125 i0 _ 1 4 Tryz.underlying38 ti tz0 tz1 tz2 rfl (by omega) (.slice (some ⟨w.heap.size, 0, none⟩) 0 0) 0 [] rfl (by exact HOWN.out) (some ⟨b, off, none⟩) (j + 1) c (by simp) (U (l.take (j + 1))) rfl (by exact HRD.out) (U_one _) (by unfold maxLen; omega) (by omega) (by simp) ?_)
          intro v' w2 hown2 hgrow
          have HO2 := Lib.hid (show w2.ownsRow w.heap.size tU 1 v' (j + 1) (U (limbs (val l))) by
            rw [← HTL.out, HT.out]
            simpa using hown2)
          have HL2 := Lib.hid (HL0.out.trans (below_of_grown hgrow (by
            intro g hg
            have : w.heap.size = g := by simpa [Value.ownBlock] using hg
            omega) (by simp)))
          clear hown2 hgrow ti tz0 tz1 tz2
          go_wp2_with fail
          go_ret
          obtain ⟨A', c', rfl, hnw⟩ := Nw.of_own HO2.out HLO.out
          exact ⟨A', _, c', rfl, Lib.hid hnw, HL2⟩

set_option maxHeartbeats 400000 in
theorem rAt (A : Option Addr) (n c i : Nat) (l : List Nat) (w : World) (h : Sl w A n c l) (hi : i ≤ 10000000) :
    Calls Tryz.prog 156 #[.slice A n c, .int .i64 i] w fun e w' => e = .returned (.int .u64 (at0 l i : Nat)) ∧ w = w' := by
  have hnm := h.max
  unfold maxLen at hnm
  by_cases hin : i < n
  · obtain ⟨b, off, x, hA, hb, hx, hxB, hcell⟩ := h.at_ hin
    subst hA
    rw [at0_in hx]
    unfold BB at hxB
    have hd : decide ((i : Int) < n) = true := by simp; omega
    clear h hx
    go_enter Tryz.func156, Tryz.ntmps156
    go_wp2_with fail
    go_ret
    exact ⟨rfl, rfl⟩
  · rw [at0_out (by rw [h.len]; omega)]
    have hd : decide ((i : Int) < n) = false := by simp; omega
    clear h
    go_enter Tryz.func156, Tryz.ntmps156
    go_wp2_with fail
    go_ret
    exact ⟨rfl, rfl⟩

set_option maxHeartbeats 800000 in
theorem rCmp (A B : Option Addr) (n c m d : Nat) (a b : List Nat) (w : World) (ha : Sl w A n c a) (hb : Sl w B m d b) (hn : n ≤ 1000000) (hm : m ≤ 1000000) :
    Calls Tryz.prog 115 #[.slice A n c, .slice B m d] w fun e w' => e = .returned (.int .i64 (cmpN (val a) (val b))) ∧ w = w' := by
  have HA := Lib.hid ha
  have HB := Lib.hid hb
  clear ha hb
  obtain ⟨N, hN⟩ : ∃ N, N = max n m := ⟨_, rfl⟩
  have hmx : max (n : Int) m = N := by omega
  have HNA := Lib.hid (show a.length ≤ N by rw [HA.out.len]; omega)
  have HNB := Lib.hid (show b.length ≤ N by rw [HB.out.len]; omega)
  have hNb : N ≤ 1000000 := by omega
  clear hN
  go_enter Tryz.func115, Tryz.ntmps115
  go_wp2_with fail
  go_loop [5] (fun i => ∃ k : Nat, i = .int .i64 ((k : Int) - 1) ∧ k ≤ N ∧ Hid (∀ j, k ≤ j → at0 a j = at0 b j)) (fun i => (intOf i + 1).toNat)
  case atStart =>
    refine ⟨N, rfl, by omega, Lib.hid (fun j hj => ?_)⟩
    have h1 := HNA.out
    have h2 := HNB.out
    rw [at0_out (by omega), at0_out (by omega)]
  case round =>
    obtain ⟨k, rfl, hk, HE⟩ := hrel
    cases k with
    | zero =>
      rw [show ((0 : Nat) : Int) - 1 = -1 by omega]
      have HV := Lib.hid (cmpN_eq (at0_eq HNA.out HNB.out HE.out))
      go_wp2_with fail
      go_ret
      exact ⟨by rw [HV.out]; rfl, rfl⟩
    | succ i =>
      rw [show ((i + 1 : Nat) : Int) - 1 = i by omega]
      have hx := at0_lt HA.out.ok i
      have hy := at0_lt HB.out.ok i
      obtain ⟨x, hxx⟩ : ∃ x, x = at0 a i := ⟨_, rfl⟩
      obtain ⟨y, hyy⟩ : ∃ y, y = at0 b i := ⟨_, rfl⟩
      have KA := Lib.hid (rAt A n c i a w HA.out (by omega))
      have KB := Lib.hid (rAt B m d i b w HB.out (by omega))
      rw [← hxx] at hx KA
      rw [← hyy] at hy KB
      have HX := Lib.hid hxx
      have HY := Lib.hid hyy
      clear hxx hyy
      by_cases h1 : x < y
      · have hd : decide (x < y) = true := by simpa using h1
        have HV := Lib.hid (cmpN_lt (at0_less HA.out.ok HNA.out HNB.out (show i < N by omega) (by rw [← HX.out, ← HY.out]; exact h1) HE.out))
        clear h1
        go_wp2_with fail
        refine KA.out.mono ?_
        rintro e w1 ⟨rfl, rfl⟩
        go_wp2_with fail
        refine KB.out.mono ?_
        rintro e w1 ⟨rfl, rfl⟩
        go_wp2_with fail
        go_ret
        exact ⟨by rw [HV.out]; rfl, rfl⟩
      · have hd : decide (x < y) = false := by simpa using h1
        by_cases h2 : y < x
        · have hd2 : decide (y < x) = true := by simpa using h2
          have HV := Lib.hid (cmpN_gt (at0_less HB.out.ok HNB.out HNA.out (show i < N by omega) (by rw [← HX.out, ← HY.out]; exact h2) (fun j hj => (HE.out j hj).symm)))
          clear h1 h2
          go_wp2_with fail
          refine KA.out.mono ?_
          rintro e w1 ⟨rfl, rfl⟩
          go_wp2_with fail
          refine KB.out.mono ?_
          rintro e w1 ⟨rfl, rfl⟩
          go_wp2_with fail
          refine KA.out.mono ?_
          rintro e w1 ⟨rfl, rfl⟩
          go_wp2_with fail
          refine KB.out.mono ?_
          rintro e w1 ⟨rfl, rfl⟩
          go_wp2_with fail
          go_ret
          exact ⟨by rw [HV.out]; rfl, rfl⟩
        · have hd2 : decide (y < x) = false := by simpa using h2
          have HE2 := Lib.hid (show ∀ j, i ≤ j → at0 a j = at0 b j from fun j hj => by
            rcases Nat.lt_or_ge i j with h | h
            · exact HE.out j (by omega)
            · obtain rfl : j = i := by omega
              rw [← HX.out, ← HY.out]; omega)
          clear h1 h2
          go_wp2_with fail
          refine KA.out.mono ?_
          rintro e w1 ⟨rfl, rfl⟩
          go_wp2_with fail
          refine KB.out.mono ?_
          rintro e w1 ⟨rfl, rfl⟩
          go_wp2_with fail
          refine KA.out.mono ?_
          rintro e w1 ⟨rfl, rfl⟩
          go_wp2_with fail
          refine KB.out.mono ?_
          rintro e w1 ⟨rfl, rfl⟩
          go_wp2_with fail
          go_round
          case rel => exact ⟨i, rfl, by omega, HE2⟩
          case measure => simp [intOf]

set_option maxHeartbeats 800000 in
theorem rBits (A : Option Addr) (n c : Nat) (a : List Nat) (w : World) (ha : Sl w A n c a) (hn : n ≤ 1000000) :
    Calls Tryz.prog 117 #[.slice A n c] w fun e w' => e = .returned (.int .i64 (blen (val a) : Nat)) ∧ w = w' := by
  have HA := Lib.hid ha
  have HLN := Lib.hid ha.len
  clear ha
  go_enter Tryz.func117, Tryz.ntmps117
  go_wp2_with fail
  go_loop [3] (fun i => ∃ k : Nat, i = .int .i64 ((k : Int) - 1) ∧ k ≤ n ∧ Hid (∀ x ∈ a.drop k, x = 0)) (fun i => (intOf i + 1).toNat)
  case atStart => exact ⟨n, rfl, by omega, Lib.hid (by rw [List.drop_eq_nil_of_le (by rw [HLN.out]; omega)]; simp)⟩
  case round =>
    obtain ⟨k, rfl, hk, HZ⟩ := hrel
    cases k with
    | zero =>
      rw [show ((0 : Nat) : Int) - 1 = -1 by omega]
      have HV := Lib.hid (show blen (val a) = 0 by
        rw [val_zero_of (by have := HZ.out; rwa [List.drop_zero] at this)]; rfl)
      go_wp2_with fail
      go_ret
      exact ⟨by rw [HV.out]; rfl, rfl⟩
    | succ i =>
      rw [show ((i + 1 : Nat) : Int) - 1 = i by omega]
      obtain ⟨b, off, x, hA, hb, hx, hxB, hcell⟩ := HA.out.at_ (i := i) (by omega)
      subst hA
      have HX := Lib.hid hx
      clear hx
      unfold BB at hxB
      by_cases hx0 : x = 0
      · subst hx0
        have HZ' := Lib.hid (show ∀ x ∈ a.drop i, x = 0 by
          rw [drop_at HX.out]
          intro y hy
          rcases List.mem_cons.1 hy with rfl | hy
          · rfl
          · exact HZ.out y hy)
        go_wp2_with fail
        go_round
        case rel => exact ⟨i, rfl, by omega, HZ'⟩
        case measure => simp [intOf]
      · have HT := Lib.hid (tl_unique (n := i + 1) (by rw [HLN.out]; exact hk) HZ.out (fun y _ hy => by
          rw [show i + 1 - 1 = i by omega, HX.out] at hy
          injection hy with hy
          rw [← hy]; exact hx0))
        have HBV := Lib.hid (blen_val (x := x) HA.out.ok (by rw [HT.out]; omega) (by rw [HT.out]; exact HX.out))
        rw [HT.out, show i + 1 - 1 = i by omega] at HBV
        have hxd : ((x : Int) != 0) = true := by rw [bne_iff_ne]; omega
        have hb32 : blen x ≤ 32 := blen_le (by omega)
        clear hx0
        go_wp2_with fail
        go_loop [4, 5] (fun nv xv => ∃ q y : Nat, nv = .int .i64 q ∧ xv = .int .u32 y ∧ y < 4294967296 ∧ q ≤ 100000000 ∧ Hid (q + blen y = 32 * i + blen x)) (fun _ xv => (intOf xv).toNat)
        case atStart => exact ⟨32 * i, x, by go_num, rfl, hxB, by omega, Lib.hid rfl⟩
        case round =>
          obtain ⟨q, y, rfl, rfl, hy, hq, HQ⟩ := hrel
          by_cases hy0 : y = 0
          · subst hy0
            have HF := Lib.hid (show blen (val a) = q by rw [HBV.out, ← HQ.out]; rfl)
            go_wp2_with fail
            go_ret
            exact ⟨by rw [HF.out]; rfl, rfl⟩
          · have HQ2 := Lib.hid (show (q + 1) + blen (y / 2) = 32 * i + blen x by rw [← HQ.out, blen_half (show 0 < y by omega)]; omega)
            have hyd : decide ((0 : Int) < y) = true := by simp; omega
            have hqb : q + 1 ≤ 100000000 := by have := HQ2.out; omega
            go_wp2_with fail
            go_round
            case rel => exact ⟨q + 1, y / 2, by go_num, by go_num, by omega, hqb, HQ2⟩
            case measure => simp [intOf]; omega
end Go.Proofs.YtoogeihbhhcpaaaGreatDoor
namespace Go.Fl.Nm
open Go.RowKit Go.Fl
theorem radd_step {o a b : List Nat} {i cc : Nat} (hl : o.length = i) (hok : ok o) (hv : val o + BB ^ i * cc = val (a.take i) + val (b.take i)) :
    (o ++ [(at0 a i + at0 b i + cc) % BB]).length = i + 1 ∧ ok (o ++ [(at0 a i + at0 b i + cc) % BB]) ∧
    val (o ++ [(at0 a i + at0 b i + cc) % BB]) + BB ^ (i + 1) * ((at0 a i + at0 b i + cc) / BB) = val (a.take (i + 1)) + val (b.take (i + 1)) := by
  refine ⟨by simp [hl], ok_append.2 ⟨hok, ok_cons.2 ⟨Nat.mod_lt _ BB_pos, ok_nil⟩⟩, ?_⟩
  rw [val_snoc, hl, take_at0 a, take_at0 b, Nat.pow_succ, Nat.mul_assoc]
  have h2 := Nat.div_add_mod (at0 a i + at0 b i + cc) BB
  have h3 : BB ^ i * (BB * ((at0 a i + at0 b i + cc) / BB)) + BB ^ i * ((at0 a i + at0 b i + cc) % BB) = BB ^ i * (at0 a i + at0 b i + cc) := by rw [← Nat.mul_add, h2]
  rw [Nat.mul_add, Nat.mul_add] at h3
  omega
theorem take_all {l : List Nat} {i : Nat} (h : l.length ≤ i) : l.take i = l := List.take_of_length_le h
end Go.Fl.Nm

namespace Go.Proofs.YtoogeihbhhcpaaaGreatDoor
open Go.RowKit Go.Fl Go.Fl.Nm

def RAddRel (w : World) (N : Nat) (a b : List Nat) (k : Nat) (ov cv iv : Value) (wr : World) : Prop :=
  ∃ (i cc : Nat) (o : List Nat), iv = .int .i64 i ∧ cv = .int .u64 cc ∧ cc ≤ 1 ∧ k = N + 1 - i ∧ i ≤ N + 1 ∧ (N < i → cc = 0) ∧ Hid (o.length = i) ∧ Hid (ok o) ∧ Hid (wr.ownsRow w.heap.size tU 1 ov i (U o)) ∧
    Hid (val o + BB ^ i * cc = val (a.take i) + val (b.take i)) ∧ Hid (Below w.heap.size w wr)

set_option maxHeartbeats 800000 in
set_option maxRecDepth 100000 in
theorem rAdd (A B : Option Addr) (n c m d : Nat) (a b : List Nat) (w : World) (ha : Sl w A n c a) (hb : Sl w B m d b) (hn : n ≤ 900000) (hm : m ≤ 900000) :
    Calls Tryz.prog 116 #[.slice A n c, .slice B m d] w (RP (val a + val b) w) := by
  have HA := Lib.hid ha
  have HB := Lib.hid hb
  clear ha hb
  obtain ⟨N, hN⟩ : ∃ N, N = max n m := ⟨_, rfl⟩
  have hmx : max (n : Int) m = N := by omega
  have HNA := Lib.hid (show a.length ≤ N by rw [HA.out.len]; omega)
  have HNB := Lib.hid (show b.length ≤ N by rw [HB.out.len]; omega)
  have hNb : N ≤ 900000 := by omega
  clear hN
  go_enter Tryz.func116, Tryz.ntmps116
  go_wp2_with fail
  go_loopg [5, 6, 7] (N + 1) (RAddRel w N a b)
  case atStart => exact ⟨0, 0, [], rfl, rfl, by omega, by omega, by omega, fun _ => rfl, Lib.hid rfl, Lib.hid ok_nil, Lib.hid ⟨rfl, .inl ⟨rfl, rfl⟩⟩, Lib.hid (by simp [val_nil]), Lib.hid (Below.refl _ _)⟩
  case round =>
    obtain ⟨i, cc, o, rfl, rfl, hcc, rfl, hi, hic, HLEN, HOK, HOW, HV, HBL⟩ := hrel
    by_cases hst : i < N ∨ 0 < cc
    · have hiN : i ≤ N := by rcases hst with h | h <;> omega
      have KA := Lib.hid (rAt A n c i a wr (HA.out.below HBL.out) (by omega))
      have KB := Lib.hid (rAt B m d i b wr (HB.out.below HBL.out) (by omega))
      have hx := at0_lt HA.out.ok i
      have hy := at0_lt HB.out.ok i
      have HS := Lib.hid (radd_step HLEN.out HOK.out HV.out)
      have HEND := Lib.hid (show N < i + 1 → (at0 a i + at0 b i + cc) / BB = 0 from fun h => by
        rw [at0_out (by have := HNA.out; omega), at0_out (by have := HNB.out; omega)]
        exact Nat.div_eq_of_lt (by unfold BB; omega))
      generalize at0 a i = x at *
      generalize at0 b i = y at *
      obtain ⟨S, hS⟩ : ∃ S, S = x + y + cc := ⟨_, rfl⟩
      rw [← hS] at HS HEND
      have hSi : (x : Int) + y + cc = (S : Int) := by omega
      have hand := and_mask64 S (by omega)
      have hSb : S < 9000000000 := by omega
      obtain ⟨i0, ti, tz0, tz1, tz2⟩ := info_parts Tryz.infoU32
      have hbs := HBL.out.size
      have hc2 : S / BB ≤ 1 := by unfold BB; omega
      clear hS
      generalize hM : S % 4294967296 = M at *
      have HM := Lib.hid (show S % BB = M from hM)
      rw [HM.out] at HS
      have hMb : M < 4294967296 := by omega
      clear hM
      by_cases h1 : i < N
      · have hd : decide (i < N) = true := by simpa using h1
        clear hst h1
        go_wp2_with fail
        refine KA.out.mono ?_
        rintro e w1 ⟨rfl, rfl⟩
        go_wp2_with fail
        refine KB.out.mono ?_
        rintro e w1 ⟨rfl, rfl⟩
        go_wp2_with (at_builtin; refine wpList_append_lies _ rfl _ _ _ rfl w.heap.size 125 i0 _ 1 4 Tryz.underlying38 ti tz0 tz1 tz2 rfl (by omega) u5 i (U o) rfl (by exact HOW.out.alloc _) ⟨wr.heap.size, 0, none⟩ 1 1 [.int .u32 (M : Int)] rfl rfl (by exact World.news_of_block (cs := #[.int .u32 (M : Int)]) (t := 125) (fr := (0, 0)) (heap_alloc_new wr _)) (by simp [Value.oneCell']) (by omega) (by unfold maxLen; omega) (by omega) (by simp; omega) (wr.heap.size + 1) (by simp) ?_)
        intro g cap w3 hown hgrow hat hlt2
        have HO3 := Lib.hid (show w3.ownsRow w.heap.size tU 1 (.slice (some ⟨g, 0, none⟩) (i + 1) cap) (i + 1) (U (o ++ [M])) by rw [U_append]; exact hown)
        have HL3 := Lib.hid (show Below w.heap.size w w3 from (HBL.out.alloc (by omega) _).grown hgrow (by simp; omega) (fun k hk => (HOW.out.lt k hk).1))
        clear hown hgrow hat hlt2 ti tz0 tz1 tz2
        go_wp2_with fail
        go_roundg (N + 1 - (i + 1))
        case measure => omega
        case rel => exact ⟨i + 1, S / BB, o ++ [M], by go_num, by unfold BB; simp, hc2, rfl, by omega, HEND.out, Lib.hid HS.out.1, Lib.hid HS.out.2.1, HO3, Lib.hid HS.out.2.2, HL3⟩
      · have hd : decide (i < N) = false := by simpa using h1
        have hd2 : decide (0 < cc) = true := by simp; omega
        clear hst h1
        go_wp2_with fail
        refine KA.out.mono ?_
        rintro e w1 ⟨rfl, rfl⟩
        go_wp2_with fail
        refine KB.out.mono ?_
        rintro e w1 ⟨rfl, rfl⟩
        go_wp2_with (at_builtin; refine wpList_append_lies _ rfl _ _ _ rfl w.heap.size 125 i0 _ 1 4 Tryz.underlying38 ti tz0 tz1 tz2 rfl (by omega) u5 i (U o) rfl (by exact HOW.out.alloc _) ⟨wr.heap.size, 0, none⟩ 1 1 [.int .u32 (M : Int)] rfl rfl (by exact World.news_of_block (cs := #[.int .u32 (M : Int)]) (t := 125) (fr := (0, 0)) (heap_alloc_new wr _)) (by simp [Value.oneCell']) (by omega) (by unfold maxLen; omega) (by omega) (by simp; omega) (wr.heap.size + 1) (by simp) ?_)
        intro g cap w3 hown hgrow hat hlt2
        have HO3 := Lib.hid (show w3.ownsRow w.heap.size tU 1 (.slice (some ⟨g, 0, none⟩) (i + 1) cap) (i + 1) (U (o ++ [M])) by rw [U_append]; exact hown)
        have HL3 := Lib.hid (show Below w.heap.size w w3 from (HBL.out.alloc (by omega) _).grown hgrow (by simp; omega) (fun k hk => (HOW.out.lt k hk).1))
        clear hown hgrow hat hlt2 ti tz0 tz1 tz2
        go_wp2_with fail
        go_roundg (N + 1 - (i + 1))
        case measure => omega
        case rel => exact ⟨i + 1, S / BB, o ++ [M], by go_num, by unfold BB; simp, hc2, rfl, by omega, HEND.out, Lib.hid HS.out.1, Lib.hid HS.out.2.1, HO3, Lib.hid HS.out.2.2, HL3⟩
    · have hd : decide (i < N) = false := by simp; omega
      have hd2 : decide (0 < cc) = false := by simp; omega
      obtain ⟨A', c', hu, hnw⟩ := Nw.of_own HOW.out HOK.out
      subst hu
      have HN := Lib.hid hnw
      have HVV := Lib.hid (show val o = val a + val b by
        have h1 := HV.out
        rw [take_all (by have := HNA.out; omega), take_all (by have := HNB.out; omega), show cc = 0 by omega] at h1
        omega)
      clear hnw hst
      go_wp2_with fail
      refine (rTrim A' i c' o wr HN.out.sl (by omega)).mono ?_
      rw [HVV.out]
      rintro e w2 ⟨C, k, ck, rfl, HC, HL2⟩
      go_wp2_with fail
      go_ret
      exact ⟨C, k, ck, rfl, Lib.hid (HC.out.base HBL.out.size), Lib.hid (HBL.out.trans (HL2.out.mono HBL.out.size))⟩

def RMulRel (w : World) (g n m : Nat) (a b : List Nat) (k : Nat) (iv : Value) (wr : World) : Prop :=
  ∃ (i : Nat) (l : List Nat), iv = .int .i64 i ∧ i ≤ n ∧ k = n - i ∧ Hid (l.length = n + m + 1) ∧ Hid (ok l) ∧ Hid (Blk wr g tU (UA l)) ∧
    Hid (val l = val (a.take i) * val b) ∧ Hid (∀ j, i + m ≤ j → j < n + m + 1 → l[j]? = some 0) ∧ Hid (Below w.heap.size w wr)
def RMulIn (w : World) (g n m i x : Nat) (b l0 : List Nat) (k : Nat) (cv iv : Value) (wr : World) : Prop :=
  ∃ (kk cc : Nat) (l : List Nat), iv = .int .i64 kk ∧ cv = .int .u64 cc ∧ cc < 4294967296 ∧ kk ≤ m + 1 ∧ (m < kk → cc = 0) ∧ k = m + 1 - kk ∧ Hid (l.length = n + m + 1) ∧ Hid (ok l) ∧ Hid (Blk wr g tU (UA l)) ∧
    Hid (val l + BB ^ (i + kk) * cc = val l0 + BB ^ i * (x * val (b.take kk))) ∧ Hid (∀ j, i + max m kk ≤ j → j < n + m + 1 → l[j]? = some 0) ∧ Hid (Below w.heap.size w wr)

theorem rmul_step {l l0 b : List Nat} {i n m kk x o cc : Nat} (hl : l.length = n + m + 1) (hok : ok l) (hv : val l + BB ^ (i + kk) * cc = val l0 + BB ^ i * (x * val (b.take kk)))
    (hz : ∀ j, i + max m kk ≤ j → j < n + m + 1 → l[j]? = some 0) (hi : i < n) (hk : kk ≤ m) (ho : l[i + kk]? = some o) :
    (l.set (i + kk) ((x * at0 b kk + o + cc) % BB)).length = n + m + 1 ∧ ok (l.set (i + kk) ((x * at0 b kk + o + cc) % BB)) ∧
    val (l.set (i + kk) ((x * at0 b kk + o + cc) % BB)) + BB ^ (i + (kk + 1)) * ((x * at0 b kk + o + cc) / BB) = val l0 + BB ^ i * (x * val (b.take (kk + 1))) ∧
    (∀ j, i + max m (kk + 1) ≤ j → j < n + m + 1 → (l.set (i + kk) ((x * at0 b kk + o + cc) % BB))[j]? = some 0) := by
  refine ⟨by simp [hl], ok_set hok _ _ (Nat.mod_lt _ BB_pos), ?_, fun j h1 h2 => ?_⟩
  · have h1 := val_set ((x * at0 b kk + o + cc) % BB) ho
    have h2 := Nat.div_add_mod (x * at0 b kk + o + cc) BB
    have h3 : BB ^ (i + kk) * (BB * ((x * at0 b kk + o + cc) / BB)) + BB ^ (i + kk) * ((x * at0 b kk + o + cc) % BB) = BB ^ (i + kk) * (x * at0 b kk + o + cc) := by rw [← Nat.mul_add, h2]
    rw [Nat.mul_add, Nat.mul_add] at h3
    rw [take_at0 b kk, show i + (kk + 1) = i + kk + 1 by omega, Nat.pow_succ, Nat.mul_assoc, Nat.mul_add, Nat.mul_add]
    have h4 : BB ^ i * (x * (BB ^ kk * at0 b kk)) = BB ^ (i + kk) * (x * at0 b kk) := by
      rw [Nat.pow_add, Nat.mul_assoc, Nat.mul_left_comm x]
    omega
  · rw [at_set_ne _ (by omega)]
    exact hz j (by omega) h2

set_option maxHeartbeats 1600000 in
set_option maxRecDepth 100000 in
theorem rMul (A B : Option Addr) (n c m d : Nat) (a b : List Nat) (w : World) (ha : Sl w A n c a) (hb : Sl w B m d b) (hn : n ≤ 100000) (hm : m ≤ 100000) :
    Calls Tryz.prog 111 #[.slice A n c, .slice B m d] w (RP (val a * val b) w) := by
  have HA := Lib.hid ha
  have HB := Lib.hid hb
  clear ha hb
  have hmk := make_u32 (n + m + 1) (n + m + 1) ((n : Int) + m + 1) ((n : Int) + m + 1) (by omega) (by omega) (by omega) (by omega)
  have HB0 := Lib.hid (Blk.new w tU (UA (zeros (n + m + 1))))
  have HL0 := Lib.hid ((Below.refl w.heap.size w).alloc (Nat.le_refl _) (.cells (UA (zeros (n + m + 1))) tU))
  go_enter Tryz.func111, Tryz.ntmps111
  go_wp2_with fail
  clear hmk
  go_loopg [6] n (RMulRel w w.heap.size n m a b)
  case atStart => exact ⟨0, zeros (n + m + 1), rfl, by omega, rfl, Lib.hid (zeros_len _), Lib.hid (ok_zeros _), HB0, Lib.hid (by simp [val_nil, zeros, val_zeros]), Lib.hid (fun j _ h => zeros_at _ j h), HL0⟩
  case round =>
    obtain ⟨i, l0, rfl, hi, rfl, HLEN0, HOK0, HBK0, HV0, HZ0, HBL0⟩ := hrel
    by_cases hin : i < n
    · obtain ⟨b1, o1, x, hA, hb1, hx, hxB, hcell1⟩ := HA.out.at_ hin
      subst hA
      have HX := Lib.hid hx
      have HC1 := Lib.hid hcell1
      clear hcell1 hx
      unfold BB at hxB
      have hd : decide (i < n) = true := by simpa using hin
      obtain ⟨wo, rfl⟩ : ∃ wo : World, wo = wr := ⟨_, rfl⟩
      go_wp2_with fail
      go_loopg [7, 8] (m + 1) (RMulIn w w.heap.size n m i x b l0)
      case atStart => exact ⟨0, 0, l0, rfl, rfl, by omega, by omega, fun _ => rfl, rfl, HLEN0, HOK0, HBK0, Lib.hid (by simp [val_nil]), Lib.hid (fun j h1 h2 => HZ0.out j (by omega) h2), HBL0⟩
      case round =>
        obtain ⟨kk, cc, l, rfl, rfl, hcc, hk, hkc, rfl, HLEN, HOK, HBK, HV, HZ, HBL⟩ := hrel
        by_cases hst : kk < m ∨ 0 < cc
        · have hkm : kk ≤ m := by rcases hst with h | h <;> omega
          have hc1 : wr.cell? ⟨b1, o1 + i, none⟩ = some (.int .u32 x) := (HBL.out.cell (p := ⟨b1, _, none⟩) hb1).trans HC1.out
          obtain ⟨o, ho⟩ : ∃ o, l[i + kk]? = some o := ⟨_, List.getElem?_eq_getElem (by rw [HLEN.out]; omega)⟩
          have hoB := ok_at HOK.out ho
          have hg1 : wr.cell? ⟨w.heap.size, i + kk, none⟩ = some (.int .u32 o) := blkU_cell HBK.out ho
          have hg2 : wr.frozen? ⟨w.heap.size, i + kk, none⟩ = false := HBK.out.frozen _
          have HS := Lib.hid (rmul_step HLEN.out HOK.out HV.out HZ.out hin hkm ho)
          have HEND := Lib.hid (show m < kk + 1 → (x * at0 b kk + o + cc) / BB = 0 from fun h => by
            have h1 : l[i + kk]? = some 0 := HZ.out _ (by omega) (by omega)
            rw [ho] at h1
            injection h1 with h1
            rw [at0_out (by rw [HB.out.len]; omega), h1]
            exact Nat.div_eq_of_lt (by unfold BB; omega))
          have HHO := Lib.hid ho
          clear ho
          have KB := Lib.hid (fun q => rAt B m d kk b (wr.drewN q) ((HB.out.below HBL.out).drewN q) (by omega))
          have hy := at0_lt HB.out.ok kk
          generalize at0 b kk = y at *
          unfold BB at hoB
          obtain ⟨p1, p2, p3⟩ := mul_bd hxB hy
          obtain ⟨S, hS⟩ : ∃ S, S = x * y + o + cc := ⟨_, rfl⟩
          rw [← hS] at HS HEND
          have hSi : (x : Int) * y + o + cc = (S : Int) := by rw [hS]; simp
          have hSb : S < 18446744073709551616 := by omega
          have hand := and_mask64 S hSb
          have hI : ((i : Int) + kk).toNat = i + kk := by omega
          have hc2 : S / BB < 4294967296 := by unfold BB; omega
          have hix : i < n := hin
          clear hS p3
          generalize hM : S % 4294967296 = M at *
          have HM := Lib.hid (show S % BB = M from hM)
          rw [HM.out] at HS
          have hMb : M < 4294967296 := by omega
          clear hM
          by_cases h1 : kk < m
          · have hd1 : decide (kk < m) = true := by simpa using h1
            clear hst h1
            go_wp2_with fail
            go_quiet ((go_at_call 156; exact quiet_left (KB.out _)))
            clear hI
            go_wp2_with fail
            go_roundg (m + 1 - (kk + 1))
            case measure => omega
            case rel => exact ⟨kk + 1, S / BB, l.set (i + kk) M, by go_num, by unfold BB; simp, hc2, by omega, HEND.out, rfl, Lib.hid HS.out.1, Lib.hid HS.out.2.1, Lib.hid (blkU_set (HBK.out.drewN nq) (i + kk) M), Lib.hid HS.out.2.2.1, Lib.hid HS.out.2.2.2, Lib.hid ((below_drewN HBL.out nq).setCell (Nat.le_refl _) _)⟩
          · have hd1 : decide (kk < m) = false := by simpa using h1
            have hd2 : decide (0 < cc) = true := by simp; omega
            clear hst h1
            go_wp2_with fail
            go_quiet ((go_at_call 156; exact quiet_left (KB.out _)))
            clear hI
            go_wp2_with fail
            go_roundg (m + 1 - (kk + 1))
            case measure => omega
            case rel => exact ⟨kk + 1, S / BB, l.set (i + kk) M, by go_num, by unfold BB; simp, hc2, by omega, HEND.out, rfl, Lib.hid HS.out.1, Lib.hid HS.out.2.1, Lib.hid (blkU_set (HBK.out.drewN nq) (i + kk) M), Lib.hid HS.out.2.2.1, Lib.hid HS.out.2.2.2, Lib.hid ((below_drewN HBL.out nq).setCell (Nat.le_refl _) _)⟩
        · have hd1 : decide (kk < m) = false := by simp; omega
          have hd2 : decide (0 < cc) = false := by simp; omega
          have HVE := Lib.hid (show val l = val (a.take (i + 1)) * val b by
            have h1 := HV.out
            rw [take_all (by rw [HB.out.len]; omega), show cc = 0 by omega, HV0.out] at h1
            rw [val_take_succ HX.out, Nat.add_mul, Nat.mul_assoc]
            omega)
          have HZE := Lib.hid (show ∀ j, i + 1 + m ≤ j → j < n + m + 1 → l[j]? = some 0 from fun j h1 h2 => HZ.out j (by omega) h2)
          clear hst
          go_wp2_with fail
          go_roundg (n - (i + 1))
          case measure => omega
          case rel => exact ⟨i + 1, l, by go_num, by omega, rfl, HLEN, HOK, HBK, HVE, HZE, HBL⟩
    · obtain rfl : i = n := by omega
      have hd : decide (i < i) = false := by simp
      have HN := Lib.hid (Nw.of_blk (base := w.heap.size) HBK0.out HOK0.out (Nat.le_refl _) HLEN0.out (by unfold maxLen; omega))
      have HVV := Lib.hid (show val l0 = val a * val b by
        have h1 := HV0.out
        rwa [take_all (by rw [HA.out.len]; omega)] at h1)
      go_wp2_with fail
      refine (rTrim _ (i + m + 1) _ l0 wr HN.out.sl (by omega)).mono ?_
      rw [HVV.out]
      rintro e w2 ⟨C, k, ck, rfl, HC, HL2⟩
      go_wp2_with fail
      go_ret
      exact ⟨C, k, ck, rfl, Lib.hid (HC.out.base HBL0.out.size), Lib.hid (HBL0.out.trans (HL2.out.mono HBL0.out.size))⟩
end Go.Proofs.YtoogeihbhhcpaaaGreatDoor
namespace Go.Proofs.YtoogeihbhhcpaaaGreatDoor
open Go.RowKit Go.Fl Go.Fl.Nm

theorem limbs_le_len {l : List Nat} (h : ok l) : (limbs (val l)).length ≤ l.length := by rw [← tl_limbs h]; exact tl_le l
end Go.Proofs.YtoogeihbhhcpaaaGreatDoor
namespace Go.Fl.Nm
open Go.RowKit Go.Fl
theorem rsub_limb (x y cc : Nat) (hx : x < BB) (hy : y < BB) (hc : cc ≤ 1) : (x + BB - y - cc) / BB ≤ 1 ∧ (x + BB - y - cc) % BB + y + cc = x + BB * (1 - (x + BB - y - cc) / BB) := by
  unfold BB at *
  omega
theorem rsub_step {o a b : List Nat} {i cc d r : Nat} (hl : o.length = i) (hok : ok o) (hv : val o + val (b.take i) = val (a.take i) + BB ^ i * cc) (hd : d < BB) (he : d + at0 b i + cc = at0 a i + BB * r) :
    (o ++ [d]).length = i + 1 ∧ ok (o ++ [d]) ∧ val (o ++ [d]) + val (b.take (i + 1)) = val (a.take (i + 1)) + BB ^ (i + 1) * r := by
  refine ⟨by simp [hl], ok_append.2 ⟨hok, ok_cons.2 ⟨hd, ok_nil⟩⟩, ?_⟩
  rw [val_snoc, hl, take_at0 a, take_at0 b, Nat.pow_succ, Nat.mul_assoc]
  have h3 : BB ^ i * (d + at0 b i + cc) = BB ^ i * (at0 a i + BB * r) := by rw [he]
  rw [Nat.mul_add, Nat.mul_add, Nat.mul_add] at h3
  omega
theorem rsub_end {o a b : List Nat} {n cc : Nat} (hl : o.length = n) (hok : ok o) (hoa : ok a) (ha : a.length = n) (hv : val o + val (b.take n) = val (a.take n) + BB ^ n * cc) (hle : val b ≤ val a) : val o = val a - val b := by
  have h1 := val_lt hok
  have h2 := val_lt hoa
  rw [hl] at h1
  rw [ha] at h2
  rw [List.take_of_length_le (show a.length ≤ n by omega)] at hv
  have h3 : val (b.take n) = val b := by
    rcases Nat.lt_or_ge b.length n with h | h
    · rw [List.take_of_length_le (by omega)]
    · have e := val_split b n h
      rcases Nat.eq_zero_or_pos (val (b.drop n)) with h0 | h0
      · rw [h0] at e; omega
      · have : BB ^ n * 1 ≤ BB ^ n * val (b.drop n) := Nat.mul_le_mul_left _ h0
        omega
  rw [h3] at hv
  rcases Nat.eq_zero_or_pos cc with h | h
  · subst h; omega
  · have : BB ^ n * 1 ≤ BB ^ n * cc := Nat.mul_le_mul_left _ h
    omega
theorem or_low32 (s cc X : Nat) (hs : s < 32) (hX : X % 2 ^ s = 0) (hXb : X < 4294967296) (hc : cc < 2 ^ s) (hsum : X + cc < 4294967296) : bits .or .u32 (cc : Int) (X : Int) = ((cc + X : Nat) : Int) := by
  have h2 := two_pow_le31 s hs
  have hb := fun a b (ha : a < 2 ^ 32) (hb : b < 2 ^ 32) => (bits_nat .u32 32 (by decide) (fun n h0 h1 => by simp [IntKind.wrap, IntKind.bits, IntKind.signed]; omega) a b ha hb).2
  have := bits_join .u32 32 (by decide) (fun n h0 h1 => by simp [IntKind.wrap, IntKind.bits, IntKind.signed]; omega) s (X : Int) cc (by omega)
    (by
      have : (2 : Int) ^ s = ((2 ^ s : Nat) : Int) := by simp
      rw [this, ← Int.natCast_emod, hX]; rfl) (by omega) (by omega)
    (by
      have : (2 : Int) ^ s = ((2 ^ s : Nat) : Int) := by simp
      rw [this]; omega) (by omega)
  rw [hb X cc (by omega) (by omega)] at this
  rw [hb cc X (by omega) (by omega), Nat.or_comm, this]
  omega
/-- The low part of a shifted limb. -/
theorem low_part32 (x s : Nat) (hs : s < 32) : (x * 2 ^ s) % BB % 2 ^ s = 0 := by
  obtain ⟨c, hc⟩ := BB_dvd s hs
  rw [hc, Nat.mul_comm x, Nat.mul_mod_mul_left, Nat.mul_mod_right]
theorem low_sum (x s cc : Nat) (hs : s < 32) (hc : cc < 2 ^ s) : (x * 2 ^ s) % BB + cc < BB := by
  obtain ⟨c, hcc⟩ := BB_dvd s hs
  have hp : 0 < 2 ^ s := Nat.two_pow_pos s
  have hc0 : 0 < c := by
    rcases Nat.eq_zero_or_pos c with h | h
    · rw [h] at hcc; unfold BB at hcc; omega
    · exact h
  rw [hcc, Nat.mul_comm x, Nat.mul_mod_mul_left]
  have h1 : x % c + 1 ≤ c := Nat.mod_lt _ hc0
  have h2 : 2 ^ s * (x % c + 1) ≤ 2 ^ s * c := Nat.mul_le_mul_left _ h1
  rw [Nat.mul_add] at h2
  omega
theorem high_lt (x s : Nat) (hx : x < BB) : x * 2 ^ s / BB < 2 ^ s := by
  rw [Nat.div_lt_iff_lt_mul BB_pos, Nat.mul_comm]
  exact Nat.mul_lt_mul_of_pos_left hx (Nat.two_pow_pos s)
theorem rshl_step {l a : List Nat} {i k n s x cc : Nat} (hl : l.length = k + n + 1) (hok : ok l) (hi : i < n) (hs : s < 32) (hv : val l = BB ^ k * (2 ^ s * val (a.take i))) (hcc : l[k + i]? = some cc) (hcb : cc < 2 ^ s)
    (hz : ∀ j, k + i < j → j < k + n + 1 → l[j]? = some 0) (hx : a[i]? = some x) (hxB : x < BB) :
    ((l.set (k + i) (cc + x * 2 ^ s % BB)).set (k + i + 1) (x * 2 ^ s / BB)).length = k + n + 1 ∧ ok ((l.set (k + i) (cc + x * 2 ^ s % BB)).set (k + i + 1) (x * 2 ^ s / BB)) ∧
    val ((l.set (k + i) (cc + x * 2 ^ s % BB)).set (k + i + 1) (x * 2 ^ s / BB)) = BB ^ k * (2 ^ s * val (a.take (i + 1))) ∧
    ((l.set (k + i) (cc + x * 2 ^ s % BB)).set (k + i + 1) (x * 2 ^ s / BB))[k + (i + 1)]? = some (x * 2 ^ s / BB) ∧
    (∀ j, k + (i + 1) < j → j < k + n + 1 → ((l.set (k + i) (cc + x * 2 ^ s % BB)).set (k + i + 1) (x * 2 ^ s / BB))[j]? = some 0) := by
  have h2 := low_sum x s cc hs hcb
  have h3 := high_lt x s hxB
  have h4 := two_pow_le31 s hs
  refine ⟨by simp [hl], ok_set (ok_set hok _ _ (by omega)) _ _ (by unfold BB at *; omega), ?_, ?_, fun j h1 h2 => ?_⟩
  · have e1 := val_set (cc + x * 2 ^ s % BB) hcc
    have e2 := val_set0 (l := l.set (k + i) (cc + x * 2 ^ s % BB)) (j := k + i + 1) (x * 2 ^ s / BB) (by rw [at_set_ne _ (by omega)]; exact hz _ (by omega) (by omega))
    rw [e2, val_take_succ hx]
    have e3 := Nat.div_add_mod (x * 2 ^ s) BB
    have e4 : BB ^ (k + i) * (BB * (x * 2 ^ s / BB)) + BB ^ (k + i) * (x * 2 ^ s % BB) = BB ^ (k + i) * (x * 2 ^ s) := by rw [← Nat.mul_add, e3]
    rw [Nat.pow_succ, Nat.mul_assoc]
    have e5 : BB ^ k * (2 ^ s * (val (a.take i) + BB ^ i * x)) = BB ^ k * (2 ^ s * val (a.take i)) + BB ^ (k + i) * (x * 2 ^ s) := by
      rw [Nat.mul_add, Nat.mul_add, Nat.pow_add]
      congr 1
      rw [Nat.mul_assoc, Nat.mul_left_comm (2 ^ s), Nat.mul_comm (2 ^ s) x]
    rw [e5, ← hv, ← e4]
    rw [Nat.mul_add] at e1
    omega
  · rw [show k + (i + 1) = k + i + 1 by omega, List.getElem?_set_self (by simp [hl]; omega)]
  · rw [at_set_ne _ (by omega), at_set_ne _ (by omega)]
    exact hz j (by omega) h2
theorem drop_at0 (l : List Nat) (i : Nat) : val (l.drop i) = at0 l i + BB * val (l.drop (i + 1)) := by
  rcases Nat.lt_or_ge i l.length with hi | hi
  · rw [at0_in (List.getElem?_eq_getElem hi)]
    exact val_drop (List.getElem?_eq_getElem hi)
  · rw [at0_out hi, List.drop_eq_nil_of_le hi, List.drop_eq_nil_of_le (by omega)]; rfl
theorem val_div_pow {a : List Nat} (h : ok a) (k : Nat) : val a / BB ^ k = val (a.drop k) := by
  rcases Nat.lt_or_ge a.length k with hk | hk
  · rw [List.drop_eq_nil_of_le (by omega), val_nil]
    apply Nat.div_eq_of_lt
    exact Nat.lt_of_lt_of_le (val_lt h) (Nat.pow_le_pow_right BB_pos (by omega))
  · have e := val_split a k hk
    have h1 := val_lt (ok_take h k)
    rw [List.length_take, Nat.min_eq_left hk] at h1
    rw [e, Nat.add_mul_div_left _ _ (Nat.pow_pos BB_pos), Nat.div_eq_of_lt h1, Nat.zero_add]
theorem rshr_step {o a : List Nat} {j k s : Nat} (hl : o.length = j) (hok : ok o) (hoa : ok a) (hs : s < 32) (hv : val o + BB ^ j * (val (a.drop (k + j)) / 2 ^ s) = val (a.drop k) / 2 ^ s) :
    (o ++ [(at0 a (k + j) + at0 a (k + j + 1) * BB) / 2 ^ s % BB]).length = j + 1 ∧ ok (o ++ [(at0 a (k + j) + at0 a (k + j + 1) * BB) / 2 ^ s % BB]) ∧
    val (o ++ [(at0 a (k + j) + at0 a (k + j + 1) * BB) / 2 ^ s % BB]) + BB ^ (j + 1) * (val (a.drop (k + (j + 1))) / 2 ^ s) = val (a.drop k) / 2 ^ s := by
  refine ⟨by simp [hl], ok_append.2 ⟨hok, ok_cons.2 ⟨Nat.mod_lt _ BB_pos, ok_nil⟩⟩, ?_⟩
  rw [val_snoc, hl, ← hv, drop_at0 a (k + j), show k + (j + 1) = k + j + 1 by omega, drop_at0 a (k + j + 1), shr_limb _ _ _ s hs (at0_lt hoa (k + j)), Nat.pow_succ, Nat.mul_add, Nat.mul_assoc]
  omega
end Go.Fl.Nm

namespace Go.Proofs.YtoogeihbhhcpaaaGreatDoor
open Go.RowKit Go.Fl Go.Fl.Nm

def RSubRel (w : World) (n : Nat) (a b : List Nat) (k : Nat) (ov cv iv : Value) (wr : World) : Prop :=
  ∃ (i cc : Nat) (o : List Nat), iv = .int .i64 i ∧ cv = .int .u64 cc ∧ cc ≤ 1 ∧ k = n - i ∧ i ≤ n ∧ Hid (o.length = i) ∧ Hid (ok o) ∧ Hid (wr.ownsRow w.heap.size tU 1 ov i (U o)) ∧
    Hid (val o + val (b.take i) = val (a.take i) + BB ^ i * cc) ∧ Hid (Below w.heap.size w wr)

def RShlRel (w : World) (g k n s : Nat) (a : List Nat) (q : Nat) (iv : Value) (wr : World) : Prop :=
  ∃ (i cc : Nat) (l : List Nat), iv = .int .i64 i ∧ i ≤ n ∧ q = n - i ∧ Hid (l.length = k + n + 1) ∧ Hid (ok l) ∧ Hid (Blk wr g tU (UA l)) ∧ Hid (val l = BB ^ k * (2 ^ s * val (a.take i))) ∧ Hid (l[k + i]? = some cc) ∧ cc < 2 ^ s ∧
    Hid (∀ j, k + i < j → j < k + n + 1 → l[j]? = some 0) ∧ Hid (Below w.heap.size w wr)

set_option maxHeartbeats 1600000 in
set_option maxRecDepth 100000 in
theorem rShl (A : Option Addr) (n0 c p : Nat) (a0 : List Nat) (w : World) (ha : Sl w A n0 c a0) (hn : n0 ≤ 100000) (hp : p ≤ 1000000) :
    Calls Tryz.prog 113 #[.slice A n0 c, .int .i64 p] w (RP (val a0 * 2 ^ p) w) := by
  have HA0 := Lib.hid ha
  have HLL := Lib.hid (Nat.le_trans (limbs_le_len ha.ok) (Nat.le_of_eq ha.len))
  clear ha
  have HP := Lib.hid (pow_split p)
  generalize hk : p / 32 = k at *
  generalize hs : p % 32 = s at *
  have hs32 : s < 32 := by omega
  have hkb : k ≤ 40000 := by omega
  have hd1 : (p : Int) / 32 = k := by omega
  have hd2 : (p : Int) % 32 = s := by omega
  clear hk hs
  have hs31 := two_pow_le31 s hs32
  have hs0 := Nat.two_pow_pos s
  go_enter Tryz.func113, Tryz.ntmps113
  go_wp2_with fail
  refine (rTrim A n0 c a0 w HA0.out (by omega)).mono ?_
  rintro e w1 ⟨X, n, cx, rfl, HX, HL1⟩
  have HA := Lib.hid HX.out.sl
  have hnn : n ≤ 100000 := by
    have h1 := HA.out.len
    have h2 := HLL.out
    omega
  have HVA := Lib.hid (val_limbs (val a0))
  generalize limbs (val a0) = a at *
  have hmk := make_u32 (k + n + 1) (k + n + 1) ((k : Int) + n + 1) ((k : Int) + n + 1) (by omega) (by omega) (by omega) (by omega)
  have HB0 := Lib.hid (Blk.new w1 tU (UA (zeros (k + n + 1))))
  have HL0 := Lib.hid (HL1.out.alloc HL1.out.size (.cells (UA (zeros (k + n + 1))) tU))
  have HA1 := Lib.hid (HA.out.alloc (.cells (UA (zeros (k + n + 1))) tU))
  go_wp2_with fail
  clear hmk
  have HL0' := Lib.hid ((Below.refl w1.heap.size w1).alloc (Nat.le_refl _) (.cells (UA (zeros (k + n + 1))) tU))
  go_loopg [6] n (RShlRel w1 w1.heap.size k n s a)
  case atStart =>
    exact ⟨0, 0, zeros (k + n + 1), rfl, by omega, rfl, Lib.hid (zeros_len _), Lib.hid (ok_zeros _), HB0, Lib.hid (by simp [val_nil, zeros, val_zeros]), Lib.hid (zeros_at _ _ (by omega)), hs0, Lib.hid (fun j _ h => zeros_at _ j h), HL0'⟩
  case round =>
    obtain ⟨i, cc, l, rfl, hi, rfl, HLEN, HOK, HBK, HV, HCC, hcb, HZ, HBL⟩ := hrel
    by_cases hin : i < n
    · have hd : decide (i < n) = true := by simpa using hin
      obtain ⟨b1, o1, x, hA, hb1, hx, hxB, hcell1⟩ := HA.out.at_ hin
      subst hA
      have hc1 : wr.cell? ⟨b1, o1 + i, none⟩ = some (.int .u32 x) := (HBL.out.cell (p := ⟨b1, _, none⟩) hb1).trans hcell1
      have HS := Lib.hid (rshl_step HLEN.out HOK.out hin hs32 HV.out HCC.out hcb HZ.out hx hxB)
      have h1 := low_sum x s cc hs32 hcb
      have h2 := low_part32 x s hs32
      have h3 := high_lt x s hxB
      have h4 := shl_lt x s 0 hxB hs32 hs0
      have h5 : BB * 2 ^ s ≤ BB * 2147483648 := Nat.mul_le_mul_left _ hs31
      clear hcell1 hx
      have hg1 : wr.cell? ⟨w1.heap.size, k + i, none⟩ = some (.int .u32 cc) := blkU_cell HBK.out HCC.out
      have hg2 : wr.frozen? ⟨w1.heap.size, k + i, none⟩ = false := HBK.out.frozen _
      have hI : (i : Int) + k = ((k + i : Nat) : Int) := by omega
      unfold BB at h1 h2 h4 h5 hxB
      have hcB : cc < 4294967296 := by omega
      have hXi : (x : Int) * 2 ^ s = ((x * 2 ^ s : Nat) : Int) := by simp
      have h6 : x * 2 ^ s / 4294967296 < 2 ^ s := h3
      have HXX := Lib.hid (show x * 2 ^ s % BB = x * 2 ^ s % 4294967296 ∧ x * 2 ^ s / BB = x * 2 ^ s / 4294967296 from ⟨rfl, rfl⟩)
      rw [HXX.out.1, HXX.out.2] at HS
      clear HXX h3
      generalize x * 2 ^ s = Y at *
      have hY : Y < 18446744073709551616 := by omega
      have hand := and_mask64 Y hY
      have hor := or_low32 s cc (Y % 4294967296) hs32 h2 (by omega) hcb (by omega)
      have hhi : (Y : Int) / 4294967296 = ((Y / 4294967296 : Nat) : Int) := by simp
      generalize hlo : Y % 4294967296 = lo at *
      generalize hhe : Y / 4294967296 = hh at *
      have hhb : hh < 4294967296 := by omega
      have hlb : lo < 4294967296 := by omega
      clear h1 h2 h4 h5 hlo hhe
      have HB2 := Lib.hid (blkU_set HBK.out (k + i) (cc + lo))
      rw [show ((cc + lo : Nat) : Int) = (cc : Int) + lo by omega] at HB2
      have hz1 : (l.set (k + i) (cc + lo))[k + i + 1]? = some 0 := by rw [at_set_ne _ (by omega)]; exact HZ.out _ (by omega) (by omega)
      have hg3 : (wr.setCell ⟨w1.heap.size, k + i, none⟩ (.int .u32 ((cc : Int) + lo))).cell? ⟨w1.heap.size, k + i + 1, none⟩ = some (.int .u32 ((0 : Nat) : Int)) := blkU_cell HB2.out hz1
      have hg4 : (wr.setCell ⟨w1.heap.size, k + i, none⟩ (.int .u32 ((cc : Int) + lo))).frozen? ⟨w1.heap.size, k + i + 1, none⟩ = false := HB2.out.frozen _
      clear hz1
      go_wp2_with fail
      go_roundg (n - (i + 1))
      case measure => omega
      case rel =>
        exact ⟨i + 1, hh, _, by go_num, by omega, rfl, Lib.hid HS.out.1, Lib.hid HS.out.2.1, Lib.hid (blkU_set HB2.out (k + i + 1) hh), Lib.hid HS.out.2.2.1, Lib.hid HS.out.2.2.2.1, h6, Lib.hid HS.out.2.2.2.2, Lib.hid ((HBL.out.setCell (Nat.le_refl _) _).setCell (Nat.le_refl _) _)⟩
    · obtain rfl : i = n := by omega
      have hd : decide (i < i) = false := by simp
      have HN := Lib.hid (Nw.of_blk (base := w1.heap.size) HBK.out HOK.out (Nat.le_refl _) HLEN.out (by unfold maxLen; omega))
      have HVV := Lib.hid (show val l = val a0 * 2 ^ p by
        have h1 := HV.out
        rw [take_all (by rw [HA.out.len]; omega), HVA.out] at h1
        rw [h1, HP.out, ← Nat.mul_assoc, Nat.mul_comm])
      go_wp2_with fail
      refine (rTrim _ (k + i + 1) _ l wr HN.out.sl (by omega)).mono ?_
      rw [HVV.out]
      rintro e w2 ⟨C, kk, ck, rfl, HC, HL2⟩
      go_wp2_with fail
      go_ret
      have hs1 := HL1.out.size
      have hs2 := HBL.out.size
      exact ⟨C, kk, ck, rfl, Lib.hid (HC.out.base (by omega)), Lib.hid ((HL1.out.trans (HBL.out.mono hs1)).trans (HL2.out.mono (by omega)))⟩

def RShrRel (w : World) (k n s : Nat) (a : List Nat) (q : Nat) (ov iv : Value) (wr : World) : Prop :=
  ∃ (j : Nat) (o : List Nat), iv = .int .i64 ((k : Int) + j) ∧ (k + j ≤ n ∨ j = 0) ∧ q = n - (k + j) ∧ Hid (o.length = j) ∧ Hid (ok o) ∧ Hid (wr.ownsRow w.heap.size tU 1 ov j (U o)) ∧
    Hid (val o + BB ^ j * (val (a.drop (k + j)) / 2 ^ s) = val (a.drop k) / 2 ^ s) ∧ Hid (Below w.heap.size w wr)

set_option maxHeartbeats 1600000 in
set_option maxRecDepth 100000 in
theorem rShr (A : Option Addr) (n c p : Nat) (a : List Nat) (w : World) (ha : Sl w A n c a) (hn : n ≤ 100000) (hp : p ≤ 1000000) :
    Calls Tryz.prog 114 #[.slice A n c, .int .i64 p] w (RP (val a / 2 ^ p) w) := by
  have HA := Lib.hid ha
  clear ha
  have HP := Lib.hid (pow_split p)
  generalize hk : p / 32 = k at *
  generalize hs : p % 32 = s at *
  have hs32 : s < 32 := by omega
  have hkb : k ≤ 40000 := by omega
  have hd1 : (p : Int) / 32 = k := by omega
  have hd2 : (p : Int) % 32 = s := by omega
  clear hk hs
  go_enter Tryz.func114, Tryz.ntmps114
  go_wp2_with fail
  go_loopg [5, 6] (n - k) (RShrRel w k n s a)
  case atStart => exact ⟨0, [], by go_num, .inr rfl, rfl, Lib.hid rfl, Lib.hid ok_nil, Lib.hid ⟨rfl, .inl ⟨rfl, rfl⟩⟩, Lib.hid (by simp [val_nil]), Lib.hid (Below.refl _ _)⟩
  case round =>
    obtain ⟨j, o, rfl, hj, rfl, HLEN, HOK, HOW, HV, HBL⟩ := hrel
    have hI : (k : Int) + j = ((k + j : Nat) : Int) := by omega
    rw [hI]
    by_cases hin : k + j < n
    · have hd : decide (k + j < n) = true := by simpa using hin
      have KA := Lib.hid (rAt A n c (k + j) a wr (HA.out.below HBL.out) (by omega))
      have KB := Lib.hid (rAt A n c (k + j + 1) a wr (HA.out.below HBL.out) (by omega))
      rw [show ((k + j + 1 : Nat) : Int) = ((k + j : Nat) : Int) + 1 by omega] at KB
      have hx := at0_lt HA.out.ok (k + j)
      have hy := at0_lt HA.out.ok (k + j + 1)
      have HS := Lib.hid (rshr_step HLEN.out HOK.out HA.out.ok hs32 HV.out)
      generalize at0 a (k + j) = x at *
      generalize at0 a (k + j + 1) = y at *
      have hXi : (x : Int) + y * 4294967296 = ((x + y * BB : Nat) : Int) := by unfold BB; omega
      have hXb : x + y * BB < 18446744073709551616 := by unfold BB; omega
      generalize x + y * BB = X at *
      have hsi : (X : Int) / 2 ^ s = ((X / 2 ^ s : Nat) : Int) := by simp
      have hZb : X / 2 ^ s < 18446744073709551616 := Nat.lt_of_le_of_lt (Nat.div_le_self _ _) hXb
      have hand := and_mask64 (X / 2 ^ s) hZb
      generalize X / 2 ^ s = Z at *
      obtain ⟨i0, ti, tz0, tz1, tz2⟩ := info_parts Tryz.infoU32
      have hbs := HBL.out.size
      generalize hM : Z % 4294967296 = M at *
      have HM := Lib.hid (show Z % BB = M from hM)
      rw [HM.out] at HS
      have hMb : M < 4294967296 := by omega
      clear hM hI
      obtain ⟨i, hi⟩ : ∃ i, i = k + j := ⟨_, rfl⟩
      rw [← hi] at hd hin KA KB ⊢
      have HII := Lib.hid hi
      have hib : i ≤ 100000 := by omega
      have hjb : j ≤ 100000 := by omega
      clear hi
      go_wp2_with fail
      refine KA.out.mono ?_
      rintro e w1 ⟨rfl, rfl⟩
      go_wp2_with fail
      refine KB.out.mono ?_
      rintro e w1 ⟨rfl, rfl⟩
      go_wp2_with (at_builtin; refine wpList_append_lies _ rfl _ _ _ rfl w.heap.size 125 i0 _ 1 4 Tryz.underlying38 ti tz0 tz1 tz2 rfl (by omega) u5 j (U o) rfl (by exact HOW.out.alloc _) ⟨wr.heap.size, 0, none⟩ 1 1 [.int .u32 (M : Int)] rfl rfl (by exact World.news_of_block (cs := #[.int .u32 (M : Int)]) (t := 125) (fr := (0, 0)) (heap_alloc_new wr _)) (by simp [Value.oneCell']) (by omega) (by unfold maxLen; omega) (by omega) (by simp; omega) (wr.heap.size + 1) (by simp) ?_)
      intro g cap w3 hown hgrow hat hlt2
      have HO3 := Lib.hid (show w3.ownsRow w.heap.size tU 1 (.slice (some ⟨g, 0, none⟩) (j + 1) cap) (j + 1) (U (o ++ [M])) by rw [U_append]; exact hown)
      have HL3 := Lib.hid (show Below w.heap.size w w3 from (HBL.out.alloc (by omega) _).grown hgrow (by simp; omega) (fun k hk => (HOW.out.lt k hk).1))
      clear hown hgrow hat hlt2 ti tz0 tz1 tz2
      go_wp2_with fail
      go_roundg (n - (k + (j + 1)))
      case measure => have := HII.out; omega
      case rel => exact ⟨j + 1, o ++ [M], by have := HII.out; congr 1; omega, .inl (by have := HII.out; omega), rfl, Lib.hid HS.out.1, Lib.hid HS.out.2.1, HO3, Lib.hid HS.out.2.2, HL3⟩
    · have hd : decide (k + j < n) = false := by simpa using hin
      obtain ⟨A', c', hu, hnw⟩ := Nw.of_own HOW.out HOK.out
      subst hu
      have HN := Lib.hid hnw
      have HVV := Lib.hid (show val o = val a / 2 ^ p by
        have h1 := HV.out
        rw [List.drop_eq_nil_of_le (show a.length ≤ k + j by rw [HA.out.len]; omega), val_nil, Nat.zero_div, Nat.mul_zero, Nat.add_zero] at h1
        rw [h1, HP.out, ← Nat.div_div_eq_div_mul, val_div_pow HA.out.ok])
      clear hnw
      obtain ⟨i, hi⟩ : ∃ i, i = k + j := ⟨_, rfl⟩
      have hjb : j ≤ 1000000 := by omega
      have hib : i ≤ 2000000 := by omega
      rw [← hi] at hd ⊢
      clear hi hin hI
      go_wp2_with fail
      refine (rTrim A' j c' o wr HN.out.sl (by omega)).mono ?_
      rw [HVV.out]
      rintro e w2 ⟨C, kk, ck, rfl, HC, HL2⟩
      go_wp2_with fail
      go_ret
      exact ⟨C, kk, ck, rfl, Lib.hid (HC.out.base HBL.out.size), Lib.hid (HBL.out.trans (HL2.out.mono HBL.out.size))⟩
end Go.Proofs.YtoogeihbhhcpaaaGreatDoor
namespace Go.Proofs.YtoogeihbhhcpaaaGreatDoor
open Go.RowKit Go.Fl Go.Fl.Nm

end Go.Proofs.YtoogeihbhhcpaaaGreatDoor
namespace Go.Fl.Nm
open Go.RowKit Go.Fl
theorem bit_at {a : List Nat} {i k s x : Nat} (h : ok a) (hi : i = 32 * k + s) (hs : s < 32) (hx : a[k]? = some x) : val a / 2 ^ i % 2 = x / 2 ^ s % 2 := by
  have e : 2 ^ i = BB ^ k * 2 ^ s := by rw [hi, Nat.pow_add, Nat.pow_mul]; rfl
  rw [e, ← Nat.div_div_eq_div_mul, val_div_pow h, val_drop hx]
  have hc : BB = 2 ^ s * (2 * 2 ^ (31 - s)) := by
    rw [← Nat.pow_succ', ← Nat.pow_add, BB_pow]; congr 1; omega
  rw [hc, Nat.mul_assoc, Nat.add_mul_div_left _ _ (Nat.two_pow_pos s), Nat.mul_assoc, Nat.add_mul_mod_self_left]
end Go.Fl.Nm

namespace Go.Proofs.YtoogeihbhhcpaaaGreatDoor
open Go.RowKit Go.Fl Go.Fl.Nm

theorem and_one32 (x : Nat) (h : x < 4294967296) : bits .and .u32 (x : Int) 1 = ((x % 2 : Nat) : Int) := by
  have := (bits_nat .u32 32 (by decide) (fun n h0 h1 => by simp [IntKind.wrap, IntKind.bits, IntKind.signed]; omega) x 1 (by omega) (by omega)).1
  rw [Nat.and_one_is_mod] at this
  exact this
end Go.Proofs.YtoogeihbhhcpaaaGreatDoor
