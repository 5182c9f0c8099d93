/-
  The walks of the reference: Trim, at, Cmp, Bits.
-/
import Derived.Test.YtffdkakogeofmaaGreatDoorPkE
import Derived.Laws.AppendOwnNone
set_option linter.unusedVariables false
namespace Go.Fl.Nm
open Go.RowKit Go.Fl
/-- A limb; 0 behind the end. -/
def at0 (l : List Nat) (i : Nat) : Nat := l.getD i 0
theorem at0_in {l : List Nat} {i x : Nat} (h : l[i]? = some x) : at0 l i = x := by simp [at0, h]
theorem at0_out {l : List Nat} {i : Nat} (h : l.length ≤ i) : at0 l i = 0 := by simp [at0, List.getElem?_eq_none h]
theorem at0_lt {l : List Nat} (h : ok l) (i : Nat) : at0 l i < 4294967296 := by
  rcases Nat.lt_or_ge i l.length with hi | hi
  · rw [at0_in (List.getElem?_eq_getElem hi)]
    exact ok_at h (List.getElem?_eq_getElem hi)
  · rw [at0_out hi]; omega
theorem take_at0 (l : List Nat) (i : Nat) : val (l.take (i + 1)) = val (l.take i) + BB ^ i * at0 l i := by
  rcases Nat.lt_or_ge i l.length with hi | hi
  · rw [at0_in (List.getElem?_eq_getElem hi)]
    exact val_take_succ (List.getElem?_eq_getElem hi)
  · rw [at0_out hi, List.take_of_length_le hi, List.take_of_length_le (by omega)]; simp
def padL (N : Nat) (l : List Nat) : List Nat := l ++ List.replicate (N - l.length) 0
theorem pad_val (N : Nat) (l : List Nat) : val (padL N l) = val l := by unfold padL; rw [val_append, val_zeros]; simp
theorem pad_ok {N : Nat} {l : List Nat} (h : ok l) : ok (padL N l) := ok_append.2 ⟨h, ok_zeros _⟩
theorem pad_at {N : Nat} {l : List Nat} {i : Nat} (hi : i < N) : (padL N l)[i]? = some (at0 l i) := by
  unfold padL
  rcases Nat.lt_or_ge i l.length with h | h
  · rw [List.getElem?_append_left h, at0_in (List.getElem?_eq_getElem h)]
    exact List.getElem?_eq_getElem h
  · rw [List.getElem?_append_right h, at0_out h, List.getElem?_replicate, if_pos (by omega)]
theorem pad_len {N : Nat} {l : List Nat} (h : l.length ≤ N) : (padL N l).length = N := by simp [padL]; omega
theorem pad_drop {N k : Nat} {a b : List Nat} (ha : a.length ≤ N) (hb : b.length ≤ N) (h : ∀ j, k ≤ j → at0 a j = at0 b j) : (padL N a).drop k = (padL N b).drop k := by
  apply List.ext_getElem?
  intro i
  rw [List.getElem?_drop, List.getElem?_drop]
  rcases Nat.lt_or_ge (k + i) N with hi | hi
  · rw [pad_at hi, pad_at hi, h _ (by omega)]
  · rw [List.getElem?_eq_none (by rw [pad_len ha]; exact hi), List.getElem?_eq_none (by rw [pad_len hb]; exact hi)]
theorem at0_less {a b : List Nat} {N i : Nat} (hoa : ok a) (ha : a.length ≤ N) (hb : b.length ≤ N) (hi : i < N) (h : at0 a i < at0 b i) (hd : ∀ j, i + 1 ≤ j → at0 a j = at0 b j) : val a < val b := by
  rw [← pad_val N a, ← pad_val N b]
  exact val_lt_of_top (pad_ok hoa) (pad_at hi) (pad_at hi) h (pad_drop ha hb hd)
theorem at0_eq {a b : List Nat} {N : Nat} (ha : a.length ≤ N) (hb : b.length ≤ N) (h : ∀ j, 0 ≤ j → at0 a j = at0 b j) : val a = val b := by
  have := pad_drop ha hb h
  rw [List.drop_zero, List.drop_zero] at this
  rw [← pad_val N a, this, pad_val]
theorem Nw.empty (w : World) (t : TypeId) (base : Nat) (ad : Addr) : Nw w t base (some ad) 0 0 [] :=
  ⟨⟨rfl, ok_nil, Nat.le_refl _, by unfold maxLen; omega, fun h => (by cases h), rfl, fun h => absurd h (by omega)⟩, fun h => absurd h (by omega)⟩
theorem blen_half {x : Nat} (h : 0 < x) : blen x = blen (x / 2) + 1 := by
  by_cases h1 : x = 1
  · subst h1; rfl
  · have h2 : x / 2 ≠ 0 := by omega
    have e : x = 2 ^ 1 * (x / 2) + x % 2 := by omega
    have := blen_mul (x := x / 2) (k := 1) (r := x % 2) h2 (by omega)
    rw [← e] at this
    omega
end Go.Fl.Nm

namespace Go.Proofs.YtffdkakogeofmaaGreatDoor
open Go.RowKit Go.Fl Go.Fl.Nm

/-- What the reference returns: the limbs of a number, in memory of its own. -/
def RP (v : Nat) (w : World) (e : Ending) (w' : World) : Prop :=
  ∃ (A : Option Addr) (n c : Nat), e = .returned (.slice A n c) ∧ Hid (Nw w' tU w.heap.size A n c (limbs v)) ∧ Hid (Below w.heap.size w w')

set_option maxHeartbeats 800000 in
set_option maxRecDepth 100000 in
theorem rTrim (A : Option Addr) (n c : Nat) (l : List Nat) (w : World) (h : Sl w A n c l) (hn : n ≤ 1000000) :
    Calls Tryz.prog 108 #[.slice A n c] w (RP (val l) w) := by
  have hm := h.max
  have hcap := h.cap
  have hcm := h.capMax
  unfold maxLen at hm hcm
  have H := Lib.hid h
  have hlen : l.length = n := h.len
  have HL := Lib.hid hlen
  have HTL := Lib.hid (trim_limbs h.ok)
  have HLO := Lib.hid (limbs_ok (val l))
  have HOWN := Lib.hid (show (w.alloc (.cells #[] tU)).ownsRow w.heap.size tU 1 (.slice (some ⟨w.heap.size, 0, none⟩) 0 0) 0 [] from ⟨rfl, .inr ⟨w.heap.size, 0, #[], rfl, Nat.le_refl _, Blk.new _ _ _, Nat.le_refl _, by unfold maxLen; omega, rfl, rfl⟩⟩)
  have HL0 := Lib.hid ((Below.refl w.heap.size w).alloc (Nat.le_refl _) (.cells #[] tU))
  obtain ⟨i0, ti, tz0, tz1, tz2⟩ := info_parts Tryz.infoU32
  cases A with
  | none =>
    have := h.nil rfl
    subst this
    obtain rfl : n = 0 := by omega
    have : l = [] := List.eq_nil_of_length_eq_zero hlen
    subst this
    clear h hlen
    go_enter Tryz.func108, Tryz.ntmps108
    go_wp2
    go_loop [3] (fun i => i = .int .i64 0) (fun _ => 0)
    case atStart => rfl
    case round =>
      subst hrel
      go_wp2_with (at_builtin; refine wpList_append_own_none rfl _ _ _ rfl w.heap.size 49 i0 1 Tryz.underlying23 ti (.slice (some ⟨w.heap.size, 0, none⟩) 0 0) 0 [] rfl (by exact HOWN.out) rfl ?_)
      go_ret
      refine ⟨_, 0, 0, rfl, Lib.hid ?_, HL0⟩
      rw [val_nil, limbs_zero]
      exact Nw.empty _ _ _ _
  | some ad =>
    clear h hlen
    go_enter Tryz.func108, Tryz.ntmps108
    go_wp2_with fail
    go_loop [3] (fun i => ∃ k : Nat, i = .int .i64 k ∧ k ≤ n ∧ Hid (∀ x ∈ l.drop k, x = 0)) (fun i => (intOf i).toNat)
    case atStart => exact ⟨n, rfl, by omega, Lib.hid (by rw [List.drop_eq_nil_of_le (by rw [HL.out]; omega)]; simp)⟩
    case round =>
      obtain ⟨k, rfl, hk, HZ⟩ := hrel
      by_cases hk0 : k = 0
      · subst hk0
        have HT := Lib.hid (tl_unique (by omega) HZ.out (fun x h => absurd h (by omega)))
        have HRD := Lib.hid ((H.out.cut (m := 0) (c' := c) (by omega) (by omega) (by unfold maxLen; omega) (fun h => by cases h)).rd.alloc (.cells #[] tU))
        have hd : decide ((0 : Int) < 0) = false := rfl
        go_wp2_with (at_builtin; refine wpList_append_rd _ rfl _ _ _ rfl w.heap.size 49 i0 _ 1 4 Tryz.underlying23 ti tz0 tz1 tz2 rfl (by omega) (.slice (some ⟨w.heap.size, 0, none⟩) 0 0) 0 [] rfl (by exact HOWN.out) (some ad) (0) c (by simp) (U (l.take (0))) rfl (by exact HRD.out) (U_one _) (by unfold maxLen; omega) (by omega) (by simp) ?_)
        intro v' w2 hown2 hgrow
        have HO2 := Lib.hid (show w2.ownsRow w.heap.size tU 1 v' (0) (U (limbs (val l))) by
          rw [← HTL.out, HT.out]
          simpa using hown2)
        have HL2 := Lib.hid (HL0.out.trans (below_of_grown hgrow (by
          intro g hg
          have : w.heap.size = g := by simpa [Value.ownBlock] using hg
          omega) (by simp)))
        clear hown2 hgrow ti tz0 tz1 tz2
        go_wp2_with fail
        go_ret
        obtain ⟨A', c', rfl, hnw⟩ := Nw.of_own HO2.out HLO.out
        exact ⟨A', _, c', rfl, Lib.hid hnw, HL2⟩
      · obtain ⟨j, rfl⟩ : ∃ j, k = j + 1 := ⟨k - 1, by omega⟩
        obtain ⟨b, off, x, hA, hb, hx, hxB, hcell⟩ := H.out.at_ (i := j) (by omega)
        injection hA with hA
        subst hA
        have HX := Lib.hid hx
        clear hx hk0
        unfold BB at hxB
        by_cases hx0 : x = 0
        · subst hx0
          have HZ' := Lib.hid (show ∀ x ∈ l.drop j, x = 0 by
            rw [drop_at HX.out]
            intro y hy
            rcases List.mem_cons.1 hy with rfl | hy
            · rfl
            · exact HZ.out y hy)
          clear ti tz0 tz1 tz2
          go_wp2_with fail
          go_round
          case rel => exact ⟨j, by go_num, by omega, HZ'⟩
          case measure => simp [intOf]
        · have HT := Lib.hid (tl_unique (by rw [HL.out]; exact hk) HZ.out (fun y _ hy => by
            rw [show j + 1 - 1 = j by omega, HX.out] at hy
            injection hy with hy
            rw [← hy]; exact hx0))
          have hxd : ((x : Int) == 0) = false := by rw [beq_eq_false_iff_ne]; omega
          have HRD := Lib.hid ((H.out.cut (m := j + 1) (c' := c) hk (by omega) (by unfold maxLen; omega) (fun h => by cases h)).rd.alloc (.cells #[] tU))
          clear hx0
          go_wp2_with (at_builtin; refine wpList_append_rd _ rfl _ _ _ rfl w.heap.size 49 i0 _ 1 4 Tryz.underlying23 ti tz0 tz1 tz2 rfl (by omega) (.slice (some ⟨w.heap.size, 0, none⟩) 0 0) 0 [] rfl (by exact HOWN.out) (some ⟨b, off, none⟩) (j + 1) c (by simp) (U (l.take (j + 1))) rfl (by exact HRD.out) (U_one _) (by unfold maxLen; omega) (by omega) (by simp) ?_)
          intro v' w2 hown2 hgrow
          have HO2 := Lib.hid (show w2.ownsRow w.heap.size tU 1 v' (j + 1) (U (limbs (val l))) by
            rw [← HTL.out, HT.out]
            simpa using hown2)
          have HL2 := Lib.hid (HL0.out.trans (below_of_grown hgrow (by
            intro g hg
            have : w.heap.size = g := by simpa [Value.ownBlock] using hg
            omega) (by simp)))
          clear hown2 hgrow ti tz0 tz1 tz2
          go_wp2_with fail
          go_ret
          obtain ⟨A', c', rfl, hnw⟩ := Nw.of_own HO2.out HLO.out
          exact ⟨A', _, c', rfl, Lib.hid hnw, HL2⟩

set_option maxHeartbeats 400000 in
theorem rAt (A : Option Addr) (n c i : Nat) (l : List Nat) (w : World) (h : Sl w A n c l) (hi : i ≤ 10000000) :
    Calls Tryz.prog 84 #[.slice A n c, .int .i64 i] w fun e w' => e = .returned (.int .u64 (at0 l i : Nat)) ∧ w = w' := by
  have hnm := h.max
  unfold maxLen at hnm
  by_cases hin : i < n
  · obtain ⟨b, off, x, hA, hb, hx, hxB, hcell⟩ := h.at_ hin
    subst hA
    rw [at0_in hx]
    unfold BB at hxB
    have hd : decide ((i : Int) < n) = true := by simp; omega
    clear h hx
    go_enter Tryz.func84, Tryz.ntmps84
    go_wp2_with fail
    go_ret
    exact ⟨rfl, rfl⟩
  · rw [at0_out (by rw [h.len]; omega)]
    have hd : decide ((i : Int) < n) = false := by simp; omega
    clear h
    go_enter Tryz.func84, Tryz.ntmps84
    go_wp2_with fail
    go_ret
    exact ⟨rfl, rfl⟩

set_option maxHeartbeats 800000 in
theorem rCmp (A B : Option Addr) (n c m d : Nat) (a b : List Nat) (w : World) (ha : Sl w A n c a) (hb : Sl w B m d b) (hn : n ≤ 1000000) (hm : m ≤ 1000000) :
    Calls Tryz.prog 46 #[.slice A n c, .slice B m d] w fun e w' => e = .returned (.int .i64 (cmpN (val a) (val b))) ∧ w = w' := by
  have HA := Lib.hid ha
  have HB := Lib.hid hb
  clear ha hb
  obtain ⟨N, hN⟩ : ∃ N, N = max n m := ⟨_, rfl⟩
  have hmx : max (n : Int) m = N := by omega
  have HNA := Lib.hid (show a.length ≤ N by rw [HA.out.len]; omega)
  have HNB := Lib.hid (show b.length ≤ N by rw [HB.out.len]; omega)
  have hNb : N ≤ 1000000 := by omega
  clear hN
  go_enter Tryz.func46, Tryz.ntmps46
  go_wp2_with fail
  go_loop [5] (fun i => ∃ k : Nat, i = .int .i64 ((k : Int) - 1) ∧ k ≤ N ∧ Hid (∀ j, k ≤ j → at0 a j = at0 b j)) (fun i => (intOf i + 1).toNat)
  case atStart =>
    refine ⟨N, rfl, by omega, Lib.hid (fun j hj => ?_)⟩
    have h1 := HNA.out
    have h2 := HNB.out
    rw [at0_out (by omega), at0_out (by omega)]
  case round =>
    obtain ⟨k, rfl, hk, HE⟩ := hrel
    cases k with
    | zero =>
      rw [show ((0 : Nat) : Int) - 1 = -1 by omega]
      have HV := Lib.hid (cmpN_eq (at0_eq HNA.out HNB.out HE.out))
      go_wp2_with fail
      go_ret
      exact ⟨by rw [HV.out]; rfl, rfl⟩
    | succ i =>
      rw [show ((i + 1 : Nat) : Int) - 1 = i by omega]
      have hx := at0_lt HA.out.ok i
      have hy := at0_lt HB.out.ok i
      obtain ⟨x, hxx⟩ : ∃ x, x = at0 a i := ⟨_, rfl⟩
      obtain ⟨y, hyy⟩ : ∃ y, y = at0 b i := ⟨_, rfl⟩
      have KA := Lib.hid (rAt A n c i a w HA.out (by omega))
      have KB := Lib.hid (rAt B m d i b w HB.out (by omega))
      rw [← hxx] at hx KA
      rw [← hyy] at hy KB
      have HX := Lib.hid hxx
      have HY := Lib.hid hyy
      clear hxx hyy
      by_cases h1 : x < y
      · have hd : decide (x < y) = true := by simpa using h1
        have HV := Lib.hid (cmpN_lt (at0_less HA.out.ok HNA.out HNB.out (show i < N by omega) (by rw [← HX.out, ← HY.out]; exact h1) HE.out))
        clear h1
        go_wp2_with fail
        refine KA.out.mono ?_
        rintro e w1 ⟨rfl, rfl⟩
        go_wp2_with fail
        refine KB.out.mono ?_
        rintro e w1 ⟨rfl, rfl⟩
        go_wp2_with fail
        go_ret
        exact ⟨by rw [HV.out]; rfl, rfl⟩
      · have hd : decide (x < y) = false := by simpa using h1
        by_cases h2 : y < x
        · have hd2 : decide (y < x) = true := by simpa using h2
          have HV := Lib.hid (cmpN_gt (at0_less HB.out.ok HNB.out HNA.out (show i < N by omega) (by rw [← HX.out, ← HY.out]; exact h2) (fun j hj => (HE.out j hj).symm)))
          clear h1 h2
          go_wp2_with fail
          refine KA.out.mono ?_
          rintro e w1 ⟨rfl, rfl⟩
          go_wp2_with fail
          refine KB.out.mono ?_
          rintro e w1 ⟨rfl, rfl⟩
          go_wp2_with fail
          refine KA.out.mono ?_
          rintro e w1 ⟨rfl, rfl⟩
          go_wp2_with fail
          refine KB.out.mono ?_
          rintro e w1 ⟨rfl, rfl⟩
          go_wp2_with fail
          go_ret
          exact ⟨by rw [HV.out]; rfl, rfl⟩
        · have hd2 : decide (y < x) = false := by simpa using h2
          have HE2 := Lib.hid (show ∀ j, i ≤ j → at0 a j = at0 b j from fun j hj => by
            rcases Nat.lt_or_ge i j with h | h
            · exact HE.out j (by omega)
            · obtain rfl : j = i := by omega
              rw [← HX.out, ← HY.out]; omega)
          clear h1 h2
          go_wp2_with fail
          refine KA.out.mono ?_
          rintro e w1 ⟨rfl, rfl⟩
          go_wp2_with fail
          refine KB.out.mono ?_
          rintro e w1 ⟨rfl, rfl⟩
          go_wp2_with fail
          refine KA.out.mono ?_
          rintro e w1 ⟨rfl, rfl⟩
          go_wp2_with fail
          refine KB.out.mono ?_
          rintro e w1 ⟨rfl, rfl⟩
          go_wp2_with fail
          go_round
          case rel => exact ⟨i, rfl, by omega, HE2⟩
          case measure => simp [intOf]

set_option maxHeartbeats 800000 in
theorem rBits (A : Option Addr) (n c : Nat) (a : List Nat) (w : World) (ha : Sl w A n c a) (hn : n ≤ 1000000) :
    Calls Tryz.prog 73 #[.slice A n c] w fun e w' => e = .returned (.int .i64 (blen (val a) : Nat)) ∧ w = w' := by
  have HA := Lib.hid ha
  have HLN := Lib.hid ha.len
  clear ha
  go_enter Tryz.func73, Tryz.ntmps73
  go_wp2_with fail
  go_loop [3] (fun i => ∃ k : Nat, i = .int .i64 ((k : Int) - 1) ∧ k ≤ n ∧ Hid (∀ x ∈ a.drop k, x = 0)) (fun i => (intOf i + 1).toNat)
  case atStart => exact ⟨n, rfl, by omega, Lib.hid (by rw [List.drop_eq_nil_of_le (by rw [HLN.out]; omega)]; simp)⟩
  case round =>
    obtain ⟨k, rfl, hk, HZ⟩ := hrel
    cases k with
    | zero =>
      rw [show ((0 : Nat) : Int) - 1 = -1 by omega]
      have HV := Lib.hid (show blen (val a) = 0 by
        rw [val_zero_of (by have := HZ.out; rwa [List.drop_zero] at this)]; rfl)
      go_wp2_with fail
      go_ret
      exact ⟨by rw [HV.out]; rfl, rfl⟩
    | succ i =>
      rw [show ((i + 1 : Nat) : Int) - 1 = i by omega]
      obtain ⟨b, off, x, hA, hb, hx, hxB, hcell⟩ := HA.out.at_ (i := i) (by omega)
      subst hA
      have HX := Lib.hid hx
      clear hx
      unfold BB at hxB
      by_cases hx0 : x = 0
      · subst hx0
        have HZ' := Lib.hid (show ∀ x ∈ a.drop i, x = 0 by
          rw [drop_at HX.out]
          intro y hy
          rcases List.mem_cons.1 hy with rfl | hy
          · rfl
          · exact HZ.out y hy)
        go_wp2_with fail
        go_round
        case rel => exact ⟨i, rfl, by omega, HZ'⟩
        case measure => simp [intOf]
      · have HT := Lib.hid (tl_unique (n := i + 1) (by rw [HLN.out]; exact hk) HZ.out (fun y _ hy => by
          rw [show i + 1 - 1 = i by omega, HX.out] at hy
          injection hy with hy
          rw [← hy]; exact hx0))
        have HBV := Lib.hid (blen_val (x := x) HA.out.ok (by rw [HT.out]; omega) (by rw [HT.out]; exact HX.out))
        rw [HT.out, show i + 1 - 1 = i by omega] at HBV
        have hxd : ((x : Int) != 0) = true := by rw [bne_iff_ne]; omega
        have hb32 : blen x ≤ 32 := blen_le (by omega)
        clear hx0
        go_wp2_with fail
        go_loop [4, 5] (fun nv xv => ∃ q y : Nat, nv = .int .i64 q ∧ xv = .int .u32 y ∧ y < 4294967296 ∧ q ≤ 100000000 ∧ Hid (q + blen y = 32 * i + blen x)) (fun _ xv => (intOf xv).toNat)
        case atStart => exact ⟨32 * i, x, by go_num, rfl, hxB, by omega, Lib.hid rfl⟩
        case round =>
          obtain ⟨q, y, rfl, rfl, hy, hq, HQ⟩ := hrel
          by_cases hy0 : y = 0
          · subst hy0
            have HF := Lib.hid (show blen (val a) = q by rw [HBV.out, ← HQ.out]; rfl)
            go_wp2_with fail
            go_ret
            exact ⟨by rw [HF.out]; rfl, rfl⟩
          · have HQ2 := Lib.hid (show (q + 1) + blen (y / 2) = 32 * i + blen x by rw [← HQ.out, blen_half (show 0 < y by omega)]; omega)
            have hyd : decide ((0 : Int) < y) = true := by simp; omega
            have hqb : q + 1 ≤ 100000000 := by have := HQ2.out; omega
            go_wp2_with fail
            go_round
            case rel => exact ⟨q + 1, y / 2, by go_num, by go_num, by omega, hqb, HQ2⟩
            case measure => simp [intOf]; omega
end Go.Proofs.YtffdkakogeofmaaGreatDoor
