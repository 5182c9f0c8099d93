/-
  The walks of the reference: Decimal, Text.
-/
import Derived.Test.YtkpicaangfibcaaDoorNumPA
import Derived.Test.YtkpicaangfibcaaDoorNumW
set_option linter.unusedVariables false
namespace Go.Fl.Nm
open Go.Lib Go.RowKit Go.Fl
theorem num_step {s : ByteArray} {i : Nat} {q : UInt8} (h : s.data.toList[i]? = some q) (h1 : (s.data.toList.take i).all isDig = true) (h2 : isDig q = true) : (s.data.toList.take (i + 1)).all isDig = true := by
  rw [take_succ_at h, List.all_append, h1]; simp [h2]
theorem decE_ten (v : Nat) (h : 0 < v) : decE v = decE (v / 10) ++ [UInt8.ofNat (48 + v % 10)] := by
  unfold decE
  rw [if_neg (by omega)]
  by_cases h10 : v < 10
  · rw [decDigits_one h10, if_pos (by omega), Nat.mod_eq_of_lt h10]; rfl
  · rw [dec_big h10, if_neg (by omega)]
end Go.Fl.Nm

namespace Go.Proofs.YtkpicaangfibcaaDoor
open Go.RowKit Go.Fl Go.Fl.Nm

set_option maxHeartbeats 800000 in
theorem rDecimal (s : ByteArray) (w : World) (hs : s.size ≤ maxLen) :
    Calls Tryd.prog 47 #[.string s] w fun e w' => e = .returned (.bool (isNum s.data.toList)) ∧ w = w' := by
  unfold maxLen at hs
  have hlen : s.data.toList.length = s.size := rfl
  go_enter Tryd.func47, Tryd.ntmps47
  go_wp2_with fail
  go_loop [3] (fun iv => ∃ i : Nat, iv = .int .i64 i ∧ i ≤ s.size ∧ Hid ((s.data.toList.take i).all isDig = true)) (fun iv => s.size - (intOf iv).toNat)
  case atStart => exact ⟨0, rfl, by omega, Lib.hid rfl⟩
  case round =>
    obtain ⟨i, rfl, hi, HD⟩ := hrel
    by_cases hin : i < s.size
    · have hdi : decide (i < s.size) = true := by simpa using hin
      obtain ⟨q, hq⟩ : ∃ q, s.data.toList[i]? = some q := ⟨_, List.getElem?_eq_getElem hin⟩
      have hsi : s[i] = q := by
        have h1 := List.getElem?_eq_getElem (l := s.data.toList) hin
        rw [hq] at h1
        injection h1 with h1
        exact h1.symm
      have HQ := Lib.hid hq
      clear hq
      by_cases h1 : q.toNat < 48
      · have hd1 : decide ((q.toNat : Int) < 48) = true := by simp; omega
        have HF := Lib.hid (show isNum s.data.toList = false by
          have h2 : s.data.toList.all isDig = false := by
            rw [List.all_eq_false]
            exact ⟨q, List.mem_of_getElem? HQ.out, fun hh => by
              unfold isDig at hh
              rw [Bool.and_eq_true] at hh
              have e1 := of_decide_eq_true hh.1
              have e2 := of_decide_eq_true hh.2
              omega⟩
          unfold isNum; rw [h2]; rfl)
        go_wp2_with fail
        go_ret
        exact ⟨by rw [HF.out]; rfl, rfl⟩
      · have hd1 : decide ((q.toNat : Int) < 48) = false := by simp; omega
        by_cases h2 : 57 < q.toNat
        · have hd2 : decide ((57 : Int) < q.toNat) = true := by simp; omega
          have HF := Lib.hid (show isNum s.data.toList = false by
            have h2 : s.data.toList.all isDig = false := by
              rw [List.all_eq_false]
              exact ⟨q, List.mem_of_getElem? HQ.out, fun hh => by
              unfold isDig at hh
              rw [Bool.and_eq_true] at hh
              have e1 := of_decide_eq_true hh.1
              have e2 := of_decide_eq_true hh.2
              omega⟩
            unfold isNum; rw [h2]; rfl)
          go_wp2_with fail
          go_ret
          exact ⟨by rw [HF.out]; rfl, rfl⟩
        · have hd2 : decide ((57 : Int) < q.toNat) = false := by simp; omega
          have HN := Lib.hid (num_step HQ.out HD.out (by unfold isDig; rw [Bool.and_eq_true]; exact ⟨decide_eq_true (by omega), decide_eq_true (by omega)⟩))
          go_wp2_with fail
          go_round
          case rel => exact ⟨i + 1, by go_num, by omega, HN⟩
          case measure => simp [intOf]; omega
    · obtain rfl : i = s.size := by omega
      have hdi : decide (s.size < s.size) = false := by simp
      have HALL := Lib.hid (show s.data.toList.all isDig = true by
        have := HD.out
        rwa [List.take_of_length_le (show s.data.toList.length ≤ s.size from Nat.le_refl _)] at this)
      by_cases h0 : s.size = 0
      · have hd0 : decide ((0 : Int) < s.size) = false := by rw [h0]; rfl
        have HF := Lib.hid (show isNum s.data.toList = false by unfold isNum; rw [hlen, h0]; simp)
        go_wp2_with fail
        go_ret
        exact ⟨by rw [HF.out]; rfl, rfl⟩
      · have hd0 : decide ((0 : Int) < s.size) = true := decide_eq_true (by omega)
        have hp : 0 < s.size := by omega
        have HH := Lib.hid (head_dig s hp)
        by_cases hz : s[0].toNat = 48
        · have hz1 : ((s[0].toNat : Int) != 48) = false := by rw [bne_eq_false_iff_eq]; omega
          by_cases h1 : s.size = 1
          · have hz2 : ((s.size : Int) == 1) = true := by rw [beq_iff_eq]; omega
            have HF := Lib.hid (show isNum s.data.toList = true by unfold isNum; rw [HALL.out, hlen, h1]; simp)
            clear h1 h0
            go_wp2_with fail
            go_ret
            exact ⟨by rw [HF.out]; rfl, rfl⟩
          · have hz2 : ((s.size : Int) == 1) = false := by rw [beq_eq_false_iff_ne]; omega
            have HF := Lib.hid (show isNum s.data.toList = false by
              unfold isNum
              have : s[0] = 48 := UInt8.toNat_inj.1 hz
              rw [HH.out, hlen, this]; simp [h1])
            clear h1 h0
            go_wp2_with fail
            go_ret
            exact ⟨by rw [HF.out]; rfl, rfl⟩
        · have hz1 : ((s[0].toNat : Int) != 48) = true := by rw [bne_iff_ne]; omega
          have HF := Lib.hid (show isNum s.data.toList = true by
            unfold isNum
            have : s[0] ≠ 48 := fun e => hz (by rw [e]; rfl)
            rw [HALL.out, HH.out, hlen]; simp [this, hp])
          clear h0
          go_wp2_with fail
          go_ret
          exact ⟨by rw [HF.out]; rfl, rfl⟩

def RParRel (w : World) (s : ByteArray) (k : Nat) (ov iv : Value) (wr : World) : Prop :=
  ∃ (i : Nat) (X : Option Addr) (n c : Nat) (l : List Nat), iv = .int .i64 i ∧ ov = .slice X n c ∧ i ≤ s.size ∧ k = s.size - i ∧ Hid (Nw wr tU w.heap.size X n c l) ∧ Hid (val l = dval (s.data.toList.take i)) ∧ Hid (l = limbs (val l)) ∧ n ≤ 200 ∧ Hid (Below w.heap.size w wr)

set_option maxHeartbeats 1600000 in
set_option maxRecDepth 100000 in
theorem rParse (s : ByteArray) (w : World) (h : s.size ≤ 1000) (hall : s.data.toList.all isDig = true) :
    Calls Tryd.prog 48 #[.string s] w (RP (dval s.data.toList) w) := by
  have HALL := Lib.hid hall
  clear hall
  go_enter Tryd.func48, Tryd.ntmps48
  go_wp2_with fail
  go_loopg [3, 4] s.size (RParRel w s)
  case atStart => exact ⟨0, none, 0, 0, [], rfl, rfl, by omega, rfl, Lib.hid (Nw.none_ _ _ _), Lib.hid rfl, Lib.hid (by rw [val_nil, limbs_zero]), by omega, Lib.hid (Below.refl _ _)⟩
  case round =>
    obtain ⟨i, X, n, c, l, rfl, rfl, hi, rfl, HX, HXV, HXT, hn, HBL⟩ := hrel
    by_cases hin : i < s.size
    · have hdi : decide (i < s.size) = true := by simpa using hin
      have b0 : (0 : Int) ≤ i := by omega
      have b1 : (i : Int) < s.size := by omega
      go_wp2_with fail
      obtain ⟨q, hq⟩ : ∃ q, s.data.toList[i]? = some q := ⟨_, List.getElem?_eq_getElem hin⟩
      have hsi : s[i] = q := by
        have h1 := List.getElem?_eq_getElem (l := s.data.toList) hin
        rw [hq] at h1
        injection h1 with h1
        exact h1.symm
      have hqd : 48 ≤ q.toNat ∧ q.toNat ≤ 57 := by
        have h1 := List.all_eq_true.1 HALL.out q (List.mem_of_getElem? hq)
        unfold isDig at h1
        rw [Bool.and_eq_true] at h1
        exact ⟨of_decide_eq_true h1.1, of_decide_eq_true h1.2⟩
      have HQ := Lib.hid hq
      clear hq
      obtain ⟨dd, hdd⟩ : ∃ dd : Nat, (q.toNat : Int) - 48 = dd := ⟨q.toNat - 48, by omega⟩
      have HDD := Lib.hid (show dd = q.toNat - 48 by omega)
      have hd9 : dd ≤ 9 := by omega
      have okd : ok [dd] := by intro x hx; simp at hx; subst hx; unfold BB; omega
      have ok10 : ok [10] := by intro x hx; simp at hx; subst hx; decide
      have hm1 : 1 ≤ maxLen := by unfold maxLen; omega
      have e1 : (wr.alloc (.cells #[.int .u32 (dd : Int)] tU)).heap.size = wr.heap.size + 1 := by simp
      have e2 : (wr.alloc (.cells #[.int .u32 10] tU)).heap.size = wr.heap.size + 1 := by simp
      have A0 := HX.out.sl
      have L0 := HBL.out.size
      have LW1 := Lib.hid (show Below w.heap.size w (wr.alloc (.cells #[.int .u32 10] tU)).drew from below_drewN (HBL.out.alloc L0 _) 1)
      have LW2 := Lib.hid (show Below w.heap.size w ((wr.alloc (.cells #[.int .u32 10] tU)).alloc (.cells #[.int .u32 (dd : Int)] tU)).drew from below_drewN ((HBL.out.alloc L0 _).alloc (by rw [e2]; omega) _) 1)
      have LW3 := Lib.hid (show Below w.heap.size w ((wr.alloc (.cells #[.int .u32 (dd : Int)] tU)).alloc (.cells #[.int .u32 10] tU)).drew from below_drewN ((HBL.out.alloc L0 _).alloc (by rw [e1]; omega) _) 1)
      have A1 := Lib.hid (show Sl (wr.alloc (.cells #[.int .u32 10] tU)).drew X n c l from (A0.alloc _).drewN 1)
      have A2 := Lib.hid (show Sl ((wr.alloc (.cells #[.int .u32 10] tU)).alloc (.cells #[.int .u32 (dd : Int)] tU)).drew X n c l from ((A0.alloc _).alloc _).drewN 1)
      have A3 := Lib.hid (show Sl ((wr.alloc (.cells #[.int .u32 (dd : Int)] tU)).alloc (.cells #[.int .u32 10] tU)).drew X n c l from ((A0.alloc _).alloc _).drewN 1)
      have M1 := Lib.hid (show Sl (wr.alloc (.cells #[.int .u32 10] tU)).drew (some ⟨wr.heap.size, 0, none⟩) 1 1 [10] from (Sl.new (w := wr) (t := tU) (l := [10]) 1 ok10 rfl hm1).drewN 1)
      have M2 := Lib.hid (show Sl ((wr.alloc (.cells #[.int .u32 10] tU)).alloc (.cells #[.int .u32 (dd : Int)] tU)).drew (some ⟨wr.heap.size, 0, none⟩) 1 1 [10] from ((Sl.new (w := wr) (t := tU) (l := [10]) 1 ok10 rfl hm1).alloc _).drewN 1)
      have M3 := Lib.hid (show Sl ((wr.alloc (.cells #[.int .u32 (dd : Int)] tU)).alloc (.cells #[.int .u32 10] tU)).drew (some ⟨wr.heap.size + 1, 0, none⟩) 1 1 [10] from by
        rw [← e1]; exact (Sl.new (w := wr.alloc (.cells #[.int .u32 (dd : Int)] tU)) (t := tU) (l := [10]) 1 ok10 rfl hm1).drewN 1)
      have D2 := Lib.hid (show Sl ((wr.alloc (.cells #[.int .u32 10] tU)).alloc (.cells #[.int .u32 (dd : Int)] tU)).drew (some ⟨wr.heap.size + 1, 0, none⟩) 1 1 [dd] from by
        rw [← e2]; exact (Sl.new (w := wr.alloc (.cells #[.int .u32 10] tU)) (t := tU) (l := [dd]) 1 okd rfl hm1).drewN 1)
      have D3 := Lib.hid (show Sl ((wr.alloc (.cells #[.int .u32 (dd : Int)] tU)).alloc (.cells #[.int .u32 10] tU)).drew (some ⟨wr.heap.size, 0, none⟩) 1 1 [dd] from ((Sl.new (w := wr) (t := tU) (l := [dd]) 1 okd rfl hm1).alloc _).drewN 1)
      have HVS := Lib.hid (show val l * val [10] + val [dd] = dval (s.data.toList.take (i + 1)) by
        rw [take_succ_at HQ.out, dval_snoc, ← HXV.out, ← HDD.out]
        simp [val]; omega)
      have HOK := Lib.hid okd
      have HNM := Lib.hid (show ∀ k, k = (limbs (val l * val [10])).length → k ≤ 300 from fun k hk => by
        have h1 := mul_len (val l) (val [10])
        have h2 := limbs_le_len HX.out.sl.ok
        have h3 := HX.out.sl.len
        have h4 : (limbs (val [10])).length ≤ 1 := limbs_len_le (by simp [val]; decide)
        omega)
      have hw1 : IntKind.u8.wrap (dd : Int) = dd := by simp [IntKind.wrap, IntKind.bits, IntKind.signed]; omega
      have hw2 : IntKind.u32.wrap (dd : Int) = dd := by simp [IntKind.wrap, IntKind.bits, IntKind.signed]; omega
      clear e1 e2 A0 ok10 okd
      go_region_with (first
        | (go_at_call 23
           refine (rMul X _ n c 1 1 _ [10] _ (by first | exact A1.out | exact A2.out | exact A3.out) (by first | exact M1.out | exact M2.out | exact M3.out) (by omega) (by omega)).mono ?_
           rintro e w2 ⟨M, nm, cm, rfl, HM, HB2⟩
           have hnm : nm ≤ 300 := HNM.out nm HM.out.sl.len.symm
           have HL2 := Lib.hid (show Below w.heap.size w w2 from by first | exact LW1.out.trans (HB2.out.mono LW1.out.size) | exact LW2.out.trans (HB2.out.mono LW2.out.size) | exact LW3.out.trans (HB2.out.mono LW3.out.size)))
        | (go_at_call 22
           refine (rAdd M _ nm cm 1 1 _ [dd] _ (by first | exact HM.out.sl | exact HM.out.sl.alloc _) (by first | exact D2.out.below HB2.out | exact D3.out.below HB2.out | exact Sl.new (w := w2) (t := tU) (l := [dd]) 1 HOK.out rfl hm1) (by omega) (by omega)).mono ?_
           rintro e w3 ⟨S, ns, cs, rfl, HS, HB3⟩
           have HL3 := Lib.hid (show Below w.heap.size w w3 from by first | exact HL2.out.trans (HB3.out.mono HL2.out.size) | exact (HL2.out.alloc HL2.out.size _).trans (HB3.out.mono (Nat.le_trans HL2.out.size (by simp))))
           have HS3 := Lib.hid (show Nw w3 tU w.heap.size S ns cs (limbs (val (limbs (val l * val [10])) + val [dd])) from by first | exact HS.out.base HL2.out.size | exact HS.out.base (Nat.le_trans HL2.out.size (by simp)))))
      all_goals
        (have HV3 := Lib.hid (show val (limbs (val l * val [10])) + val [dd] = dval (s.data.toList.take (i + 1)) by rw [val_limbs]; exact HVS.out)
         rw [HV3.out] at HS3
         have hk200 : ns ≤ 200 := by
           rw [← HS3.out.sl.len]
           exact num_len (by
             rw [List.all_eq_true]
             intro x hx
             exact List.all_eq_true.1 HALL.out x (List.mem_of_mem_take hx)) (by rw [List.length_take]; omega)
         go_wp2_with fail
         go_roundg (s.size - (i + 1))
         case measure => omega
         case rel => exact ⟨i + 1, S, ns, cs, _, by go_num, rfl, by omega, rfl, HS3, Lib.hid (val_limbs _), Lib.hid (by rw [val_limbs]), hk200, HL3⟩)
    · obtain rfl : i = s.size := by omega
      have hdi : decide (s.size < s.size) = false := by simp
      have HVE := Lib.hid (show val l = dval s.data.toList by
        rw [HXV.out, List.take_of_length_le (show s.data.toList.length ≤ s.size from Nat.le_refl _)])
      have HLX := Lib.hid (show l = limbs (dval s.data.toList) by rw [← HVE.out]; exact HXT.out)
      go_wp2_with fail
      go_ret
      exact ⟨X, n, c, rfl, by rw [← HLX.out]; exact HX, HBL⟩
end Go.Proofs.YtkpicaangfibcaaDoor
