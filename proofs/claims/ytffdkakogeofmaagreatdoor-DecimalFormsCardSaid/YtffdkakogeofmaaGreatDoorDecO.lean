/-
  The walk of the law DecimalForms.
-/
import Derived.Test.YtffdkakogeofmaaGreatDoorDecL
import Derived.Test.YtffdkakogeofmaaGreatDoorDecZ
set_option linter.unusedVariables false
namespace Go.Proofs.YtffdkakogeofmaaGreatDoor
open Go.RowKit Go.Fl Go.Fl.Nm Go.Fl.Dy
theorem any_next {l : List UInt8} {i : Nat} {q : UInt8} (h : l[i]? = some q) (P : UInt8 → Bool) : (l.take (i + 1)).any P = ((l.take i).any P || P q) := by
  rw [take_succ_at h, List.any_append]
  simp
theorem all_next {l : List UInt8} {i : Nat} {q : UInt8} (h : l[i]? = some q) (P : UInt8 → Bool) : (l.take (i + 1)).all P = ((l.take i).all P && P q) := by
  rw [take_succ_at h, List.all_append]
  simp
theorem dig_of {q : UInt8} (h1 : 48 ≤ q.toNat) (h2 : q.toNat ≤ 57) : Nm.isDig q = true := by unfold Nm.isDig; rw [decide_eq_true h1, decide_eq_true h2]; rfl
theorem dig_out {q : UInt8} (h : q.toNat < 48 ∨ 57 < q.toNat) : Nm.isDig q = false := by
  unfold Nm.isDig
  rcases h with h | h
  · rw [decide_eq_false (by omega)]; rfl
  · rw [decide_eq_false (p := q.toNat ≤ 57) (by omega), Bool.and_false]
theorem all_out {q : UInt8} (h : q.toNat < 48 ∨ 57 < q.toNat) (h0 : q.toNat ≠ 46) (h1 : q.toNat ≠ 45) (h2 : q.toNat ≠ 91) (h3 : q.toNat ≠ 93) (h4 : q.toNat ≠ 44) (h5 : q.toNat ≠ 32) : allB q = false := by
  have e : ∀ k : UInt8, q.toNat ≠ k.toNat → (q == k) = false := fun k hk => by rw [beq_eq_false_iff_ne]; exact fun e => hk (by rw [e])
  unfold allB
  rw [dig_out h, e 46 h0, e 45 h1, e 91 h2, e 93 h3, e 44 h4, e 32 h5]
  rfl
theorem sym_of {q k : UInt8} (h : q.toNat = k.toNat) (h1 : Nm.isDig k = false) (h2 : allB k = true) : Nm.isDig q = false ∧ allB q = true := by
  have : q = k := UInt8.toNat_inj.1 h
  rw [this]
  exact ⟨h1, h2⟩
def FmRel (l : List UInt8) (W : World) (k : Nat) (dv fv iv : Value) (wr : World) : Prop :=
  ∃ (i : Nat) (d f : Bool), dv = .bool d ∧ fv = .bool f ∧ iv = .int .i64 (i : Int) ∧ l.length - i = k ∧ i ≤ l.length ∧ Hid (d = (l.take i).any Nm.isDig) ∧ Hid (f = !(l.take i).all allB) ∧ Hid (Below W.heap.size W wr)
theorem dd_any (s : ByteArray) (w : World) (b : Bool) (hs : s.size ≤ 3000) (hM : MXL w) (hb : Go.Lib.contains s.data.toList [45, 45] = b) : Calls Tryz.prog 27 #[.string s, .string ⟨#[45, 45]⟩] w (fun e w' => e = .returned (.bool b) ∧ Hid (Below w.heap.size w w')) := by
  subst hb
  obtain ⟨_, m, hm⟩ := hM
  refine (Any.strings_Contains { Tryz.laysM144 with } s ⟨#[45, 45]⟩ m w (by omega) hm).mono ?_
  rintro e w' ⟨rfl, rfl⟩
  exact ⟨rfl, Lib.hid (Below.refl _ _)⟩
theorem hp_any (s : ByteArray) (c : UInt8) (w : World) (b : Bool) (hb : Go.Lib.hasPrefix s.data.toList [c] = b) : Calls Tryz.prog 25 #[.string s, .string ⟨#[c]⟩] w (fun e w' => e = .returned (.bool b) ∧ Hid (Below w.heap.size w w')) := by
  subst hb
  refine (Tryz.strings_HasPrefix s ⟨#[c]⟩ w).mono ?_
  rintro e w' ⟨rfl, rfl⟩
  exact ⟨rfl, Lib.hid (Below.refl _ _)⟩
theorem hs_any (s : ByteArray) (c : UInt8) (w : World) (b : Bool) (hs : s.size ≤ 3000) (hb : Go.Lib.hasSuffix s.data.toList [c] = b) : Calls Tryz.prog 26 #[.string s, .string ⟨#[c]⟩] w (fun e w' => e = .returned (.bool b) ∧ Hid (Below w.heap.size w w')) := by
  subst hb
  refine (Tryz.strings_HasSuffix s ⟨#[c]⟩ w (by omega)).mono ?_
  rintro e w' ⟨rfl, rfl⟩
  exact ⟨rfl, Lib.hid (Below.refl _ _)⟩

set_option maxHeartbeats 1000000 in
theorem forms_great (s : ByteArray) (p : Int) (w : World) (hT : RB w) (hM : MXL w) (hs : s.size ≤ maxLen) (hg : 200 < s.size) : Calls Tryz.prog 8 #[.string s, .int .i64 p] w (Awk w) := by
  have HT := Lib.hid hT
  have HM := Lib.hid hM
  have d1 : decide ((200 : Int) < (s.size : Int)) = true := decide_eq_true (by omega)
  have d1' : decide (200 < s.size) = true := decide_eq_true hg
  clear hT hM
  go_enter Tryz.func8, Tryz.ntmps8
  go_wp2_with fail
  refine (dAwake_any w HT.out HM.out).mono ?_
  rintro e w1 ⟨rfl, HB1⟩
  have F1t := Lib.hid (HT.out.belowW HB1.out)
  have F1m := Lib.hid (HM.out.belowW HB1.out)
  go_wp2_with fail
  go_ret
  exact ⟨rfl, HB1⟩

set_option maxHeartbeats 16000000 in
theorem forms_main (s : ByteArray) (p : Int) (w : World) (hT : RB w) (hM : MXL w) (hg : s.size ≤ 200) : Calls Tryz.prog 8 #[.string s, .int .i64 p] w (Awk w) := by
  have HT := Lib.hid hT
  have HM := Lib.hid hM
  have hs3 : s.size ≤ 3000 := by omega
  have d1 : decide ((200 : Int) < (s.size : Int)) = false := decide_eq_false (by omega)
  have d1' : decide (200 < s.size) = false := decide_eq_false (by omega)
  obtain ⟨l, hl⟩ : ∃ l, s.data.toList = l := ⟨_, rfl⟩
  have hll : l.length = s.size := by rw [← hl]; rfl
  obtain ⟨⟨⟨lo, hi, al⟩, er⟩, hr⟩ : ∃ r, parR l p = r := ⟨_, rfl⟩
  have HR := Lib.hid (show parR s.data.toList p = ((lo, hi, al), er) by rw [hl, hr])
  have HER := Lib.hid (show badF l = true → l ≠ [97, 108, 108] → er = 3 from fun h1 h2 => by have := bad_err (p := p) h1 h2; rw [hr] at this; exact this)
  have HLL := Lib.hid hl
  have HLN := Lib.hid hll
  obtain ⟨x1, hx1⟩ : ∃ b, Go.Lib.hasPrefix l [32] = b := ⟨_, rfl⟩
  obtain ⟨x2, hx2⟩ : ∃ b, Go.Lib.hasSuffix l [32] = b := ⟨_, rfl⟩
  obtain ⟨x3, hx3⟩ : ∃ b, Go.Lib.contains l [45, 45] = b := ⟨_, rfl⟩
  obtain ⟨x4, hx4⟩ : ∃ b, Go.Lib.hasPrefix l [46] = b := ⟨_, rfl⟩
  have HX1 := Lib.hid (show Go.Lib.hasPrefix s.data.toList [32] = x1 by rw [hl, hx1])
  have HX2 := Lib.hid (show Go.Lib.hasSuffix s.data.toList [32] = x2 by rw [hl, hx2])
  have HX3 := Lib.hid (show Go.Lib.contains s.data.toList [45, 45] = x3 by rw [hl, hx3])
  have HX4 := Lib.hid (show Go.Lib.hasPrefix s.data.toList [46] = x4 by rw [hl, hx4])
  have HBF := Lib.hid (show badF l = (!l.all allB || !l.any Nm.isDig || x1 || x2 || x3 || x4) by unfold badF; rw [hx1, hx2, hx3, hx4])
  have HALL := Lib.hid (show l = [97, 108, 108] → x1 = false ∧ x2 = false ∧ x3 = false ∧ x4 = false from fun h => by
    rw [h] at hx1 hx2 hx3 hx4
    exact ⟨hx1.symm.trans (by decide), hx2.symm.trans (by decide), hx3.symm.trans (by decide), hx4.symm.trans (by decide)⟩)
  obtain ⟨na, hna⟩ : ∃ b, (l == [97, 108, 108]) = b := ⟨_, rfl⟩
  have HNA := Lib.hid hna
  have n0 : (s.toList == [97, 108, 108]) = na := by rw [bl_data, hl, hna]
  have n1 : (s.toList != [97, 108, 108]) = !na := by rw [bne, bl_data, hl, hna]
  clear hT hM hl hr hx1 hx2 hx3 hx4 hna hll
  go_enter Tryz.func8, Tryz.ntmps8
  go_wp2_with fail
  refine (dAwake_any w HT.out HM.out).mono ?_
  rintro e w1 ⟨rfl, HB1⟩
  have F1t := Lib.hid (HT.out.belowW HB1.out)
  have F1m := Lib.hid (HM.out.belowW HB1.out)
  go_wp2_with fail
  refine (parse_at s p w1 hs3 F1t.out F1m.out).mono ?_
  rw [HR.out]
  rintro e w2 ⟨A, B, n, c, m, d, rfl, HA, HY, HB2⟩
  have F2t := Lib.hid (F1t.out.belowW HB2.out)
  have F2m := Lib.hid (F1m.out.belowW HB2.out)
  have HL2 := Lib.hid (HB1.out.trans (HB2.out.mono HB1.out.size))
  go_upto_region 6 with (fail)
  obtain ⟨w3, hw⟩ : ∃ z9 : World, z9 = w2.alloc (.cells #[.bool lo.neg, .slice A n c, .int .i64 lo.e, .bool hi.neg, .slice B m d, .int .i64 hi.e, .bool al] 27) := ⟨_, rfl⟩
  have HB3 := Lib.hid (show Below w2.heap.size w2 w3 by rw [hw]; exact below_a1 _ _)
  have F3x := Lib.hid (show Blk w3 w2.heap.size 27 #[.bool lo.neg, .slice A n c, .int .i64 lo.e, .bool hi.neg, .slice B m d, .int .i64 hi.e, .bool al] by rw [hw]; exact Blk.new _ _ _)
  rw [← hw]
  clear hw
  have F3t := Lib.hid (F2t.out.belowW HB3.out)
  have F3m := Lib.hid (F2m.out.belowW HB3.out)
  have HL3 := Lib.hid (HL2.out.trans (HB3.out.mono HL2.out.size))
  go_wp2_with fail
  go_loopg [7, 8, 24] s.size (FmRel l w3)
  case atStart => exact ⟨0, false, false, rfl, rfl, rfl, by rw [HLN.out]; rfl, Nat.zero_le _, Lib.hid rfl, Lib.hid rfl, Lib.hid (Below.refl _ _)⟩
  case round =>
    obtain ⟨i, dg, fr, rfl, rfl, rfl, hk, hi, HD, HF, HW⟩ := hrel
    have HHK := Lib.hid hk
    have hin : i ≤ s.size := by rw [← HLN.out]; exact hi
    clear hi hk
    by_cases hlt : i < s.size
    case pos =>
      have d2 : decide ((i : Int) < (s.size : Int)) = true := decide_eq_true (by omega)
      have d2' : decide (i < s.size) = true := decide_eq_true hlt
      have b0 : (0 : Int) ≤ (i : Int) := by omega
      have b1 : (i : Int) < (s.size : Int) := by omega
      obtain ⟨q, hq⟩ : ∃ q, s.data.toList[i]? = some q := ⟨_, List.getElem?_eq_getElem hlt⟩
      have hsi : s[i] = q := by
        have h1 := List.getElem?_eq_getElem (l := s.data.toList) hlt
        rw [hq] at h1
        injection h1 with h1
        exact h1.symm
      rw [HLL.out] at hq
      have ND := any_next hq Nm.isDig
      have NF := all_next hq allB
      have HND := Lib.hid ND
      have HNF := Lib.hid NF
      clear hq ND NF
      by_cases hdig : 48 ≤ q.toNat ∧ q.toNat ≤ 57
      case pos =>
        have HQ1 := Lib.hid (dig_of hdig.1 hdig.2)
        have HQ2 := Lib.hid (all_dig (dig_of hdig.1 hdig.2))
        have f1 : decide ((48 : Int) ≤ (q.toNat : Int)) = true := decide_eq_true (by omega)
        have f1' : decide (48 ≤ q.toNat) = true := decide_eq_true hdig.1
        have f2 : decide ((q.toNat : Int) ≤ 57) = true := decide_eq_true (by omega)
        have f2' : decide (q.toNat ≤ 57) = true := decide_eq_true hdig.2
        clear hdig
        cases dg with
        | false =>
          cases fr with
          | false =>
            go_wp2_with fail
            go_roundg (s.size - (i + 1))
            case measure => (have h9 := HHK.out; rw [HLN.out] at h9; omega)
            case rel => exact ⟨i + 1, true, false, rfl, rfl, by go_num, by rw [HLN.out], by rw [HLN.out]; omega, Lib.hid (by rw [HND.out, ← HD.out, HQ1.out]; rfl), Lib.hid (by rw [HNF.out, HQ2.out, Bool.not_and, ← HF.out]; rfl), HW⟩
          | true =>
            go_wp2_with fail
            go_roundg (s.size - (i + 1))
            case measure => (have h9 := HHK.out; rw [HLN.out] at h9; omega)
            case rel => exact ⟨i + 1, true, true, rfl, rfl, by go_num, by rw [HLN.out], by rw [HLN.out]; omega, Lib.hid (by rw [HND.out, ← HD.out, HQ1.out]; rfl), Lib.hid (by rw [HNF.out, HQ2.out, Bool.not_and, ← HF.out]; rfl), HW⟩
        | true =>
          cases fr with
          | false =>
            go_wp2_with fail
            go_roundg (s.size - (i + 1))
            case measure => (have h9 := HHK.out; rw [HLN.out] at h9; omega)
            case rel => exact ⟨i + 1, true, false, rfl, rfl, by go_num, by rw [HLN.out], by rw [HLN.out]; omega, Lib.hid (by rw [HND.out, ← HD.out, HQ1.out]; rfl), Lib.hid (by rw [HNF.out, HQ2.out, Bool.not_and, ← HF.out]; rfl), HW⟩
          | true =>
            go_wp2_with fail
            go_roundg (s.size - (i + 1))
            case measure => (have h9 := HHK.out; rw [HLN.out] at h9; omega)
            case rel => exact ⟨i + 1, true, true, rfl, rfl, by go_num, by rw [HLN.out], by rw [HLN.out]; omega, Lib.hid (by rw [HND.out, ← HD.out, HQ1.out]; rfl), Lib.hid (by rw [HNF.out, HQ2.out, Bool.not_and, ← HF.out]; rfl), HW⟩
      have hout : q.toNat < 48 ∨ 57 < q.toNat := by omega
      clear hdig
      by_cases h46 : q.toNat = 46
      case pos =>
        have HQ1 := Lib.hid (sym_of (k := 46) h46 (by decide) (by decide)).1
        have HQ2 := Lib.hid (sym_of (k := 46) h46 (by decide) (by decide)).2
        clear hout 
        cases dg with
        | false =>
          cases fr with
          | false =>
            go_wp2_with fail
            go_roundg (s.size - (i + 1))
            case measure => (have h9 := HHK.out; rw [HLN.out] at h9; omega)
            case rel => exact ⟨i + 1, false, false, rfl, rfl, by go_num, by rw [HLN.out], by rw [HLN.out]; omega, Lib.hid (by rw [HND.out, ← HD.out, HQ1.out]; rfl), Lib.hid (by rw [HNF.out, HQ2.out, Bool.not_and, ← HF.out]; rfl), HW⟩
          | true =>
            go_wp2_with fail
            go_roundg (s.size - (i + 1))
            case measure => (have h9 := HHK.out; rw [HLN.out] at h9; omega)
            case rel => exact ⟨i + 1, false, true, rfl, rfl, by go_num, by rw [HLN.out], by rw [HLN.out]; omega, Lib.hid (by rw [HND.out, ← HD.out, HQ1.out]; rfl), Lib.hid (by rw [HNF.out, HQ2.out, Bool.not_and, ← HF.out]; rfl), HW⟩
        | true =>
          cases fr with
          | false =>
            go_wp2_with fail
            go_roundg (s.size - (i + 1))
            case measure => (have h9 := HHK.out; rw [HLN.out] at h9; omega)
            case rel => exact ⟨i + 1, true, false, rfl, rfl, by go_num, by rw [HLN.out], by rw [HLN.out]; omega, Lib.hid (by rw [HND.out, ← HD.out, HQ1.out]; rfl), Lib.hid (by rw [HNF.out, HQ2.out, Bool.not_and, ← HF.out]; rfl), HW⟩
          | true =>
            go_wp2_with fail
            go_roundg (s.size - (i + 1))
            case measure => (have h9 := HHK.out; rw [HLN.out] at h9; omega)
            case rel => exact ⟨i + 1, true, true, rfl, rfl, by go_num, by rw [HLN.out], by rw [HLN.out]; omega, Lib.hid (by rw [HND.out, ← HD.out, HQ1.out]; rfl), Lib.hid (by rw [HNF.out, HQ2.out, Bool.not_and, ← HF.out]; rfl), HW⟩
      by_cases h45 : q.toNat = 45
      case pos =>
        have HQ1 := Lib.hid (sym_of (k := 45) h45 (by decide) (by decide)).1
        have HQ2 := Lib.hid (sym_of (k := 45) h45 (by decide) (by decide)).2
        clear hout h46
        cases dg with
        | false =>
          cases fr with
          | false =>
            go_wp2_with fail
            go_roundg (s.size - (i + 1))
            case measure => (have h9 := HHK.out; rw [HLN.out] at h9; omega)
            case rel => exact ⟨i + 1, false, false, rfl, rfl, by go_num, by rw [HLN.out], by rw [HLN.out]; omega, Lib.hid (by rw [HND.out, ← HD.out, HQ1.out]; rfl), Lib.hid (by rw [HNF.out, HQ2.out, Bool.not_and, ← HF.out]; rfl), HW⟩
          | true =>
            go_wp2_with fail
            go_roundg (s.size - (i + 1))
            case measure => (have h9 := HHK.out; rw [HLN.out] at h9; omega)
            case rel => exact ⟨i + 1, false, true, rfl, rfl, by go_num, by rw [HLN.out], by rw [HLN.out]; omega, Lib.hid (by rw [HND.out, ← HD.out, HQ1.out]; rfl), Lib.hid (by rw [HNF.out, HQ2.out, Bool.not_and, ← HF.out]; rfl), HW⟩
        | true =>
          cases fr with
          | false =>
            go_wp2_with fail
            go_roundg (s.size - (i + 1))
            case measure => (have h9 := HHK.out; rw [HLN.out] at h9; omega)
            case rel => exact ⟨i + 1, true, false, rfl, rfl, by go_num, by rw [HLN.out], by rw [HLN.out]; omega, Lib.hid (by rw [HND.out, ← HD.out, HQ1.out]; rfl), Lib.hid (by rw [HNF.out, HQ2.out, Bool.not_and, ← HF.out]; rfl), HW⟩
          | true =>
            go_wp2_with fail
            go_roundg (s.size - (i + 1))
            case measure => (have h9 := HHK.out; rw [HLN.out] at h9; omega)
            case rel => exact ⟨i + 1, true, true, rfl, rfl, by go_num, by rw [HLN.out], by rw [HLN.out]; omega, Lib.hid (by rw [HND.out, ← HD.out, HQ1.out]; rfl), Lib.hid (by rw [HNF.out, HQ2.out, Bool.not_and, ← HF.out]; rfl), HW⟩
      by_cases h91 : q.toNat = 91
      case pos =>
        have HQ1 := Lib.hid (sym_of (k := 91) h91 (by decide) (by decide)).1
        have HQ2 := Lib.hid (sym_of (k := 91) h91 (by decide) (by decide)).2
        clear hout h46 h45
        cases dg with
        | false =>
          cases fr with
          | false =>
            go_wp2_with fail
            go_roundg (s.size - (i + 1))
            case measure => (have h9 := HHK.out; rw [HLN.out] at h9; omega)
            case rel => exact ⟨i + 1, false, false, rfl, rfl, by go_num, by rw [HLN.out], by rw [HLN.out]; omega, Lib.hid (by rw [HND.out, ← HD.out, HQ1.out]; rfl), Lib.hid (by rw [HNF.out, HQ2.out, Bool.not_and, ← HF.out]; rfl), HW⟩
          | true =>
            go_wp2_with fail
            go_roundg (s.size - (i + 1))
            case measure => (have h9 := HHK.out; rw [HLN.out] at h9; omega)
            case rel => exact ⟨i + 1, false, true, rfl, rfl, by go_num, by rw [HLN.out], by rw [HLN.out]; omega, Lib.hid (by rw [HND.out, ← HD.out, HQ1.out]; rfl), Lib.hid (by rw [HNF.out, HQ2.out, Bool.not_and, ← HF.out]; rfl), HW⟩
        | true =>
          cases fr with
          | false =>
            go_wp2_with fail
            go_roundg (s.size - (i + 1))
            case measure => (have h9 := HHK.out; rw [HLN.out] at h9; omega)
            case rel => exact ⟨i + 1, true, false, rfl, rfl, by go_num, by rw [HLN.out], by rw [HLN.out]; omega, Lib.hid (by rw [HND.out, ← HD.out, HQ1.out]; rfl), Lib.hid (by rw [HNF.out, HQ2.out, Bool.not_and, ← HF.out]; rfl), HW⟩
          | true =>
            go_wp2_with fail
            go_roundg (s.size - (i + 1))
            case measure => (have h9 := HHK.out; rw [HLN.out] at h9; omega)
            case rel => exact ⟨i + 1, true, true, rfl, rfl, by go_num, by rw [HLN.out], by rw [HLN.out]; omega, Lib.hid (by rw [HND.out, ← HD.out, HQ1.out]; rfl), Lib.hid (by rw [HNF.out, HQ2.out, Bool.not_and, ← HF.out]; rfl), HW⟩
      by_cases h93 : q.toNat = 93
      case pos =>
        have HQ1 := Lib.hid (sym_of (k := 93) h93 (by decide) (by decide)).1
        have HQ2 := Lib.hid (sym_of (k := 93) h93 (by decide) (by decide)).2
        clear hout h46 h45 h91
        cases dg with
        | false =>
          cases fr with
          | false =>
            go_wp2_with fail
            go_roundg (s.size - (i + 1))
            case measure => (have h9 := HHK.out; rw [HLN.out] at h9; omega)
            case rel => exact ⟨i + 1, false, false, rfl, rfl, by go_num, by rw [HLN.out], by rw [HLN.out]; omega, Lib.hid (by rw [HND.out, ← HD.out, HQ1.out]; rfl), Lib.hid (by rw [HNF.out, HQ2.out, Bool.not_and, ← HF.out]; rfl), HW⟩
          | true =>
            go_wp2_with fail
            go_roundg (s.size - (i + 1))
            case measure => (have h9 := HHK.out; rw [HLN.out] at h9; omega)
            case rel => exact ⟨i + 1, false, true, rfl, rfl, by go_num, by rw [HLN.out], by rw [HLN.out]; omega, Lib.hid (by rw [HND.out, ← HD.out, HQ1.out]; rfl), Lib.hid (by rw [HNF.out, HQ2.out, Bool.not_and, ← HF.out]; rfl), HW⟩
        | true =>
          cases fr with
          | false =>
            go_wp2_with fail
            go_roundg (s.size - (i + 1))
            case measure => (have h9 := HHK.out; rw [HLN.out] at h9; omega)
            case rel => exact ⟨i + 1, true, false, rfl, rfl, by go_num, by rw [HLN.out], by rw [HLN.out]; omega, Lib.hid (by rw [HND.out, ← HD.out, HQ1.out]; rfl), Lib.hid (by rw [HNF.out, HQ2.out, Bool.not_and, ← HF.out]; rfl), HW⟩
          | true =>
            go_wp2_with fail
            go_roundg (s.size - (i + 1))
            case measure => (have h9 := HHK.out; rw [HLN.out] at h9; omega)
            case rel => exact ⟨i + 1, true, true, rfl, rfl, by go_num, by rw [HLN.out], by rw [HLN.out]; omega, Lib.hid (by rw [HND.out, ← HD.out, HQ1.out]; rfl), Lib.hid (by rw [HNF.out, HQ2.out, Bool.not_and, ← HF.out]; rfl), HW⟩
      by_cases h44 : q.toNat = 44
      case pos =>
        have HQ1 := Lib.hid (sym_of (k := 44) h44 (by decide) (by decide)).1
        have HQ2 := Lib.hid (sym_of (k := 44) h44 (by decide) (by decide)).2
        clear hout h46 h45 h91 h93
        cases dg with
        | false =>
          cases fr with
          | false =>
            go_wp2_with fail
            go_roundg (s.size - (i + 1))
            case measure => (have h9 := HHK.out; rw [HLN.out] at h9; omega)
            case rel => exact ⟨i + 1, false, false, rfl, rfl, by go_num, by rw [HLN.out], by rw [HLN.out]; omega, Lib.hid (by rw [HND.out, ← HD.out, HQ1.out]; rfl), Lib.hid (by rw [HNF.out, HQ2.out, Bool.not_and, ← HF.out]; rfl), HW⟩
          | true =>
            go_wp2_with fail
            go_roundg (s.size - (i + 1))
            case measure => (have h9 := HHK.out; rw [HLN.out] at h9; omega)
            case rel => exact ⟨i + 1, false, true, rfl, rfl, by go_num, by rw [HLN.out], by rw [HLN.out]; omega, Lib.hid (by rw [HND.out, ← HD.out, HQ1.out]; rfl), Lib.hid (by rw [HNF.out, HQ2.out, Bool.not_and, ← HF.out]; rfl), HW⟩
        | true =>
          cases fr with
          | false =>
            go_wp2_with fail
            go_roundg (s.size - (i + 1))
            case measure => (have h9 := HHK.out; rw [HLN.out] at h9; omega)
            case rel => exact ⟨i + 1, true, false, rfl, rfl, by go_num, by rw [HLN.out], by rw [HLN.out]; omega, Lib.hid (by rw [HND.out, ← HD.out, HQ1.out]; rfl), Lib.hid (by rw [HNF.out, HQ2.out, Bool.not_and, ← HF.out]; rfl), HW⟩
          | true =>
            go_wp2_with fail
            go_roundg (s.size - (i + 1))
            case measure => (have h9 := HHK.out; rw [HLN.out] at h9; omega)
            case rel => exact ⟨i + 1, true, true, rfl, rfl, by go_num, by rw [HLN.out], by rw [HLN.out]; omega, Lib.hid (by rw [HND.out, ← HD.out, HQ1.out]; rfl), Lib.hid (by rw [HNF.out, HQ2.out, Bool.not_and, ← HF.out]; rfl), HW⟩
      by_cases h32 : q.toNat = 32
      case pos =>
        have HQ1 := Lib.hid (sym_of (k := 32) h32 (by decide) (by decide)).1
        have HQ2 := Lib.hid (sym_of (k := 32) h32 (by decide) (by decide)).2
        clear hout h46 h45 h91 h93 h44
        cases dg with
        | false =>
          cases fr with
          | false =>
            go_wp2_with fail
            go_roundg (s.size - (i + 1))
            case measure => (have h9 := HHK.out; rw [HLN.out] at h9; omega)
            case rel => exact ⟨i + 1, false, false, rfl, rfl, by go_num, by rw [HLN.out], by rw [HLN.out]; omega, Lib.hid (by rw [HND.out, ← HD.out, HQ1.out]; rfl), Lib.hid (by rw [HNF.out, HQ2.out, Bool.not_and, ← HF.out]; rfl), HW⟩
          | true =>
            go_wp2_with fail
            go_roundg (s.size - (i + 1))
            case measure => (have h9 := HHK.out; rw [HLN.out] at h9; omega)
            case rel => exact ⟨i + 1, false, true, rfl, rfl, by go_num, by rw [HLN.out], by rw [HLN.out]; omega, Lib.hid (by rw [HND.out, ← HD.out, HQ1.out]; rfl), Lib.hid (by rw [HNF.out, HQ2.out, Bool.not_and, ← HF.out]; rfl), HW⟩
        | true =>
          cases fr with
          | false =>
            go_wp2_with fail
            go_roundg (s.size - (i + 1))
            case measure => (have h9 := HHK.out; rw [HLN.out] at h9; omega)
            case rel => exact ⟨i + 1, true, false, rfl, rfl, by go_num, by rw [HLN.out], by rw [HLN.out]; omega, Lib.hid (by rw [HND.out, ← HD.out, HQ1.out]; rfl), Lib.hid (by rw [HNF.out, HQ2.out, Bool.not_and, ← HF.out]; rfl), HW⟩
          | true =>
            go_wp2_with fail
            go_roundg (s.size - (i + 1))
            case measure => (have h9 := HHK.out; rw [HLN.out] at h9; omega)
            case rel => exact ⟨i + 1, true, true, rfl, rfl, by go_num, by rw [HLN.out], by rw [HLN.out]; omega, Lib.hid (by rw [HND.out, ← HD.out, HQ1.out]; rfl), Lib.hid (by rw [HNF.out, HQ2.out, Bool.not_and, ← HF.out]; rfl), HW⟩
      have HQ1 := Lib.hid (dig_out hout)
      have HQ2 := Lib.hid (all_out hout h46 h45 h91 h93 h44 h32)
      have g46 : ((q.toNat : Int) == 46) = false := by rw [beq_eq_false_iff_ne]; omega
      have g46' : (q.toNat == 46) = false := by rw [beq_eq_false_iff_ne]; omega
      have g45 : ((q.toNat : Int) == 45) = false := by rw [beq_eq_false_iff_ne]; omega
      have g45' : (q.toNat == 45) = false := by rw [beq_eq_false_iff_ne]; omega
      have g91 : ((q.toNat : Int) == 91) = false := by rw [beq_eq_false_iff_ne]; omega
      have g91' : (q.toNat == 91) = false := by rw [beq_eq_false_iff_ne]; omega
      have g93 : ((q.toNat : Int) == 93) = false := by rw [beq_eq_false_iff_ne]; omega
      have g93' : (q.toNat == 93) = false := by rw [beq_eq_false_iff_ne]; omega
      have g44 : ((q.toNat : Int) == 44) = false := by rw [beq_eq_false_iff_ne]; omega
      have g44' : (q.toNat == 44) = false := by rw [beq_eq_false_iff_ne]; omega
      have g32 : ((q.toNat : Int) == 32) = false := by rw [beq_eq_false_iff_ne]; omega
      have g32' : (q.toNat == 32) = false := by rw [beq_eq_false_iff_ne]; omega
      by_cases hlow : q.toNat < 48
      case pos =>
        have f1 : decide ((48 : Int) ≤ (q.toNat : Int)) = false := decide_eq_false (by omega)
        have f1' : decide (48 ≤ q.toNat) = false := decide_eq_false (by omega)
        clear hout hlow h46 h45 h91 h93 h44 h32
        cases dg with
        | false =>
          cases fr with
          | false =>
            go_wp2_with fail
            go_roundg (s.size - (i + 1))
            case measure => (have h9 := HHK.out; rw [HLN.out] at h9; omega)
            case rel => exact ⟨i + 1, false, true, rfl, rfl, by go_num, by rw [HLN.out], by rw [HLN.out]; omega, Lib.hid (by rw [HND.out, ← HD.out, HQ1.out]; rfl), Lib.hid (by rw [HNF.out, HQ2.out, Bool.not_and, ← HF.out]; rfl), HW⟩
          | true =>
            go_wp2_with fail
            go_roundg (s.size - (i + 1))
            case measure => (have h9 := HHK.out; rw [HLN.out] at h9; omega)
            case rel => exact ⟨i + 1, false, true, rfl, rfl, by go_num, by rw [HLN.out], by rw [HLN.out]; omega, Lib.hid (by rw [HND.out, ← HD.out, HQ1.out]; rfl), Lib.hid (by rw [HNF.out, HQ2.out, Bool.not_and, ← HF.out]; rfl), HW⟩
        | true =>
          cases fr with
          | false =>
            go_wp2_with fail
            go_roundg (s.size - (i + 1))
            case measure => (have h9 := HHK.out; rw [HLN.out] at h9; omega)
            case rel => exact ⟨i + 1, true, true, rfl, rfl, by go_num, by rw [HLN.out], by rw [HLN.out]; omega, Lib.hid (by rw [HND.out, ← HD.out, HQ1.out]; rfl), Lib.hid (by rw [HNF.out, HQ2.out, Bool.not_and, ← HF.out]; rfl), HW⟩
          | true =>
            go_wp2_with fail
            go_roundg (s.size - (i + 1))
            case measure => (have h9 := HHK.out; rw [HLN.out] at h9; omega)
            case rel => exact ⟨i + 1, true, true, rfl, rfl, by go_num, by rw [HLN.out], by rw [HLN.out]; omega, Lib.hid (by rw [HND.out, ← HD.out, HQ1.out]; rfl), Lib.hid (by rw [HNF.out, HQ2.out, Bool.not_and, ← HF.out]; rfl), HW⟩
      case neg =>
        have f1 : decide ((48 : Int) ≤ (q.toNat : Int)) = true := decide_eq_true (by omega)
        have f1' : decide (48 ≤ q.toNat) = true := decide_eq_true (by omega)
        have f2 : decide ((q.toNat : Int) ≤ 57) = false := decide_eq_false (by omega)
        have f2' : decide (q.toNat ≤ 57) = false := decide_eq_false (by omega)
        clear hout hlow h46 h45 h91 h93 h44 h32
        cases dg with
        | false =>
          cases fr with
          | false =>
            go_wp2_with fail
            go_roundg (s.size - (i + 1))
            case measure => (have h9 := HHK.out; rw [HLN.out] at h9; omega)
            case rel => exact ⟨i + 1, false, true, rfl, rfl, by go_num, by rw [HLN.out], by rw [HLN.out]; omega, Lib.hid (by rw [HND.out, ← HD.out, HQ1.out]; rfl), Lib.hid (by rw [HNF.out, HQ2.out, Bool.not_and, ← HF.out]; rfl), HW⟩
          | true =>
            go_wp2_with fail
            go_roundg (s.size - (i + 1))
            case measure => (have h9 := HHK.out; rw [HLN.out] at h9; omega)
            case rel => exact ⟨i + 1, false, true, rfl, rfl, by go_num, by rw [HLN.out], by rw [HLN.out]; omega, Lib.hid (by rw [HND.out, ← HD.out, HQ1.out]; rfl), Lib.hid (by rw [HNF.out, HQ2.out, Bool.not_and, ← HF.out]; rfl), HW⟩
        | true =>
          cases fr with
          | false =>
            go_wp2_with fail
            go_roundg (s.size - (i + 1))
            case measure => (have h9 := HHK.out; rw [HLN.out] at h9; omega)
            case rel => exact ⟨i + 1, true, true, rfl, rfl, by go_num, by rw [HLN.out], by rw [HLN.out]; omega, Lib.hid (by rw [HND.out, ← HD.out, HQ1.out]; rfl), Lib.hid (by rw [HNF.out, HQ2.out, Bool.not_and, ← HF.out]; rfl), HW⟩
          | true =>
            go_wp2_with fail
            go_roundg (s.size - (i + 1))
            case measure => (have h9 := HHK.out; rw [HLN.out] at h9; omega)
            case rel => exact ⟨i + 1, true, true, rfl, rfl, by go_num, by rw [HLN.out], by rw [HLN.out]; omega, Lib.hid (by rw [HND.out, ← HD.out, HQ1.out]; rfl), Lib.hid (by rw [HNF.out, HQ2.out, Bool.not_and, ← HF.out]; rfl), HW⟩
    case neg =>
      obtain rfl : i = s.size := by omega
      have d2 : decide ((s.size : Int) < (s.size : Int)) = false := decide_eq_false (by omega)
      have d2' : decide (s.size < s.size) = false := decide_eq_false (by omega)
      have HTK : l.take s.size = l := by rw [← HLN.out]; exact List.take_length
      have HD2 := Lib.hid (show dg = l.any Nm.isDig by rw [HD.out, HTK])
      have HF2 := Lib.hid (show fr = !l.all allB by rw [HF.out, HTK])
      have HB2 := Lib.hid (show badF l = (fr || !dg || x1 || x2 || x3 || x4) by rw [HBF.out, HD2.out, HF2.out])
      clear HTK
      have Gt := Lib.hid (F3t.out.belowW HW.out)
      have Gm := Lib.hid (F3m.out.belowW HW.out)
      have Gx := Lib.hid (F3x.out.belowW HW.out)
      have GL := Lib.hid (HL3.out.trans (HW.out.mono HL3.out.size))
      cases na with
      | true =>
        have hla : l = [97, 108, 108] := by have := HNA.out; simpa using this
        obtain ⟨rfl, rfl, rfl, rfl⟩ := HALL.out hla
        cases fr with
        | false =>
          cases dg with
          | false =>
            go_wp2_with fail
            refine (hp_any s 32 wr false HX1.out).mono ?_
            rintro e w4 ⟨rfl, HB4⟩
            have F4t := Lib.hid (Gt.out.belowW HB4.out)
            have F4m := Lib.hid (Gm.out.belowW HB4.out)
            have F4x := Lib.hid (Gx.out.belowW HB4.out)
            have HL4 := Lib.hid (GL.out.trans (HB4.out.mono GL.out.size))
            go_wp2_with fail
            refine (hs_any s 32 w4 false hs3 HX2.out).mono ?_
            rintro e w5 ⟨rfl, HB5⟩
            have F5t := Lib.hid (F4t.out.belowW HB5.out)
            have F5m := Lib.hid (F4m.out.belowW HB5.out)
            have F5x := Lib.hid (F4x.out.belowW HB5.out)
            have HL5 := Lib.hid (HL4.out.trans (HB5.out.mono HL4.out.size))
            go_wp2_with fail
            refine (dd_any s w5 false hs3 F5m.out HX3.out).mono ?_
            rintro e w6 ⟨rfl, HB6⟩
            have F6t := Lib.hid (F5t.out.belowW HB6.out)
            have F6m := Lib.hid (F5m.out.belowW HB6.out)
            have F6x := Lib.hid (F5x.out.belowW HB6.out)
            have HL6 := Lib.hid (HL5.out.trans (HB6.out.mono HL5.out.size))
            go_wp2_with fail
            refine (hp_any s 46 w6 false HX4.out).mono ?_
            rintro e w7 ⟨rfl, HB7⟩
            have F7t := Lib.hid (F6t.out.belowW HB7.out)
            have F7m := Lib.hid (F6m.out.belowW HB7.out)
            have F7x := Lib.hid (F6x.out.belowW HB7.out)
            have HL7 := Lib.hid (HL6.out.trans (HB7.out.mono HL6.out.size))
            go_wp2_with fail
            go_ret
            exact ⟨rfl, HL7⟩
          | true =>
            go_wp2_with fail
            refine (hp_any s 32 wr false HX1.out).mono ?_
            rintro e w4 ⟨rfl, HB4⟩
            have F4t := Lib.hid (Gt.out.belowW HB4.out)
            have F4m := Lib.hid (Gm.out.belowW HB4.out)
            have F4x := Lib.hid (Gx.out.belowW HB4.out)
            have HL4 := Lib.hid (GL.out.trans (HB4.out.mono GL.out.size))
            go_wp2_with fail
            refine (hs_any s 32 w4 false hs3 HX2.out).mono ?_
            rintro e w5 ⟨rfl, HB5⟩
            have F5t := Lib.hid (F4t.out.belowW HB5.out)
            have F5m := Lib.hid (F4m.out.belowW HB5.out)
            have F5x := Lib.hid (F4x.out.belowW HB5.out)
            have HL5 := Lib.hid (HL4.out.trans (HB5.out.mono HL4.out.size))
            go_wp2_with fail
            refine (dd_any s w5 false hs3 F5m.out HX3.out).mono ?_
            rintro e w6 ⟨rfl, HB6⟩
            have F6t := Lib.hid (F5t.out.belowW HB6.out)
            have F6m := Lib.hid (F5m.out.belowW HB6.out)
            have F6x := Lib.hid (F5x.out.belowW HB6.out)
            have HL6 := Lib.hid (HL5.out.trans (HB6.out.mono HL5.out.size))
            go_wp2_with fail
            refine (hp_any s 46 w6 false HX4.out).mono ?_
            rintro e w7 ⟨rfl, HB7⟩
            have F7t := Lib.hid (F6t.out.belowW HB7.out)
            have F7m := Lib.hid (F6m.out.belowW HB7.out)
            have F7x := Lib.hid (F6x.out.belowW HB7.out)
            have HL7 := Lib.hid (HL6.out.trans (HB7.out.mono HL6.out.size))
            go_wp2_with fail
            go_ret
            exact ⟨rfl, HL7⟩
        | true =>
          go_wp2_with fail
          refine (hp_any s 32 wr false HX1.out).mono ?_
          rintro e w4 ⟨rfl, HB4⟩
          have F4t := Lib.hid (Gt.out.belowW HB4.out)
          have F4m := Lib.hid (Gm.out.belowW HB4.out)
          have F4x := Lib.hid (Gx.out.belowW HB4.out)
          have HL4 := Lib.hid (GL.out.trans (HB4.out.mono GL.out.size))
          go_wp2_with fail
          refine (hs_any s 32 w4 false hs3 HX2.out).mono ?_
          rintro e w5 ⟨rfl, HB5⟩
          have F5t := Lib.hid (F4t.out.belowW HB5.out)
          have F5m := Lib.hid (F4m.out.belowW HB5.out)
          have F5x := Lib.hid (F4x.out.belowW HB5.out)
          have HL5 := Lib.hid (HL4.out.trans (HB5.out.mono HL4.out.size))
          go_wp2_with fail
          refine (dd_any s w5 false hs3 F5m.out HX3.out).mono ?_
          rintro e w6 ⟨rfl, HB6⟩
          have F6t := Lib.hid (F5t.out.belowW HB6.out)
          have F6m := Lib.hid (F5m.out.belowW HB6.out)
          have F6x := Lib.hid (F5x.out.belowW HB6.out)
          have HL6 := Lib.hid (HL5.out.trans (HB6.out.mono HL5.out.size))
          go_wp2_with fail
          refine (hp_any s 46 w6 false HX4.out).mono ?_
          rintro e w7 ⟨rfl, HB7⟩
          have F7t := Lib.hid (F6t.out.belowW HB7.out)
          have F7m := Lib.hid (F6m.out.belowW HB7.out)
          have F7x := Lib.hid (F6x.out.belowW HB7.out)
          have HL7 := Lib.hid (HL6.out.trans (HB7.out.mono HL6.out.size))
          go_wp2_with fail
          go_ret
          exact ⟨rfl, HL7⟩
      | false =>
        have hla : l ≠ [97, 108, 108] := by have := HNA.out; simpa using this
        cases fr with
        | true =>
          obtain rfl : er = 3 := HER.out (by rw [HB2.out]; simp) hla
          go_wp2_with fail
          go_ret
          exact ⟨rfl, GL⟩
        | false =>
          cases dg with
          | false =>
            obtain rfl : er = 3 := HER.out (by rw [HB2.out]; simp) hla
            go_wp2_with fail
            go_ret
            exact ⟨rfl, GL⟩
          | true =>
            cases x1 with
            | true =>
              obtain rfl : er = 3 := HER.out (by rw [HB2.out]; simp) hla
              go_wp2_with fail
              refine (hp_any s 32 wr true HX1.out).mono ?_
              rintro e w4 ⟨rfl, HB4⟩
              have F4t := Lib.hid (Gt.out.belowW HB4.out)
              have F4m := Lib.hid (Gm.out.belowW HB4.out)
              have F4x := Lib.hid (Gx.out.belowW HB4.out)
              have HL4 := Lib.hid (GL.out.trans (HB4.out.mono GL.out.size))
              go_wp2_with fail
              go_ret
              exact ⟨rfl, HL4⟩
            | false =>
              cases x2 with
              | true =>
                obtain rfl : er = 3 := HER.out (by rw [HB2.out]; simp) hla
                go_wp2_with fail
                refine (hp_any s 32 wr false HX1.out).mono ?_
                rintro e w4 ⟨rfl, HB4⟩
                have F4t := Lib.hid (Gt.out.belowW HB4.out)
                have F4m := Lib.hid (Gm.out.belowW HB4.out)
                have F4x := Lib.hid (Gx.out.belowW HB4.out)
                have HL4 := Lib.hid (GL.out.trans (HB4.out.mono GL.out.size))
                go_wp2_with fail
                refine (hs_any s 32 w4 true hs3 HX2.out).mono ?_
                rintro e w5 ⟨rfl, HB5⟩
                have F5t := Lib.hid (F4t.out.belowW HB5.out)
                have F5m := Lib.hid (F4m.out.belowW HB5.out)
                have F5x := Lib.hid (F4x.out.belowW HB5.out)
                have HL5 := Lib.hid (HL4.out.trans (HB5.out.mono HL4.out.size))
                go_wp2_with fail
                go_ret
                exact ⟨rfl, HL5⟩
              | false =>
                cases x3 with
                | true =>
                  obtain rfl : er = 3 := HER.out (by rw [HB2.out]; simp) hla
                  go_wp2_with fail
                  refine (hp_any s 32 wr false HX1.out).mono ?_
                  rintro e w4 ⟨rfl, HB4⟩
                  have F4t := Lib.hid (Gt.out.belowW HB4.out)
                  have F4m := Lib.hid (Gm.out.belowW HB4.out)
                  have F4x := Lib.hid (Gx.out.belowW HB4.out)
                  have HL4 := Lib.hid (GL.out.trans (HB4.out.mono GL.out.size))
                  go_wp2_with fail
                  refine (hs_any s 32 w4 false hs3 HX2.out).mono ?_
                  rintro e w5 ⟨rfl, HB5⟩
                  have F5t := Lib.hid (F4t.out.belowW HB5.out)
                  have F5m := Lib.hid (F4m.out.belowW HB5.out)
                  have F5x := Lib.hid (F4x.out.belowW HB5.out)
                  have HL5 := Lib.hid (HL4.out.trans (HB5.out.mono HL4.out.size))
                  go_wp2_with fail
                  refine (dd_any s w5 true hs3 F5m.out HX3.out).mono ?_
                  rintro e w6 ⟨rfl, HB6⟩
                  have F6t := Lib.hid (F5t.out.belowW HB6.out)
                  have F6m := Lib.hid (F5m.out.belowW HB6.out)
                  have F6x := Lib.hid (F5x.out.belowW HB6.out)
                  have HL6 := Lib.hid (HL5.out.trans (HB6.out.mono HL5.out.size))
                  go_wp2_with fail
                  go_ret
                  exact ⟨rfl, HL6⟩
                | false =>
                  cases x4 with
                  | true =>
                    obtain rfl : er = 3 := HER.out (by rw [HB2.out]; simp) hla
                    go_wp2_with fail
                    refine (hp_any s 32 wr false HX1.out).mono ?_
                    rintro e w4 ⟨rfl, HB4⟩
                    have F4t := Lib.hid (Gt.out.belowW HB4.out)
                    have F4m := Lib.hid (Gm.out.belowW HB4.out)
                    have F4x := Lib.hid (Gx.out.belowW HB4.out)
                    have HL4 := Lib.hid (GL.out.trans (HB4.out.mono GL.out.size))
                    go_wp2_with fail
                    refine (hs_any s 32 w4 false hs3 HX2.out).mono ?_
                    rintro e w5 ⟨rfl, HB5⟩
                    have F5t := Lib.hid (F4t.out.belowW HB5.out)
                    have F5m := Lib.hid (F4m.out.belowW HB5.out)
                    have F5x := Lib.hid (F4x.out.belowW HB5.out)
                    have HL5 := Lib.hid (HL4.out.trans (HB5.out.mono HL4.out.size))
                    go_wp2_with fail
                    refine (dd_any s w5 false hs3 F5m.out HX3.out).mono ?_
                    rintro e w6 ⟨rfl, HB6⟩
                    have F6t := Lib.hid (F5t.out.belowW HB6.out)
                    have F6m := Lib.hid (F5m.out.belowW HB6.out)
                    have F6x := Lib.hid (F5x.out.belowW HB6.out)
                    have HL6 := Lib.hid (HL5.out.trans (HB6.out.mono HL5.out.size))
                    go_wp2_with fail
                    refine (hp_any s 46 w6 true HX4.out).mono ?_
                    rintro e w7 ⟨rfl, HB7⟩
                    have F7t := Lib.hid (F6t.out.belowW HB7.out)
                    have F7m := Lib.hid (F6m.out.belowW HB7.out)
                    have F7x := Lib.hid (F6x.out.belowW HB7.out)
                    have HL7 := Lib.hid (HL6.out.trans (HB7.out.mono HL6.out.size))
                    go_wp2_with fail
                    go_ret
                    exact ⟨rfl, HL7⟩
                  | false =>
                    go_wp2_with fail
                    refine (hp_any s 32 wr false HX1.out).mono ?_
                    rintro e w4 ⟨rfl, HB4⟩
                    have F4t := Lib.hid (Gt.out.belowW HB4.out)
                    have F4m := Lib.hid (Gm.out.belowW HB4.out)
                    have F4x := Lib.hid (Gx.out.belowW HB4.out)
                    have HL4 := Lib.hid (GL.out.trans (HB4.out.mono GL.out.size))
                    go_wp2_with fail
                    refine (hs_any s 32 w4 false hs3 HX2.out).mono ?_
                    rintro e w5 ⟨rfl, HB5⟩
                    have F5t := Lib.hid (F4t.out.belowW HB5.out)
                    have F5m := Lib.hid (F4m.out.belowW HB5.out)
                    have F5x := Lib.hid (F4x.out.belowW HB5.out)
                    have HL5 := Lib.hid (HL4.out.trans (HB5.out.mono HL4.out.size))
                    go_wp2_with fail
                    refine (dd_any s w5 false hs3 F5m.out HX3.out).mono ?_
                    rintro e w6 ⟨rfl, HB6⟩
                    have F6t := Lib.hid (F5t.out.belowW HB6.out)
                    have F6m := Lib.hid (F5m.out.belowW HB6.out)
                    have F6x := Lib.hid (F5x.out.belowW HB6.out)
                    have HL6 := Lib.hid (HL5.out.trans (HB6.out.mono HL5.out.size))
                    go_wp2_with fail
                    refine (hp_any s 46 w6 false HX4.out).mono ?_
                    rintro e w7 ⟨rfl, HB7⟩
                    have F7t := Lib.hid (F6t.out.belowW HB7.out)
                    have F7m := Lib.hid (F6m.out.belowW HB7.out)
                    have F7x := Lib.hid (F6x.out.belowW HB7.out)
                    have HL7 := Lib.hid (HL6.out.trans (HB7.out.mono HL6.out.size))
                    go_wp2_with fail
                    go_ret
                    exact ⟨rfl, HL7⟩
theorem decimalForms_any (s : ByteArray) (p : Int) (w : World) (hT : RB w) (hM : MXL w) (hs : s.size ≤ maxLen) (i1 : -9223372036854775808 ≤ p) (i2 : p ≤ 9223372036854775807) : Calls Tryz.prog 8 #[.string s, .int .i64 p] w (Awk w) := by
  by_cases hg : 200 < s.size
  · exact forms_great s p w hT hM hs hg
  · exact forms_main s p w hT hM (by omega)
end Go.Proofs.YtffdkakogeofmaaGreatDoor
