/-
  Walks: the reference's functions on bytes and runs.
-/
import Derived.Test.YtoogeihbhhcpaaaDoorProg
import Derived.Test.YtoogeihbhhcpaaaDoorPkB
import Derived.Test.YtoogeihbhhcpaaaDoorPkA
namespace Go.Proofs.YtoogeihbhhcpaaaDoor
open Go.RowKit Go.Fl Go.Fl.Lx

theorem byte_beq (a b : UInt8) : (((a.toNat : Nat) : Int) == ((b.toNat : Nat) : Int)) = (a == b) := by
  rw [Bool.eq_iff_iff]
  simp only [beq_iff_eq]
  exact ⟨fun h => UInt8.toNat_inj.1 (by omega), fun h => by rw [h]⟩
theorem byte_beq_lit (a : UInt8) (n : Nat) (hn : n < 256) : (((a.toNat : Nat) : Int) == (n : Int)) = (a == UInt8.ofNat n) := by
  rw [Bool.eq_iff_iff]
  simp [← UInt8.toNat_inj, Nat.mod_eq_of_lt hn]
  omega

theorem isLetter_any (b : UInt8) (w : World) :
    Calls Tryd.prog 66 #[.int .u8 b.toNat] w fun e w' => e = .returned (.bool (isLetter b)) ∧ w = w' := by
  obtain ⟨c, hc⟩ : ∃ c : Int, c = b.toNat := ⟨_, rfl⟩
  have hlt : c < 256 := by have := b.toNat_lt; omega
  have h0 : 0 ≤ c := by omega
  rw [← hc]
  have HBN := Lib.hid (show b.toNat = c.toNat by omega)
  clear hc
  by_cases g2 : (97 ≤ c ∧ c ≤ 122) ∨ (65 ≤ c ∧ c ≤ 90)
  · have HL := Lib.hid (show isLetter b = true by simp [isLetter, UInt8.le_iff_toNat_le]; rw [HBN.out]; omega)
    rcases g2 with ⟨g2, g3⟩ | ⟨g2, g3⟩
    all_goals
      go_enter Tryd.func66, Tryd.ntmps66
      go_wp2_with fail
      go_ret
      exact ⟨ret_bool (by rw [HL.out]), rfl⟩
  have HNL := Lib.hid (show isLetter b = false by simp [isLetter, UInt8.le_iff_toNat_le]; rw [HBN.out]; omega)
  rcases (by omega : c < 65 ∨ (91 ≤ c ∧ c ≤ 96) ∨ 123 ≤ c) with h | ⟨h, h'⟩ | h
  all_goals
    clear g2
    go_enter Tryd.func66, Tryd.ntmps66
    go_wp2_with fail
    go_ret
    exact ⟨ret_bool (by rw [HNL.out] <;> simp <;> omega), rfl⟩

theorem isDigit_any (b : UInt8) (w : World) :
    Calls Tryd.prog 67 #[.int .u8 b.toNat] w fun e w' => e = .returned (.bool (isDigit b)) ∧ w = w' := by
  obtain ⟨c, hc⟩ : ∃ c : Int, c = b.toNat := ⟨_, rfl⟩
  have hlt : c < 256 := by have := b.toNat_lt; omega
  have h0 : 0 ≤ c := by omega
  rw [← hc]
  have HBN := Lib.hid (show b.toNat = c.toNat by omega)
  clear hc
  by_cases g2 : 48 ≤ c ∧ c ≤ 57
  · have HL := Lib.hid (show isDigit b = true by simp [isDigit, UInt8.le_iff_toNat_le]; rw [HBN.out]; omega)
    obtain ⟨g2, g3⟩ := g2
    go_enter Tryd.func67, Tryd.ntmps67
    go_wp2_with fail
    go_ret
    exact ⟨ret_bool (by rw [HL.out]), rfl⟩
  have HNL := Lib.hid (show isDigit b = false by simp [isDigit, UInt8.le_iff_toNat_le]; rw [HBN.out]; omega)
  rcases (by omega : c < 48 ∨ 58 ≤ c) with h | h
  all_goals
    clear g2
    go_enter Tryd.func67, Tryd.ntmps67
    go_wp2_with fail
    go_ret
    exact ⟨ret_bool (by rw [HNL.out] <;> simp <;> omega), rfl⟩

theorem inRun_any (b : UInt8) (w : World) :
    Calls Tryd.prog 65 #[.int .u8 b.toNat] w fun e w' => e = .returned (.bool (inRun b)) ∧ w = w' := by
  have HE := Lib.hid (show inRun b = (isLetter b || isDigit b || b == 95 || b == 46) from rfl)
  by_cases h1 : isLetter b = true
  · go_enter Tryd.func65, Tryd.ntmps65
    go_wp2_with (go_at_call 66; refine (isLetter_any _ _).mono ?_; rintro e w' ⟨rfl, rfl⟩)
    go_ret
    exact ⟨ret_bool (by rw [HE.out, h1]; rfl), rfl⟩
  have h1 : isLetter b = false := by simpa using h1
  by_cases h2 : isDigit b = true
  · go_enter Tryd.func65, Tryd.ntmps65
    go_wp2_with (first | (go_at_call 66; refine (isLetter_any _ _).mono ?_; rintro e w' ⟨rfl, rfl⟩) | (go_at_call 67; refine (isDigit_any _ _).mono ?_; rintro e w' ⟨rfl, rfl⟩))
    go_ret
    exact ⟨ret_bool (by rw [HE.out, h1, h2]; rfl), rfl⟩
  have h2 : isDigit b = false := by simpa using h2
  have HQ1 := Lib.hid (byte_beq_lit b 95 (by omega))
  have HQ2 := Lib.hid (byte_beq_lit b 46 (by omega))
  by_cases h3 : b = 95
  · have h3' : (((b.toNat : Nat) : Int) == 95) = true := by rw [h3]; rfl
    have H3 := Lib.hid h3
    clear h3
    go_enter Tryd.func65, Tryd.ntmps65
    go_wp2_with (first | (go_at_call 66; refine (isLetter_any _ _).mono ?_; rintro e w' ⟨rfl, rfl⟩) | (go_at_call 67; refine (isDigit_any _ _).mono ?_; rintro e w' ⟨rfl, rfl⟩))
    go_ret
    exact ⟨ret_bool (by rw [HE.out, H3.out]; rfl), rfl⟩
  have h3' : (((b.toNat : Nat) : Int) == 95) = false := HQ1.out.trans (by simpa using h3)
  have H3 := Lib.hid (show (b == 95) = false by simpa using h3)
  clear h3
  go_enter Tryd.func65, Tryd.ntmps65
  go_wp2_with (first | (go_at_call 66; refine (isLetter_any _ _).mono ?_; rintro e w' ⟨rfl, rfl⟩) | (go_at_call 67; refine (isDigit_any _ _).mono ?_; rintro e w' ⟨rfl, rfl⟩))
  go_ret
  exact ⟨ret_bool (by rw [HE.out, h1, h2, H3.out]; exact HQ2.out), rfl⟩

theorem inWord_run (c : UInt8) : inWord c = (inRun c && !(c == 46)) := by
  have := u8_all (p := fun c => inWord c == (inRun c && !(c == 46))) (by decide +kernel) c
  simpa using this
theorem headLetter_eq (s : ByteArray) (h : 0 < s.size) : headLetter s.data.toList = isLetter s[0] := by
  have := drop_cons s 0 h
  rw [List.drop_zero] at this
  rw [this]; rfl

set_option maxHeartbeats 800000 in
theorem wordly_any (s : ByteArray) (w : World) (hs : s.size ≤ maxLen) :
    Calls Tryd.prog 56 #[.string s] w fun e w' => e = .returned (.bool (wordP s.data.toList)) ∧ w = w' := by
  unfold maxLen at hs
  go_enter Tryd.func56, Tryd.ntmps56
  go_wp2_with fail
  go_loop [3] (fun i => ∃ k : Nat, k ≤ s.size ∧ i = .int .i64 k ∧ Hid ((s.data.toList.take k).all inWord = true)) (fun i => s.size - (intOf i).toNat)
  case atStart => exact ⟨0, Nat.zero_le _, rfl, rfl⟩
  case round =>
    obtain ⟨k, hk, rfl, HA⟩ := hrel
    by_cases hlt : k < s.size
    · have HT := Lib.hid (take_snoc s k hlt)
      have HW := Lib.hid (inWord_run s[k])
      have hQ : (((s[k].toNat : Nat) : Int) == 46) = (s[k] == 46) := byte_beq_lit s[k] 46 (by omega)
      by_cases h46 : s[k] = 46
      · have h46' : (((s[k].toNat : Nat) : Int) == 46) = true := by rw [hQ]; simpa using h46
        have H46 := Lib.hid h46
        clear h46 hQ
        go_wp2_with (go_at_call 65; refine (inRun_any _ _).mono ?_; rintro e w' ⟨rfl, rfl⟩)
        go_ret
        refine ⟨ret_bool ?_, rfl⟩
        have hm : s[k] ∈ s.data.toList := List.getElem_mem (l := s.data.toList) (by simpa using hlt)
        have : s.data.toList.all inWord = false := by rw [List.all_eq_false]; exact ⟨_, hm, by rw [H46.out]; decide⟩
        simp [wordP, this]
      · have h46' : (((s[k].toNat : Nat) : Int) == 46) = false := by rw [hQ]; simpa using h46
        have H46 := Lib.hid (show (s[k] == 46) = false by simpa using h46)
        clear h46 hQ
        by_cases hr : inRun s[k] = true
        · have HI := Lib.hid (show inWord s[k] = true by rw [HW.out, hr, H46.out]; rfl)
          go_wp2_with (go_at_call 65; refine (inRun_any _ _).mono ?_; rintro e w' ⟨rfl, rfl⟩)
          go_round
          case rel => exact ⟨k + 1, by omega, by go_num, by unfold Hid; rw [HT.out]; simp [HA.out, HI.out]⟩
          case measure => simp [intOf]; omega
        · have hr : inRun s[k] = false := by simpa using hr
          have HI := Lib.hid (show inWord s[k] = false by rw [HW.out, hr]; rfl)
          go_wp2_with (go_at_call 65; refine (inRun_any _ _).mono ?_; rintro e w' ⟨rfl, rfl⟩)
          go_ret
          refine ⟨ret_bool ?_, rfl⟩
          have hm : s[k] ∈ s.data.toList := List.getElem_mem (l := s.data.toList) (by simpa using hlt)
          have : s.data.toList.all inWord = false := by rw [List.all_eq_false]; exact ⟨_, hm, by rw [HI.out]; decide⟩
          simp [wordP, this]
    · have HT := Lib.hid (take_all s k hlt)
      have HAll := Lib.hid (show s.data.toList.all inWord = true by have := HA.out; rw [HT.out] at this; exact this)
      by_cases hz : s.size = 0
      · have HZ := Lib.hid (show s.data.toList = [] from List.eq_nil_of_length_eq_zero (by simpa using hz))
        have hz1 : s.toList.isEmpty = true := by rw [isEmpty_data, HZ.out]; rfl
        have hz2 : s.toList = [] := by simpa using hz1
        go_wp2_with fail
        go_ret
        exact ⟨ret_bool (by rw [HZ.out]; rfl), rfl⟩
      · have h0 : 0 < s.size := by omega
        have HN := Lib.hid (show s.data.toList ≠ [] from fun h => hz (by have := congrArg List.length h; simpa using this))
        have hz1 : s.toList.isEmpty = false := by rw [isEmpty_data]; simpa using HN.out
        have HH := Lib.hid (headLetter_eq s h0)
        clear hz
        go_wp2_with (go_at_call 66; refine (isLetter_any _ _).mono ?_; rintro e w' ⟨rfl, rfl⟩)
        go_ret
        exact ⟨ret_bool (by simp [wordP, HAll.out, HH.out]), rfl⟩

theorem inNum_ways (c : UInt8) (h46 : (c == 46) = false) : inNum c = isDigit c := by unfold inNum; rw [h46]; rfl
theorem countP_snoc (l : List UInt8) (c : UInt8) : (l ++ [c]).countP isDigit = l.countP isDigit + if isDigit c then 1 else 0 := by
  rw [List.countP_append]; simp [List.countP_cons]
theorem count_snoc (l : List UInt8) (c : UInt8) : (l ++ [c]).count 46 = l.count 46 + if c == 46 then 1 else 0 := by
  rw [List.count_append, List.count_singleton]

/-- What the reference's 'numeric' leaves. -/
def NumPost (l : List UInt8) (w : World) (e : Ending) (w' : World) : Prop :=
  e = .returned (.tuple #[.int .i64 (numN l), .bool (decide (0 < numN l))]) ∧ w = w'

set_option maxHeartbeats 1600000 in
theorem numeric_any (s : ByteArray) (w : World) (hs : s.size ≤ maxLen) :
    Calls Tryd.prog 57 #[.string s] w (NumPost s.data.toList w) := by
  unfold maxLen at hs
  go_enter Tryd.func57, Tryd.ntmps57
  go_wp2_with fail
  go_loop [4, 5, 6] (fun p d i => ∃ k : Nat, k ≤ s.size ∧ i = .int .i64 k ∧ (∃ pn dn : Nat, p = .int .i64 pn ∧ d = .int .i64 dn ∧ pn ≤ k ∧ dn ≤ k ∧ Hid (pn = (s.data.toList.take k).count 46 ∧ dn = (s.data.toList.take k).countP isDigit ∧ (s.data.toList.take k).all inNum = true))) (fun _ _ i => s.size - (intOf i).toNat)
  case atStart => exact ⟨0, Nat.zero_le _, rfl, 0, 0, rfl, rfl, by omega, by omega, by unfold Hid; simp⟩
  case round =>
    obtain ⟨k, hk, rfl, pn, dn, rfl, rfl, hpk, hdk, HA⟩ := hrel
    by_cases hlt : k < s.size
    · have HT := Lib.hid (take_snoc s k hlt)
      have hQ : (((s[k].toNat : Nat) : Int) == 46) = (s[k] == 46) := byte_beq_lit s[k] 46 (by omega)
      by_cases h46 : s[k] = 46
      · have h46' : (((s[k].toNat : Nat) : Int) == 46) = true := by rw [hQ]; simpa using h46
        have H46 := Lib.hid h46
        clear h46 hQ
        go_wp2_with (go_at_call 67; refine (isDigit_any _ _).mono ?_; rintro e w' ⟨rfl, rfl⟩)
        go_round
        case rel =>
          refine ⟨k + 1, by omega, by go_num, pn + 1, dn, by go_num, rfl, by omega, by omega, ?_⟩
          unfold Hid
          rw [HT.out, count_snoc, countP_snoc, List.all_append, ← HA.out.1, ← HA.out.2.1, HA.out.2.2, H46.out]
          simp [show isDigit 46 = false by decide, show inNum 46 = true by decide]
        case measure => simp [intOf]; omega
      · have h46' : (((s[k].toNat : Nat) : Int) == 46) = false := by rw [hQ]; simpa using h46
        have H46 := Lib.hid (show (s[k] == 46) = false by simpa using h46)
        clear h46 hQ
        have HI := Lib.hid (inNum_ways _ H46.out)
        by_cases hd : isDigit s[k] = true
        · go_wp2_with (go_at_call 67; refine (isDigit_any _ _).mono ?_; rintro e w' ⟨rfl, rfl⟩)
          go_round
          case rel =>
            refine ⟨k + 1, by omega, by go_num, pn, dn + 1, rfl, by go_num, by omega, by omega, ?_⟩
            unfold Hid
            rw [HT.out, count_snoc, countP_snoc, List.all_append, ← HA.out.1, ← HA.out.2.1, HA.out.2.2, H46.out]
            simp [hd, HI.out]
          case measure => simp [intOf]; omega
        · have hd : isDigit s[k] = false := by simpa using hd
          have HF := Lib.hid (show numN s.data.toList = 0 from numN_bad _ s[k] (List.getElem_mem (l := s.data.toList) (by simpa using hlt)) (by rw [HI.out]; exact hd))
          go_wp2_with (go_at_call 67; refine (isDigit_any _ _).mono ?_; rintro e w' ⟨rfl, rfl⟩)
          go_ret2
          exact ⟨by rw [HF.out]; rfl, rfl⟩
    · have HT := Lib.hid (take_all s k hlt)
      have HG := Lib.hid (show numN s.data.toList = if s.data.toList.count 46 ≤ 1 ∧ s.data.toList ≠ [] ∧ s.data.toList.head? ≠ some 46 ∧ s.data.toList.getLast? ≠ some 46 then s.data.toList.countP isDigit else 0 by
        have h := HA.out.2.2; rw [HT.out] at h; exact numN_good _ h)
      have HP := Lib.hid (show pn = s.data.toList.count 46 by have := HA.out.1; rw [HT.out] at this; exact this)
      have HD := Lib.hid (show dn = s.data.toList.countP isDigit by have := HA.out.2.1; rw [HT.out] at this; exact this)
      by_cases hp1 : 1 < pn
      · have HF := Lib.hid (show numN s.data.toList = 0 by rw [HG.out, if_neg]; intro h; have := h.1; rw [← HP.out] at this; omega)
        go_wp2_with fail
        go_ret2
        exact ⟨by rw [HF.out]; rfl, rfl⟩
      by_cases hz : s.size = 0
      · have HZ := Lib.hid (show s.data.toList = [] from List.eq_nil_of_length_eq_zero (by simpa using hz))
        have hz1 : s.toList.isEmpty = true := by rw [isEmpty_data, HZ.out]; rfl
        have hz2 : s.toList = [] := by simpa using hz1
        have HF := Lib.hid (show numN s.data.toList = 0 by rw [HZ.out]; rfl)
        go_wp2_with fail
        go_ret2
        exact ⟨by rw [HF.out]; rfl, rfl⟩
      have h0 : 0 < s.size := by omega
      have HN := Lib.hid (show s.data.toList ≠ [] from fun h => hz (by have := congrArg List.length h; simpa using this))
      have hz1 : s.toList.isEmpty = false := by rw [isEmpty_data]; simpa using HN.out
      have HH := Lib.hid (show s.data.toList.head? = some s[0] by have := drop_cons s 0 h0; rw [List.drop_zero] at this; rw [this]; rfl)
      have HLs := Lib.hid (show s.data.toList.getLast? = some s[s.size - 1] by
        rw [List.getLast?_eq_getElem?, length_data, List.getElem?_eq_getElem (by simp; omega)]; rfl)
      clear hz
      have hQ : (((s[0].toNat : Nat) : Int) == 46) = (s[0] == 46) := byte_beq_lit s[0] 46 (by omega)
      by_cases a1 : s[0] = 46
      · have a1' : (((s[0].toNat : Nat) : Int) == 46) = true := by rw [hQ]; simpa using a1
        have HF := Lib.hid (show numN s.data.toList = 0 by rw [HG.out, if_neg]; intro h; exact h.2.2.1 (by rw [HH.out, a1]))
        clear a1 hQ
        go_wp2_with fail
        go_ret2
        exact ⟨by rw [HF.out]; rfl, rfl⟩
      have a1' : (((s[0].toNat : Nat) : Int) == 46) = false := by rw [hQ]; simpa using a1
      have HA1 := Lib.hid a1
      clear a1 hQ
      have hpd : decide ((1 : Int) < pn) = false := by simp; omega
      have hQ2 : (((s[s.size - 1].toNat : Nat) : Int) == 46) = (s[s.size - 1] == 46) := byte_beq_lit s[s.size - 1] 46 (by omega)
      by_cases a2 : s[s.size - 1] = 46
      · have a2' : (((s[s.size - 1].toNat : Nat) : Int) == 46) = true := by rw [hQ2]; simpa using a2
        have HF := Lib.hid (show numN s.data.toList = 0 by rw [HG.out, if_neg]; intro h; exact h.2.2.2 (by rw [HLs.out, a2]))
        clear a2 hQ2
        go_wp2_with fail
        go_ret2
        exact ⟨by rw [HF.out]; rfl, rfl⟩
      · have a2' : (((s[s.size - 1].toNat : Nat) : Int) == 46) = false := by rw [hQ2]; simpa using a2
        have HF := Lib.hid (show numN s.data.toList = dn by
          rw [HG.out, if_pos, HD.out]
          refine ⟨by rw [← HP.out]; omega, HN.out, ?_, ?_⟩
          · rw [HH.out]; intro h; injection h with h; exact HA1.out h
          · rw [HLs.out]; intro h; injection h with h; exact a2 h)
        have HPos := Lib.hid (show 0 < dn by
          rw [HD.out, List.countP_pos_iff]
          have hm : s[0] ∈ s.data.toList := List.getElem_mem (l := s.data.toList) (by simpa using h0)
          refine ⟨s[0], hm, ?_⟩
          have h := HA.out.2.2
          rw [HT.out, List.all_eq_true] at h
          have h := h _ hm
          rw [inNum_ways _ (by simpa using HA1.out)] at h
          exact h)
        clear a2 hQ2
        go_wp2_with fail
        go_ret2
        exact ⟨by rw [HF.out]; simp [HPos.out], rfl⟩

set_option maxHeartbeats 800000 in
theorem rkind_any (s : ByteArray) (w : World) (hs : s.size ≤ maxLen) :
    Calls Tryd.prog 48 #[.string s] w fun e w' => e = .returned (.tuple #[.int .i64 (kindOf s.data.toList).1, .int .i64 (kindOf s.data.toList).2]) ∧ w = w' := by
  have HK := Lib.hid (show kindOf s.data.toList = if wordP s.data.toList then (if 20 < s.size then (0, 5) else (1, 0)) else if numN s.data.toList = 0 then (0, 3) else if 18 < numN s.data.toList then (0, 5) else (2, 0) by rw [kindOf_ref, length_data])
  have hb : s.size ≤ maxLen := hs
  unfold maxLen at hb
  obtain ⟨r, hr⟩ : ∃ r, r = kindOf s.data.toList := ⟨_, rfl⟩
  have HR := Lib.hid hr
  rw [← hr]
  clear hr
  by_cases hw : wordP s.data.toList = true
  · by_cases hl : 20 < s.size
    · have HF := Lib.hid (show r = (0, 5) by rw [HR.out, HK.out, if_pos hw, if_pos hl])
      go_enter Tryd.func48, Tryd.ntmps48
      go_wp2_with (go_at_call 56; refine (wordly_any _ _ hs).mono ?_; rintro e w' ⟨rfl, rfl⟩)
      go_ret2
      exact ⟨by rw [HF.out]; rfl, rfl⟩
    · have HF := Lib.hid (show r = (1, 0) by rw [HR.out, HK.out, if_pos hw, if_neg hl])
      go_enter Tryd.func48, Tryd.ntmps48
      go_wp2_with (go_at_call 56; refine (wordly_any _ _ hs).mono ?_; rintro e w' ⟨rfl, rfl⟩)
      go_ret2
      exact ⟨by rw [HF.out]; rfl, rfl⟩
  · have hw' : wordP s.data.toList = false := by simpa using hw
    by_cases h0 : numN s.data.toList = 0
    · have HF := Lib.hid (show r = (0, 3) by rw [HR.out, HK.out, if_neg hw, if_pos h0])
      have hd : decide (0 < numN s.data.toList) = false := by simp; omega
      have H0 := Lib.hid h0
      clear h0 hw
      go_enter Tryd.func48, Tryd.ntmps48
      go_wp2_with (first | (go_at_call 56; refine (wordly_any _ _ hs).mono ?_; rintro e w' ⟨rfl, rfl⟩) | (go_at_call 57; refine (numeric_any _ _ hs).mono ?_; unfold NumPost; rintro e w' ⟨rfl, rfl⟩))
      go_ret2
      exact ⟨by rw [HF.out]; rfl, rfl⟩
    · have hd : decide (0 < numN s.data.toList) = true := by simp; omega
      by_cases h18 : 18 < numN s.data.toList
      · have HF := Lib.hid (show r = (0, 5) by rw [HR.out, HK.out, if_neg hw, if_neg h0, if_pos h18])
        have h18' : (18 : Int) < numN s.data.toList := by omega
        clear h0 hw
        go_enter Tryd.func48, Tryd.ntmps48
        go_wp2_with (first | (go_at_call 56; refine (wordly_any _ _ hs).mono ?_; rintro e w' ⟨rfl, rfl⟩) | (go_at_call 57; refine (numeric_any _ _ hs).mono ?_; unfold NumPost; rintro e w' ⟨rfl, rfl⟩))
        go_ret2
        exact ⟨by rw [HF.out]; rfl, rfl⟩
      · have HF := Lib.hid (show r = (2, 0) by rw [HR.out, HK.out, if_neg hw, if_neg h0, if_neg h18])
        have h18' : ¬ (18 : Int) < numN s.data.toList := by omega
        clear h0 hw
        go_enter Tryd.func48, Tryd.ntmps48
        go_wp2_with (first | (go_at_call 56; refine (wordly_any _ _ hs).mono ?_; rintro e w' ⟨rfl, rfl⟩) | (go_at_call 57; refine (numeric_any _ _ hs).mono ?_; unfold NumPost; rintro e w' ⟨rfl, rfl⟩))
        go_ret2
        exact ⟨by rw [HF.out]; rfl, rfl⟩
end Go.Proofs.YtoogeihbhhcpaaaDoor
