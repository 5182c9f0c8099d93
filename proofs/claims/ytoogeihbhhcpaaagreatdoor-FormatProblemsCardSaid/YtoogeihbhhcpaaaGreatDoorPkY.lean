/-
  Walks: the reference's functions on bytes and runs.
  The walk of the reference's Split.
  Walks: bytes' classes, words, digits, numbers, kinds.
  Walks: digits, words.
  Walks: strings.Cut at a point; numbers; kinds of runs.
  Walks: the scanner.
  The walk of lex.Split.
  Walks: comparing and converting lists of tokens.
  Walks: the chapter's example ('awake').
  Walks: reserved words and names; LexWords. (Printed by genkw.py.)
-/
import Derived.Test.YtoogeihbhhcpaaaGreatDoorProg
import Derived.Test.YtoogeihbhhcpaaaGreatDoorPkA
import Derived.Test.YtoogeihbhhcpaaaGreatDoorPkX
import Derived.Test.YtoogeihbhhcpaaaGreatDoorPkB
import Derived.Deep.RegionHeld3
import Derived.Deep.AppendLies
import Derived.Deep.LoopGhost
import Derived.Deep.DrawnRows
import Derived.StillTailTactics
set_option linter.unusedVariables false
namespace Go.Proofs.YtoogeihbhhcpaaaGreatDoor
open Go.RowKit Go.Fl Go.Fl.Lx

theorem byte_beq_lit (a : UInt8) (n : Nat) (hn : n < 256) : (((a.toNat : Nat) : Int) == (n : Int)) = (a == UInt8.ofNat n) := by
  rw [Bool.eq_iff_iff]
  simp [← UInt8.toNat_inj, Nat.mod_eq_of_lt hn]
  omega

theorem isLetter_any (b : UInt8) (w : World) :
    Calls Tryz.prog 190 #[.int .u8 b.toNat] w fun e w' => e = .returned (.bool (isLetter b)) ∧ w = w' := by
  obtain ⟨c, hc⟩ : ∃ c : Int, c = b.toNat := ⟨_, rfl⟩
  have hlt : c < 256 := by have := b.toNat_lt; omega
  have h0 : 0 ≤ c := by omega
  rw [← hc]
  have HBN := Lib.hid (show b.toNat = c.toNat by omega)
  clear hc
  by_cases g2 : (97 ≤ c ∧ c ≤ 122) ∨ (65 ≤ c ∧ c ≤ 90)
  · have HL := Lib.hid (show isLetter b = true by simp [isLetter, UInt8.le_iff_toNat_le]; rw [HBN.out]; omega)
    rcases g2 with ⟨g2, g3⟩ | ⟨g2, g3⟩
    all_goals
      go_enter Tryz.func190, Tryz.ntmps190
      go_wp2_with fail
      go_ret
      exact ⟨ret_bool (by rw [HL.out]), rfl⟩
  have HNL := Lib.hid (show isLetter b = false by simp [isLetter, UInt8.le_iff_toNat_le]; rw [HBN.out]; omega)
  rcases (by omega : c < 65 ∨ (91 ≤ c ∧ c ≤ 96) ∨ 123 ≤ c) with h | ⟨h, h'⟩ | h
  all_goals
    clear g2
    go_enter Tryz.func190, Tryz.ntmps190
    go_wp2_with fail
    go_ret
    exact ⟨ret_bool (by rw [HNL.out] <;> simp <;> omega), rfl⟩

theorem isDigit_any (b : UInt8) (w : World) :
    Calls Tryz.prog 191 #[.int .u8 b.toNat] w fun e w' => e = .returned (.bool (isDigit b)) ∧ w = w' := by
  obtain ⟨c, hc⟩ : ∃ c : Int, c = b.toNat := ⟨_, rfl⟩
  have hlt : c < 256 := by have := b.toNat_lt; omega
  have h0 : 0 ≤ c := by omega
  rw [← hc]
  have HBN := Lib.hid (show b.toNat = c.toNat by omega)
  clear hc
  by_cases g2 : 48 ≤ c ∧ c ≤ 57
  · have HL := Lib.hid (show isDigit b = true by simp [isDigit, UInt8.le_iff_toNat_le]; rw [HBN.out]; omega)
    obtain ⟨g2, g3⟩ := g2
    go_enter Tryz.func191, Tryz.ntmps191
    go_wp2_with fail
    go_ret
    exact ⟨ret_bool (by rw [HL.out]), rfl⟩
  have HNL := Lib.hid (show isDigit b = false by simp [isDigit, UInt8.le_iff_toNat_le]; rw [HBN.out]; omega)
  rcases (by omega : c < 48 ∨ 58 ≤ c) with h | h
  all_goals
    clear g2
    go_enter Tryz.func191, Tryz.ntmps191
    go_wp2_with fail
    go_ret
    exact ⟨ret_bool (by rw [HNL.out] <;> simp <;> omega), rfl⟩

theorem inRun_any (b : UInt8) (w : World) :
    Calls Tryz.prog 189 #[.int .u8 b.toNat] w fun e w' => e = .returned (.bool (inRun b)) ∧ w = w' := by
  have HE := Lib.hid (show inRun b = (isLetter b || isDigit b || b == 95 || b == 46) from rfl)
  by_cases h1 : isLetter b = true
  · go_enter Tryz.func189, Tryz.ntmps189
    go_wp2_with (go_at_call 190; refine (isLetter_any _ _).mono ?_; rintro e w' ⟨rfl, rfl⟩)
    go_ret
    exact ⟨ret_bool (by rw [HE.out, h1]; rfl), rfl⟩
  have h1 : isLetter b = false := by simpa using h1
  by_cases h2 : isDigit b = true
  · go_enter Tryz.func189, Tryz.ntmps189
    go_wp2_with (first | (go_at_call 190; refine (isLetter_any _ _).mono ?_; rintro e w' ⟨rfl, rfl⟩) | (go_at_call 191; refine (isDigit_any _ _).mono ?_; rintro e w' ⟨rfl, rfl⟩))
    go_ret
    exact ⟨ret_bool (by rw [HE.out, h1, h2]; rfl), rfl⟩
  have h2 : isDigit b = false := by simpa using h2
  have HQ1 := Lib.hid (byte_beq_lit b 95 (by omega))
  have HQ2 := Lib.hid (byte_beq_lit b 46 (by omega))
  by_cases h3 : b = 95
  · have h3' : (((b.toNat : Nat) : Int) == 95) = true := by rw [h3]; rfl
    have H3 := Lib.hid h3
    clear h3
    go_enter Tryz.func189, Tryz.ntmps189
    go_wp2_with (first | (go_at_call 190; refine (isLetter_any _ _).mono ?_; rintro e w' ⟨rfl, rfl⟩) | (go_at_call 191; refine (isDigit_any _ _).mono ?_; rintro e w' ⟨rfl, rfl⟩))
    go_ret
    exact ⟨ret_bool (by rw [HE.out, H3.out]; rfl), rfl⟩
  have h3' : (((b.toNat : Nat) : Int) == 95) = false := HQ1.out.trans (by simpa using h3)
  have H3 := Lib.hid (show (b == 95) = false by simpa using h3)
  clear h3
  go_enter Tryz.func189, Tryz.ntmps189
  go_wp2_with (first | (go_at_call 190; refine (isLetter_any _ _).mono ?_; rintro e w' ⟨rfl, rfl⟩) | (go_at_call 191; refine (isDigit_any _ _).mono ?_; rintro e w' ⟨rfl, rfl⟩))
  go_ret
  exact ⟨ret_bool (by rw [HE.out, h1, h2, H3.out]; exact HQ2.out), rfl⟩

theorem inWord_run (c : UInt8) : inWord c = (inRun c && !(c == 46)) := by
  have := u8_all (p := fun c => inWord c == (inRun c && !(c == 46))) (by decide +kernel) c
  simpa using this
theorem headLetter_eq (s : ByteArray) (h : 0 < s.size) : headLetter s.data.toList = isLetter s[0] := by
  have := drop_cons s 0 h
  rw [List.drop_zero] at this
  rw [this]; rfl

set_option maxHeartbeats 800000 in
theorem wordly_any (s : ByteArray) (w : World) (hs : s.size ≤ maxLen) :
    Calls Tryz.prog 168 #[.string s] w fun e w' => e = .returned (.bool (wordP s.data.toList)) ∧ w = w' := by
  unfold maxLen at hs
  go_enter Tryz.func168, Tryz.ntmps168
  go_wp2_with fail
  go_loop [3] (fun i => ∃ k : Nat, k ≤ s.size ∧ i = .int .i64 k ∧ Hid ((s.data.toList.take k).all inWord = true)) (fun i => s.size - (intOf i).toNat)
  case atStart => exact ⟨0, Nat.zero_le _, rfl, rfl⟩
  case round =>
    obtain ⟨k, hk, rfl, HA⟩ := hrel
    by_cases hlt : k < s.size
    · have HT := Lib.hid (take_snoc s k hlt)
      have HW := Lib.hid (inWord_run s[k])
      have hQ : (((s[k].toNat : Nat) : Int) == 46) = (s[k] == 46) := byte_beq_lit s[k] 46 (by omega)
      by_cases h46 : s[k] = 46
      · have h46' : (((s[k].toNat : Nat) : Int) == 46) = true := by rw [hQ]; simpa using h46
        have H46 := Lib.hid h46
        clear h46 hQ
        go_wp2_with (go_at_call 189; refine (inRun_any _ _).mono ?_; rintro e w' ⟨rfl, rfl⟩)
        go_ret
        refine ⟨ret_bool ?_, rfl⟩
        have hm : s[k] ∈ s.data.toList := List.getElem_mem (l := s.data.toList) (by simpa using hlt)
        have : s.data.toList.all inWord = false := by rw [List.all_eq_false]; exact ⟨_, hm, by rw [H46.out]; decide⟩
        simp [wordP, this]
      · have h46' : (((s[k].toNat : Nat) : Int) == 46) = false := by rw [hQ]; simpa using h46
        have H46 := Lib.hid (show (s[k] == 46) = false by simpa using h46)
        clear h46 hQ
        by_cases hr : inRun s[k] = true
        · have HI := Lib.hid (show inWord s[k] = true by rw [HW.out, hr, H46.out]; rfl)
          go_wp2_with (go_at_call 189; refine (inRun_any _ _).mono ?_; rintro e w' ⟨rfl, rfl⟩)
          go_round
          case rel => exact ⟨k + 1, by omega, by go_num, by unfold Hid; rw [HT.out]; simp [HA.out, HI.out]⟩
          case measure => simp [intOf]; omega
        · have hr : inRun s[k] = false := by simpa using hr
          have HI := Lib.hid (show inWord s[k] = false by rw [HW.out, hr]; rfl)
          go_wp2_with (go_at_call 189; refine (inRun_any _ _).mono ?_; rintro e w' ⟨rfl, rfl⟩)
          go_ret
          refine ⟨ret_bool ?_, rfl⟩
          have hm : s[k] ∈ s.data.toList := List.getElem_mem (l := s.data.toList) (by simpa using hlt)
          have : s.data.toList.all inWord = false := by rw [List.all_eq_false]; exact ⟨_, hm, by rw [HI.out]; decide⟩
          simp [wordP, this]
    · have HT := Lib.hid (take_all s k hlt)
      have HAll := Lib.hid (show s.data.toList.all inWord = true by have := HA.out; rw [HT.out] at this; exact this)
      by_cases hz : s.size = 0
      · have HZ := Lib.hid (show s.data.toList = [] from List.eq_nil_of_length_eq_zero (by simpa using hz))
        have hz1 : s.toList.isEmpty = true := by rw [isEmpty_data, HZ.out]; rfl
        have hz2 : s.toList = [] := by simpa using hz1
        go_wp2_with fail
        go_ret
        exact ⟨ret_bool (by rw [HZ.out]; rfl), rfl⟩
      · have h0 : 0 < s.size := by omega
        have HN := Lib.hid (show s.data.toList ≠ [] from fun h => hz (by have := congrArg List.length h; simpa using this))
        have hz1 : s.toList.isEmpty = false := by rw [isEmpty_data]; simpa using HN.out
        have HH := Lib.hid (headLetter_eq s h0)
        clear hz
        go_wp2_with (go_at_call 190; refine (isLetter_any _ _).mono ?_; rintro e w' ⟨rfl, rfl⟩)
        go_ret
        exact ⟨ret_bool (by simp [wordP, HAll.out, HH.out]), rfl⟩

theorem inNum_ways (c : UInt8) (h46 : (c == 46) = false) : inNum c = isDigit c := by unfold inNum; rw [h46]; rfl
theorem countP_snoc (l : List UInt8) (c : UInt8) : (l ++ [c]).countP isDigit = l.countP isDigit + if isDigit c then 1 else 0 := by
  rw [List.countP_append]; simp [List.countP_cons]
theorem count_snoc (l : List UInt8) (c : UInt8) : (l ++ [c]).count 46 = l.count 46 + if c == 46 then 1 else 0 := by
  rw [List.count_append, List.count_singleton]

/-- What the reference's 'numeric' leaves. -/
def NumPost (l : List UInt8) (w : World) (e : Ending) (w' : World) : Prop :=
  e = .returned (.tuple #[.int .i64 (numN l), .bool (decide (0 < numN l))]) ∧ w = w'

set_option maxHeartbeats 1600000 in
theorem numeric_any (s : ByteArray) (w : World) (hs : s.size ≤ maxLen) :
    Calls Tryz.prog 169 #[.string s] w (NumPost s.data.toList w) := by
  unfold maxLen at hs
  go_enter Tryz.func169, Tryz.ntmps169
  go_wp2_with fail
  go_loop [4, 5, 6] (fun p d i => ∃ k : Nat, k ≤ s.size ∧ i = .int .i64 k ∧ (∃ pn dn : Nat, p = .int .i64 pn ∧ d = .int .i64 dn ∧ pn ≤ k ∧ dn ≤ k ∧ Hid (pn = (s.data.toList.take k).count 46 ∧ dn = (s.data.toList.take k).countP isDigit ∧ (s.data.toList.take k).all inNum = true))) (fun _ _ i => s.size - (intOf i).toNat)
  case atStart => exact ⟨0, Nat.zero_le _, rfl, 0, 0, rfl, rfl, by omega, by omega, by unfold Hid; simp⟩
  case round =>
    obtain ⟨k, hk, rfl, pn, dn, rfl, rfl, hpk, hdk, HA⟩ := hrel
    by_cases hlt : k < s.size
    · have HT := Lib.hid (take_snoc s k hlt)
      have hQ : (((s[k].toNat : Nat) : Int) == 46) = (s[k] == 46) := byte_beq_lit s[k] 46 (by omega)
      by_cases h46 : s[k] = 46
      · have h46' : (((s[k].toNat : Nat) : Int) == 46) = true := by rw [hQ]; simpa using h46
        have H46 := Lib.hid h46
        clear h46 hQ
        go_wp2_with (go_at_call 191; refine (isDigit_any _ _).mono ?_; rintro e w' ⟨rfl, rfl⟩)
        go_round
        case rel =>
          refine ⟨k + 1, by omega, by go_num, pn + 1, dn, by go_num, rfl, by omega, by omega, ?_⟩
          unfold Hid
          rw [HT.out, count_snoc, countP_snoc, List.all_append, ← HA.out.1, ← HA.out.2.1, HA.out.2.2, H46.out]
          simp [show isDigit 46 = false by decide, show inNum 46 = true by decide]
        case measure => simp [intOf]; omega
      · have h46' : (((s[k].toNat : Nat) : Int) == 46) = false := by rw [hQ]; simpa using h46
        have H46 := Lib.hid (show (s[k] == 46) = false by simpa using h46)
        clear h46 hQ
        have HI := Lib.hid (inNum_ways _ H46.out)
        by_cases hd : isDigit s[k] = true
        · go_wp2_with (go_at_call 191; refine (isDigit_any _ _).mono ?_; rintro e w' ⟨rfl, rfl⟩)
          go_round
          case rel =>
            refine ⟨k + 1, by omega, by go_num, pn, dn + 1, rfl, by go_num, by omega, by omega, ?_⟩
            unfold Hid
            rw [HT.out, count_snoc, countP_snoc, List.all_append, ← HA.out.1, ← HA.out.2.1, HA.out.2.2, H46.out]
            simp [hd, HI.out]
          case measure => simp [intOf]; omega
        · have hd : isDigit s[k] = false := by simpa using hd
          have HF := Lib.hid (show numN s.data.toList = 0 from numN_bad _ s[k] (List.getElem_mem (l := s.data.toList) (by simpa using hlt)) (by rw [HI.out]; exact hd))
          go_wp2_with (go_at_call 191; refine (isDigit_any _ _).mono ?_; rintro e w' ⟨rfl, rfl⟩)
          go_ret2
          exact ⟨by rw [HF.out]; rfl, rfl⟩
    · have HT := Lib.hid (take_all s k hlt)
      have HG := Lib.hid (show numN s.data.toList = if s.data.toList.count 46 ≤ 1 ∧ s.data.toList ≠ [] ∧ s.data.toList.head? ≠ some 46 ∧ s.data.toList.getLast? ≠ some 46 then s.data.toList.countP isDigit else 0 by
        have h := HA.out.2.2; rw [HT.out] at h; exact numN_good _ h)
      have HP := Lib.hid (show pn = s.data.toList.count 46 by have := HA.out.1; rw [HT.out] at this; exact this)
      have HD := Lib.hid (show dn = s.data.toList.countP isDigit by have := HA.out.2.1; rw [HT.out] at this; exact this)
      by_cases hp1 : 1 < pn
      · have HF := Lib.hid (show numN s.data.toList = 0 by rw [HG.out, if_neg]; intro h; have := h.1; rw [← HP.out] at this; omega)
        go_wp2_with fail
        go_ret2
        exact ⟨by rw [HF.out]; rfl, rfl⟩
      by_cases hz : s.size = 0
      · have HZ := Lib.hid (show s.data.toList = [] from List.eq_nil_of_length_eq_zero (by simpa using hz))
        have hz1 : s.toList.isEmpty = true := by rw [isEmpty_data, HZ.out]; rfl
        have hz2 : s.toList = [] := by simpa using hz1
        have HF := Lib.hid (show numN s.data.toList = 0 by rw [HZ.out]; rfl)
        go_wp2_with fail
        go_ret2
        exact ⟨by rw [HF.out]; rfl, rfl⟩
      have h0 : 0 < s.size := by omega
      have HN := Lib.hid (show s.data.toList ≠ [] from fun h => hz (by have := congrArg List.length h; simpa using this))
      have hz1 : s.toList.isEmpty = false := by rw [isEmpty_data]; simpa using HN.out
      have HH := Lib.hid (show s.data.toList.head? = some s[0] by have := drop_cons s 0 h0; rw [List.drop_zero] at this; rw [this]; rfl)
      have HLs := Lib.hid (show s.data.toList.getLast? = some s[s.size - 1] by
        rw [List.getLast?_eq_getElem?, length_data, List.getElem?_eq_getElem (by simp; omega)]; rfl)
      clear hz
      have hQ : (((s[0].toNat : Nat) : Int) == 46) = (s[0] == 46) := byte_beq_lit s[0] 46 (by omega)
      by_cases a1 : s[0] = 46
      · have a1' : (((s[0].toNat : Nat) : Int) == 46) = true := by rw [hQ]; simpa using a1
        have HF := Lib.hid (show numN s.data.toList = 0 by rw [HG.out, if_neg]; intro h; exact h.2.2.1 (by rw [HH.out, a1]))
        clear a1 hQ
        go_wp2_with fail
        go_ret2
        exact ⟨by rw [HF.out]; rfl, rfl⟩
      have a1' : (((s[0].toNat : Nat) : Int) == 46) = false := by rw [hQ]; simpa using a1
      have HA1 := Lib.hid a1
      clear a1 hQ
      have hpd : decide ((1 : Int) < pn) = false := by simp; omega
      have hQ2 : (((s[s.size - 1].toNat : Nat) : Int) == 46) = (s[s.size - 1] == 46) := byte_beq_lit s[s.size - 1] 46 (by omega)
      by_cases a2 : s[s.size - 1] = 46
      · have a2' : (((s[s.size - 1].toNat : Nat) : Int) == 46) = true := by rw [hQ2]; simpa using a2
        have HF := Lib.hid (show numN s.data.toList = 0 by rw [HG.out, if_neg]; intro h; exact h.2.2.2 (by rw [HLs.out, a2]))
        clear a2 hQ2
        go_wp2_with fail
        go_ret2
        exact ⟨by rw [HF.out]; rfl, rfl⟩
      · have a2' : (((s[s.size - 1].toNat : Nat) : Int) == 46) = false := by rw [hQ2]; simpa using a2
        have HF := Lib.hid (show numN s.data.toList = dn by
          rw [HG.out, if_pos, HD.out]
          refine ⟨by rw [← HP.out]; omega, HN.out, ?_, ?_⟩
          · rw [HH.out]; intro h; injection h with h; exact HA1.out h
          · rw [HLs.out]; intro h; injection h with h; exact a2 h)
        have HPos := Lib.hid (show 0 < dn by
          rw [HD.out, List.countP_pos_iff]
          have hm : s[0] ∈ s.data.toList := List.getElem_mem (l := s.data.toList) (by simpa using h0)
          refine ⟨s[0], hm, ?_⟩
          have h := HA.out.2.2
          rw [HT.out, List.all_eq_true] at h
          have h := h _ hm
          rw [inNum_ways _ (by simpa using HA1.out)] at h
          exact h)
        clear a2 hQ2
        go_wp2_with fail
        go_ret2
        exact ⟨by rw [HF.out]; simp [HPos.out], rfl⟩

set_option maxHeartbeats 800000 in
theorem rkind_any (s : ByteArray) (w : World) (hs : s.size ≤ maxLen) :
    Calls Tryz.prog 133 #[.string s] w fun e w' => e = .returned (.tuple #[.int .i64 (kindOf s.data.toList).1, .int .i64 (kindOf s.data.toList).2]) ∧ w = w' := by
  have HK := Lib.hid (show kindOf s.data.toList = if wordP s.data.toList then (if 20 < s.size then (0, 5) else (1, 0)) else if numN s.data.toList = 0 then (0, 3) else if 18 < numN s.data.toList then (0, 5) else (2, 0) by rw [kindOf_ref, length_data])
  have hb : s.size ≤ maxLen := hs
  unfold maxLen at hb
  obtain ⟨r, hr⟩ : ∃ r, r = kindOf s.data.toList := ⟨_, rfl⟩
  have HR := Lib.hid hr
  rw [← hr]
  clear hr
  by_cases hw : wordP s.data.toList = true
  · by_cases hl : 20 < s.size
    · have HF := Lib.hid (show r = (0, 5) by rw [HR.out, HK.out, if_pos hw, if_pos hl])
      go_enter Tryz.func133, Tryz.ntmps133
      go_wp2_with (go_at_call 168; refine (wordly_any _ _ hs).mono ?_; rintro e w' ⟨rfl, rfl⟩)
      go_ret2
      exact ⟨by rw [HF.out]; rfl, rfl⟩
    · have HF := Lib.hid (show r = (1, 0) by rw [HR.out, HK.out, if_pos hw, if_neg hl])
      go_enter Tryz.func133, Tryz.ntmps133
      go_wp2_with (go_at_call 168; refine (wordly_any _ _ hs).mono ?_; rintro e w' ⟨rfl, rfl⟩)
      go_ret2
      exact ⟨by rw [HF.out]; rfl, rfl⟩
  · have hw' : wordP s.data.toList = false := by simpa using hw
    by_cases h0 : numN s.data.toList = 0
    · have HF := Lib.hid (show r = (0, 3) by rw [HR.out, HK.out, if_neg hw, if_pos h0])
      have hd : decide (0 < numN s.data.toList) = false := by simp; omega
      have H0 := Lib.hid h0
      clear h0 hw
      go_enter Tryz.func133, Tryz.ntmps133
      go_wp2_with (first | (go_at_call 168; refine (wordly_any _ _ hs).mono ?_; rintro e w' ⟨rfl, rfl⟩) | (go_at_call 169; refine (numeric_any _ _ hs).mono ?_; unfold NumPost; rintro e w' ⟨rfl, rfl⟩))
      go_ret2
      exact ⟨by rw [HF.out]; rfl, rfl⟩
    · have hd : decide (0 < numN s.data.toList) = true := by simp; omega
      by_cases h18 : 18 < numN s.data.toList
      · have HF := Lib.hid (show r = (0, 5) by rw [HR.out, HK.out, if_neg hw, if_neg h0, if_pos h18])
        have h18' : (18 : Int) < numN s.data.toList := by omega
        clear h0 hw
        go_enter Tryz.func133, Tryz.ntmps133
        go_wp2_with (first | (go_at_call 168; refine (wordly_any _ _ hs).mono ?_; rintro e w' ⟨rfl, rfl⟩) | (go_at_call 169; refine (numeric_any _ _ hs).mono ?_; unfold NumPost; rintro e w' ⟨rfl, rfl⟩))
        go_ret2
        exact ⟨by rw [HF.out]; rfl, rfl⟩
      · have HF := Lib.hid (show r = (2, 0) by rw [HR.out, HK.out, if_neg hw, if_neg h0, if_neg h18])
        have h18' : ¬ (18 : Int) < numN s.data.toList := by omega
        clear h0 hw
        go_enter Tryz.func133, Tryz.ntmps133
        go_wp2_with (first | (go_at_call 168; refine (wordly_any _ _ hs).mono ?_; rintro e w' ⟨rfl, rfl⟩) | (go_at_call 169; refine (numeric_any _ _ hs).mono ?_; unfold NumPost; rintro e w' ⟨rfl, rfl⟩))
        go_ret2
        exact ⟨by rw [HF.out]; rfl, rfl⟩
end Go.Proofs.YtoogeihbhhcpaaaGreatDoor
namespace Go.Proofs.YtoogeihbhhcpaaaGreatDoor
open Go.RowKit Go.Fl Go.Fl.Lx

section
variable {w wr : World} {s : ByteArray} {i n ln co : Nat} {toks : List Tok} {ov : Value}
end

end Go.Proofs.YtoogeihbhhcpaaaGreatDoor
namespace Go.Proofs.YtoogeihbhhcpaaaGreatDoor
open Go.RowKit Go.Fl Go.Fl.Lx

theorem slIndexByte (s : ByteArray) (c : Int) (w : World) :
    Calls Tryz.prog 197 #[.string s, .int .u8 c] w fun e w' => e = .returned (.int .i64 (Lib.indexByte s.data.toList c.toNat.toUInt8)) ∧ w = w' := by
  go_enter Tryz.func197, Tryz.ntmps197
  have he := fun w => run_callFunc_extern (w := w) Tryz.func200 (by kernel_rfl) (by kernel_rfl) (by kernel_rfl) (e := Extern.BytealgIndexByte.indexByte) (by kernel_rfl) #[.string s, .int .u8 c]
  simp only [Lib.run_indexByteString, Result.andThen] at he
  go_wp2_with fail
  go_ret
  exact ⟨rfl, rfl⟩

theorem sIndexByte (s : ByteArray) (c : Int) (w : World) :
    Calls Tryz.prog 183 #[.string s, .int .u8 c] w fun e w' => e = .returned (.int .i64 (Lib.indexByte s.data.toList c.toNat.toUInt8)) ∧ w = w' := by
  go_enter Tryz.func183, Tryz.ntmps183
  go_wp2_with (go_at_call 197; refine (slIndexByte _ _ _).mono ?_; rintro e w' ⟨rfl, rfl⟩)
  go_ret
  exact ⟨rfl, rfl⟩


theorem u8_ofNat (b : UInt8) : (b.toNat : Int).toNat.toUInt8 = b := by simp

theorem class_any (b : UInt8) (w : World) :
    Calls Tryz.prog 160 #[.int .u8 b.toNat] w fun e w' => e = .returned (.int .i64 (cls b)) ∧ w = w' := by
  have hlt : (b.toNat : Int) < 256 := by have := b.toNat_lt; omega
  have h0 : (0 : Int) ≤ b.toNat := by omega
  obtain ⟨c, hc⟩ : ∃ c : Int, c = b.toNat := ⟨_, rfl⟩
  have HC := Lib.hid hc
  rw [← hc] at hlt h0 ⊢
  have HB := Lib.hid (show c.toNat.toUInt8 = b by rw [hc]; exact u8_ofNat b)
  have HIX := Lib.hid (show (0 ≤ Lib.indexByte syms b) ↔ isSym b = true by rw [indexByte_nonneg]; unfold isSym; simp)
  have hbn : b.toNat = c.toNat := by omega
  have HBN := Lib.hid hbn
  clear hc hbn
  by_cases g1 : c = 32 ∨ c = 9 ∨ c = 13 ∨ c = 10
  · have HR := Lib.hid (show cls b = 1 by rw [← HB.out]; rcases g1 with h | h | h | h <;> rw [h] <;> decide)
    rcases g1 with rfl | rfl | rfl | rfl
    all_goals
      go_enter Tryz.func160, Tryz.ntmps160
      go_wp2_with fail
      go_ret
      exact ⟨by rw [HR.out]; rfl, rfl⟩
  have e1 : (c == 32) = false := by rw [beq_eq_false_iff_ne]; omega
  have e2 : (c == 9) = false := by rw [beq_eq_false_iff_ne]; omega
  have e3 : (c == 13) = false := by rw [beq_eq_false_iff_ne]; omega
  have e4 : (c == 10) = false := by rw [beq_eq_false_iff_ne]; omega
  have HNB := Lib.hid (show isBlank b = false by simp [isBlank, ← UInt8.toNat_inj]; rw [HBN.out]; omega)
  clear g1
  by_cases g2 : (97 ≤ c ∧ c ≤ 122) ∨ (65 ≤ c ∧ c ≤ 90)
  · have HL := Lib.hid (show isLetter b = true by simp [isLetter, UInt8.le_iff_toNat_le]; rw [HBN.out]; omega)
    have HR := Lib.hid (show cls b = 2 by simp [cls, HNB.out, HL.out])
    rcases g2 with ⟨g2, g3⟩ | ⟨g2, g3⟩
    all_goals
      go_enter Tryz.func160, Tryz.ntmps160
      go_wp2_with fail
      go_ret
      exact ⟨by rw [HR.out]; rfl, rfl⟩
  have HNL := Lib.hid (show isLetter b = false by simp [isLetter, UInt8.le_iff_toNat_le]; rw [HBN.out]; omega)
  by_cases g3 : 48 ≤ c ∧ c ≤ 57
  · have HL := Lib.hid (show isDigit b = true by simp [isDigit, UInt8.le_iff_toNat_le]; rw [HBN.out]; omega)
    have HR := Lib.hid (show cls b = 3 by simp [cls, HNB.out, HL.out, HNL.out])
    obtain ⟨g3, g4⟩ := g3
    clear g2
    go_enter Tryz.func160, Tryz.ntmps160
    go_wp2_with fail
    go_ret
    exact ⟨by rw [HR.out]; rfl, rfl⟩
  have HND := Lib.hid (show isDigit b = false by simp [isDigit, UInt8.le_iff_toNat_le]; rw [HBN.out]; omega)
  by_cases g4 : c = 95
  · have HR := Lib.hid (show cls b = 4 by rw [← HB.out, g4]; decide)
    subst g4
    go_enter Tryz.func160, Tryz.ntmps160
    go_wp2_with fail
    go_ret
    exact ⟨by rw [HR.out]; rfl, rfl⟩
  by_cases g5 : c = 46
  · have HR := Lib.hid (show cls b = 5 by rw [← HB.out, g5]; decide)
    subst g5
    go_enter Tryz.func160, Tryz.ntmps160
    go_wp2_with fail
    go_ret
    exact ⟨by rw [HR.out]; rfl, rfl⟩
  have HN4 := Lib.hid (show (b == 95) = false by simp [← UInt8.toNat_inj]; rw [HBN.out]; omega)
  have HN5 := Lib.hid (show (b == 46) = false by simp [← UInt8.toNat_inj]; rw [HBN.out]; omega)
  have HR := Lib.hid (show cls b = if isSym b then 6 else 0 by simp [cls, HNB.out, HNL.out, HND.out, HN4.out, HN5.out])
  have e5 : (c == 95) = false := by rw [beq_eq_false_iff_ne]; omega
  have e6 : (c == 46) = false := by rw [beq_eq_false_iff_ne]; omega
  have hx : Lib.indexByte syms b = Lib.indexByte [40, 41, 91, 93, 123, 125, 44, 59, 58, 39, 61, 43, 45, 42, 47, 94] c.toNat.toUInt8 := by rw [HB.out]; rfl
  have HX := Lib.hid hx
  clear hx
  rcases (by omega : c < 48 ∨ (58 ≤ c ∧ c ≤ 64) ∨ (91 ≤ c ∧ c ≤ 96) ∨ 123 ≤ c) with h | ⟨h, h'⟩ | ⟨h, h'⟩ | h
  all_goals
    clear g2 g3 g4 g5
    go_enter Tryz.func160, Tryz.ntmps160
    go_wp2_with (go_at_call 183; refine (sIndexByte _ _ _).mono ?_; rintro e w' ⟨rfl, rfl⟩)
    · have hh : 0 ≤ Lib.indexByte [40, 41, 91, 93, 123, 125, 44, 59, 58, 39, 61, 43, 45, 42, 47, 94] c.toNat.toUInt8 := by assumption
      go_ret
      exact ⟨by rw [HR.out, if_pos (HIX.out.1 (by rw [HX.out]; exact hh))]; rfl, rfl⟩
    · have hh : Lib.indexByte [40, 41, 91, 93, 123, 125, 44, 59, 58, 39, 61, 43, 45, 42, 47, 94] c.toNat.toUInt8 < 0 := by assumption
      go_ret
      exact ⟨by rw [HR.out, if_neg (fun h => by have := HIX.out.2 h; rw [HX.out] at this; omega)]; rfl, rfl⟩
end Go.Proofs.YtoogeihbhhcpaaaGreatDoor
namespace Go.Proofs.YtoogeihbhhcpaaaGreatDoor
open Go.RowKit Go.Fl Go.Fl.Lx

theorem headLetter_of (s : ByteArray) (h : 0 < s.size) : headLetter s.data.toList = isLetter s[0] := by
  have := drop_cons s 0 h
  rw [List.drop_zero] at this
  rw [this]; rfl

set_option maxHeartbeats 800000 in
theorem word_any (s : ByteArray) (w : World) (hs : s.size ≤ maxLen) :
    Calls Tryz.prog 123 #[.string s] w fun e w' => e = .returned (.bool (wordP s.data.toList)) ∧ w = w' := by
  unfold maxLen at hs
  by_cases hz : s.size = 0
  · have HZ := Lib.hid (show s.data.toList = [] from List.eq_nil_of_length_eq_zero (by simpa using hz))
    have hz1 : s.toList.isEmpty = true := by rw [isEmpty_data, HZ.out]; rfl
    have hz2 : s.toList = [] := by simpa using hz1
    clear hz
    go_enter Tryz.func123, Tryz.ntmps123
    go_wp2_with fail
    go_ret
    exact ⟨ret_bool (by rw [HZ.out]; rfl), rfl⟩
  have h0 : 0 < s.size := by omega
  have HN := Lib.hid (show s.data.toList ≠ [] from fun h => hz (by have := congrArg List.length h; simpa using this))
  have hz1 : s.toList.isEmpty = false := by rw [isEmpty_data]; simpa using HN.out
  have HH := Lib.hid (headLetter_of s h0)
  have HC0 := Lib.hid (cls_ne2 s[0])
  clear hz
  by_cases hl : isLetter s[0] = true
  · have hcc : (((cls s[0] : Nat) : Int) != 2) = false := by rw [HC0.out, hl]; rfl
    have HL := Lib.hid hl
    clear hl
    go_enter Tryz.func123, Tryz.ntmps123
    go_wp2_with (go_at_call 160; refine (class_any _ _).mono ?_; rintro e w' ⟨rfl, rfl⟩)
    go_loop [15] (fun i => ∃ k : Nat, k ≤ s.size ∧ i = .int .i64 k ∧ (s.data.toList.take k).all inWord = true) (fun i => s.size - (intOf i).toNat)
    case atStart => exact ⟨0, Nat.zero_le _, rfl, rfl⟩
    case round =>
      obtain ⟨k, hk, rfl, hall⟩ := hrel
      have HA := Lib.hid hall
      clear hall
      by_cases hlt : k < s.size
      · have HT := Lib.hid (take_snoc s k hlt)
        rcases cls_word_ways s[k] with ⟨hw, h⟩ | ⟨hw, h2, h3, h4⟩
        · have HW := Lib.hid hw
          clear hw
          rcases h with h2 | ⟨h2, h3⟩ | ⟨h2, h3, h4⟩
          all_goals
            go_wp2_with (go_at_call 160; refine (class_any _ _).mono ?_; rintro e w' ⟨rfl, rfl⟩)
            go_round
            case rel => exact ⟨k + 1, by omega, by go_num, by rw [HT.out]; simp [HA.out, HW.out]⟩
            case measure => simp [intOf]; omega
        · have HW := Lib.hid hw
          clear hw
          go_wp2_with (go_at_call 160; refine (class_any _ _).mono ?_; rintro e w' ⟨rfl, rfl⟩)
          go_ret
          refine ⟨ret_bool ?_, rfl⟩
          have hm : s[k] ∈ s.data.toList := List.getElem_mem (l := s.data.toList) (by simpa using hlt)
          have : s.data.toList.all inWord = false := by rw [List.all_eq_false]; exact ⟨_, hm, by rw [HW.out]; simp⟩
          simp [wordP, this]
      · have HT := Lib.hid (take_all s k hlt)
        go_wp2_with fail
        go_ret
        refine ⟨ret_bool ?_, rfl⟩
        have := HA.out
        rw [HT.out] at this
        simp [wordP, this, HH.out, HL.out]
  · have hcc : (((cls s[0] : Nat) : Int) != 2) = true := by rw [HC0.out]; simpa using hl
    have HL := Lib.hid hl
    clear hl
    go_enter Tryz.func123, Tryz.ntmps123
    go_wp2_with (go_at_call 160; refine (class_any _ _).mono ?_; rintro e w' ⟨rfl, rfl⟩)
    go_ret
    refine ⟨ret_bool ?_, rfl⟩
    simp [wordP, HH.out]
    intro h; exact absurd h HL.out

end Go.Proofs.YtoogeihbhhcpaaaGreatDoor
namespace Go.Proofs.YtoogeihbhhcpaaaGreatDoor
open Go.RowKit Go.Fl Go.Fl.Lx

end Go.Proofs.YtoogeihbhhcpaaaGreatDoor
namespace Go.Proofs.YtoogeihbhhcpaaaGreatDoor
open Go.RowKit Go.Fl Go.Fl.Lx

end Go.Proofs.YtoogeihbhhcpaaaGreatDoor
namespace Go.Proofs.YtoogeihbhhcpaaaGreatDoor
open Go.RowKit Go.Fl Go.Fl.Lx

section
variable {w wr : World} {s rest t' : ByteArray} {ln co n : Nat} {toks : List Tok} {ov : Value}
end

section
variable {w wr w1 w2 : World} {s rest t' : ByteArray} {ln co n : Nat} {toks : List Tok} {ov ov' : Value}
end

end Go.Proofs.YtoogeihbhhcpaaaGreatDoor
namespace Go.Proofs.YtoogeihbhhcpaaaGreatDoor
open Go.RowKit Go.Fl Go.Fl.Lx

end Go.Proofs.YtoogeihbhhcpaaaGreatDoor
namespace Go.Proofs.YtoogeihbhhcpaaaGreatDoor
open Go.RowKit Go.Fl Go.Fl.Lx

end Go.Proofs.YtoogeihbhhcpaaaGreatDoor
namespace Go.Proofs.YtoogeihbhhcpaaaGreatDoor
open Go.RowKit Go.Fl Go.Fl.Lx

def kws : List (List UInt8) := [[115, 116, 97, 116, 101], [112, 97, 114, 97, 109], [105, 110], [109, 111, 100, 101], [119, 104, 101, 110], [114, 105, 115, 101, 115], [102, 97, 108, 108, 115], [103, 111, 116, 111], [119, 105, 116, 104], [116, 105, 109, 101], [101, 120, 112], [108, 111, 103], [115, 105, 110], [99, 111, 115], [115, 113, 114, 116]]
def kwP (l : List UInt8) : Bool := kws.contains l

theorem beq_list_t (s : ByteArray) (l : List UInt8) (h : s.data.toList = l) : (s.toList == l) = true := by rw [ByteArray.toList_eq, h]; simp
theorem beq_list_f (s : ByteArray) (l : List UInt8) (h : s.data.toList ≠ l) : (s.toList == l) = false := by rw [ByteArray.toList_eq, beq_eq_false_iff_ne]; exact h
set_option maxHeartbeats 1600000 in
theorem keyword_any (s : ByteArray) (w : World) :
    Calls Tryz.prog 124 #[.string s] w fun e w' => e = .returned (.bool (kwP s.data.toList)) ∧ w = w' := by
  by_cases h0 : s.data.toList = [115, 116, 97, 116, 101]
  · have HF := Lib.hid (show kwP s.data.toList = true by rw [h0]; decide)
    have e0 := beq_list_t s _ h0
    clear h0
    go_enter Tryz.func124, Tryz.ntmps124
    go_wp2_with fail
    go_ret
    exact ⟨ret_bool (by rw [HF.out]), rfl⟩
  have H0 := Lib.hid h0
  have e0 := beq_list_f s _ h0
  clear h0
  by_cases h1 : s.data.toList = [112, 97, 114, 97, 109]
  · have HF := Lib.hid (show kwP s.data.toList = true by rw [h1]; decide)
    have e1 := beq_list_t s _ h1
    clear h1
    go_enter Tryz.func124, Tryz.ntmps124
    go_wp2_with fail
    go_ret
    exact ⟨ret_bool (by rw [HF.out]), rfl⟩
  have H1 := Lib.hid h1
  have e1 := beq_list_f s _ h1
  clear h1
  by_cases h2 : s.data.toList = [105, 110]
  · have HF := Lib.hid (show kwP s.data.toList = true by rw [h2]; decide)
    have e2 := beq_list_t s _ h2
    clear h2
    go_enter Tryz.func124, Tryz.ntmps124
    go_wp2_with fail
    go_ret
    exact ⟨ret_bool (by rw [HF.out]), rfl⟩
  have H2 := Lib.hid h2
  have e2 := beq_list_f s _ h2
  clear h2
  by_cases h3 : s.data.toList = [109, 111, 100, 101]
  · have HF := Lib.hid (show kwP s.data.toList = true by rw [h3]; decide)
    have e3 := beq_list_t s _ h3
    clear h3
    go_enter Tryz.func124, Tryz.ntmps124
    go_wp2_with fail
    go_ret
    exact ⟨ret_bool (by rw [HF.out]), rfl⟩
  have H3 := Lib.hid h3
  have e3 := beq_list_f s _ h3
  clear h3
  by_cases h4 : s.data.toList = [119, 104, 101, 110]
  · have HF := Lib.hid (show kwP s.data.toList = true by rw [h4]; decide)
    have e4 := beq_list_t s _ h4
    clear h4
    go_enter Tryz.func124, Tryz.ntmps124
    go_wp2_with fail
    go_ret
    exact ⟨ret_bool (by rw [HF.out]), rfl⟩
  have H4 := Lib.hid h4
  have e4 := beq_list_f s _ h4
  clear h4
  by_cases h5 : s.data.toList = [114, 105, 115, 101, 115]
  · have HF := Lib.hid (show kwP s.data.toList = true by rw [h5]; decide)
    have e5 := beq_list_t s _ h5
    clear h5
    go_enter Tryz.func124, Tryz.ntmps124
    go_wp2_with fail
    go_ret
    exact ⟨ret_bool (by rw [HF.out]), rfl⟩
  have H5 := Lib.hid h5
  have e5 := beq_list_f s _ h5
  clear h5
  by_cases h6 : s.data.toList = [102, 97, 108, 108, 115]
  · have HF := Lib.hid (show kwP s.data.toList = true by rw [h6]; decide)
    have e6 := beq_list_t s _ h6
    clear h6
    go_enter Tryz.func124, Tryz.ntmps124
    go_wp2_with fail
    go_ret
    exact ⟨ret_bool (by rw [HF.out]), rfl⟩
  have H6 := Lib.hid h6
  have e6 := beq_list_f s _ h6
  clear h6
  by_cases h7 : s.data.toList = [103, 111, 116, 111]
  · have HF := Lib.hid (show kwP s.data.toList = true by rw [h7]; decide)
    have e7 := beq_list_t s _ h7
    clear h7
    go_enter Tryz.func124, Tryz.ntmps124
    go_wp2_with fail
    go_ret
    exact ⟨ret_bool (by rw [HF.out]), rfl⟩
  have H7 := Lib.hid h7
  have e7 := beq_list_f s _ h7
  clear h7
  by_cases h8 : s.data.toList = [119, 105, 116, 104]
  · have HF := Lib.hid (show kwP s.data.toList = true by rw [h8]; decide)
    have e8 := beq_list_t s _ h8
    clear h8
    go_enter Tryz.func124, Tryz.ntmps124
    go_wp2_with fail
    go_ret
    exact ⟨ret_bool (by rw [HF.out]), rfl⟩
  have H8 := Lib.hid h8
  have e8 := beq_list_f s _ h8
  clear h8
  by_cases h9 : s.data.toList = [116, 105, 109, 101]
  · have HF := Lib.hid (show kwP s.data.toList = true by rw [h9]; decide)
    have e9 := beq_list_t s _ h9
    clear h9
    go_enter Tryz.func124, Tryz.ntmps124
    go_wp2_with fail
    go_ret
    exact ⟨ret_bool (by rw [HF.out]), rfl⟩
  have H9 := Lib.hid h9
  have e9 := beq_list_f s _ h9
  clear h9
  by_cases h10 : s.data.toList = [101, 120, 112]
  · have HF := Lib.hid (show kwP s.data.toList = true by rw [h10]; decide)
    have e10 := beq_list_t s _ h10
    clear h10
    go_enter Tryz.func124, Tryz.ntmps124
    go_wp2_with fail
    go_ret
    exact ⟨ret_bool (by rw [HF.out]), rfl⟩
  have H10 := Lib.hid h10
  have e10 := beq_list_f s _ h10
  clear h10
  by_cases h11 : s.data.toList = [108, 111, 103]
  · have HF := Lib.hid (show kwP s.data.toList = true by rw [h11]; decide)
    have e11 := beq_list_t s _ h11
    clear h11
    go_enter Tryz.func124, Tryz.ntmps124
    go_wp2_with fail
    go_ret
    exact ⟨ret_bool (by rw [HF.out]), rfl⟩
  have H11 := Lib.hid h11
  have e11 := beq_list_f s _ h11
  clear h11
  by_cases h12 : s.data.toList = [115, 105, 110]
  · have HF := Lib.hid (show kwP s.data.toList = true by rw [h12]; decide)
    have e12 := beq_list_t s _ h12
    clear h12
    go_enter Tryz.func124, Tryz.ntmps124
    go_wp2_with fail
    go_ret
    exact ⟨ret_bool (by rw [HF.out]), rfl⟩
  have H12 := Lib.hid h12
  have e12 := beq_list_f s _ h12
  clear h12
  by_cases h13 : s.data.toList = [99, 111, 115]
  · have HF := Lib.hid (show kwP s.data.toList = true by rw [h13]; decide)
    have e13 := beq_list_t s _ h13
    clear h13
    go_enter Tryz.func124, Tryz.ntmps124
    go_wp2_with fail
    go_ret
    exact ⟨ret_bool (by rw [HF.out]), rfl⟩
  have H13 := Lib.hid h13
  have e13 := beq_list_f s _ h13
  clear h13
  by_cases h14 : s.data.toList = [115, 113, 114, 116]
  · have HF := Lib.hid (show kwP s.data.toList = true by rw [h14]; decide)
    have e14 := beq_list_t s _ h14
    clear h14
    go_enter Tryz.func124, Tryz.ntmps124
    go_wp2_with fail
    go_ret
    exact ⟨ret_bool (by rw [HF.out]), rfl⟩
  have H14 := Lib.hid h14
  have e14 := beq_list_f s _ h14
  clear h14
  have HF := Lib.hid (show kwP s.data.toList = false by simp [kwP, kws, H0.out, H1.out, H2.out, H3.out, H4.out, H5.out, H6.out, H7.out, H8.out, H9.out, H10.out, H11.out, H12.out, H13.out, H14.out])
  go_enter Tryz.func124, Tryz.ntmps124
  go_wp2_with fail
  go_ret
  exact ⟨ret_bool (by rw [HF.out]), rfl⟩

def kwCells : List Value := kws.map fun l => .string ⟨l.toArray⟩
theorem reserved_any (w : World) :
    Calls Tryz.prog 170 #[] w fun e w' => e = .returned (.slice (some ⟨w.heap.size, 0, none⟩) 15 15) ∧ w' = w.alloc (.cells kwCells.toArray 9) := by
  go_enter Tryz.func170, Tryz.ntmps170
  go_wp2_with fail
  go_ret
  exact ⟨rfl, rfl⟩

theorem kw_at (j : Nat) (l : List UInt8) (h : kws[j]? = some l) : kwCells[j]? = some (.string ⟨l.toArray⟩) := by simp [kwCells, h]
theorem kw_beq (l : List UInt8) (s : ByteArray) : ((⟨l.toArray⟩ : ByteArray).toList == s.toList) = (l == s.data.toList) := by rw [ByteArray.toList_eq, ByteArray.toList_eq]

set_option maxHeartbeats 400000 in
theorem rkeyword_any (s : ByteArray) (w : World) :
    Calls Tryz.prog 134 #[.string s] w fun e w' => e = .returned (.bool (kwP s.data.toList)) ∧ ∃ o, w' = w.alloc o := by
  go_enter Tryz.func134, Tryz.ntmps134
  go_wp2_with fail
  refine (reserved_any _).mono ?_
  rintro e w1 ⟨rfl, hw1⟩
  have HB := Lib.hid (show Blk w1 w.heap.size 9 kwCells.toArray by rw [hw1]; exact Blk.new w _ _)
  have HW := Lib.hid hw1
  clear hw1
  go_wp2_with fail
  go_loop [4] (fun i => ∃ k : Nat, k ≤ 15 ∧ i = .int .i64 k ∧ Hid (s.data.toList ∉ kws.take k)) (fun i => 15 - (intOf i).toNat)
  case atStart => exact ⟨0, by omega, rfl, by unfold Hid; simp⟩
  case round =>
    obtain ⟨k, hk, rfl, HA⟩ := hrel
    by_cases hlt : k < 15
    · obtain ⟨l, hl⟩ : ∃ l, kws[k]? = some l := ⟨_, List.getElem?_eq_getElem (show k < kws.length from hlt)⟩
      have c0 : w1.cell? ⟨w.heap.size, k, none⟩ = some (.string ⟨l.toArray⟩) := by
        rw [HB.out.cell]; simpa using kw_at k l hl
      have HT := Lib.hid (show kws.take (k + 1) = kws.take k ++ [l] by rw [List.take_add_one, hl]; rfl)
      have HM := Lib.hid (show l ∈ kws from List.mem_of_getElem? hl)
      have HQ := Lib.hid (kw_beq l s)
      clear hl
      by_cases hd : l = s.data.toList
      · have hcc : ((⟨l.toArray⟩ : ByteArray).toList == s.toList) = true := by rw [HQ.out, hd]; simp
        have HD := Lib.hid hd
        clear hd
        generalize (⟨l.toArray⟩ : ByteArray) = lb at *
        go_wp2_with fail
        go_ret
        refine ⟨ret_bool ?_, _, HW.out⟩
        rw [← HD.out]
        exact (by simpa [kwP] using HM.out)
      · have hcc : ((⟨l.toArray⟩ : ByteArray).toList == s.toList) = false := by rw [HQ.out]; simpa using hd
        have HD := Lib.hid hd
        clear hd
        generalize (⟨l.toArray⟩ : ByteArray) = lb at *
        go_wp2_with fail
        go_round
        case rel => exact ⟨k + 1, by omega, by go_num, by unfold Hid; rw [HT.out]; simp [HA.out, Ne.symm HD.out]⟩
        case measure => simp [intOf]; omega
    · have hk15 : k = 15 := by omega
      subst hk15
      go_wp2_with fail
      go_ret
      refine ⟨ret_bool ?_, _, HW.out⟩
      have := HA.out
      rw [show kws.take 15 = kws from rfl] at this
      symm
      simpa [kwP] using this

def nameP (l : List UInt8) : Bool := wordP l && decide (l.length ≤ 20) && !kwP l

set_option maxHeartbeats 400000 in
theorem name_any (s : ByteArray) (w : World) (hs : s.size ≤ maxLen) :
    Calls Tryz.prog 78 #[.string s] w fun e w' => e = .returned (.bool (nameP s.data.toList)) ∧ w = w' := by
  have HE := Lib.hid (show nameP s.data.toList = (wordP s.data.toList && decide (s.size ≤ 20) && !kwP s.data.toList) by unfold nameP; rw [length_data])
  have hs' := hs
  unfold maxLen at hs'
  by_cases hw : wordP s.data.toList = true
  · by_cases hl : s.size ≤ 20
    · go_enter Tryz.func78, Tryz.ntmps78
      go_wp2_with (first | (go_at_call 123; refine (word_any _ _ hs).mono ?_; rintro e w' ⟨rfl, rfl⟩) | (go_at_call 124; refine (keyword_any _ _).mono ?_; rintro e w' ⟨rfl, rfl⟩))
      go_ret
      exact ⟨ret_bool (by rw [HE.out]; simp [hw, hl]), rfl⟩
    · have hld : decide ((s.size : Int) ≤ 20) = false := by simp; omega
      go_enter Tryz.func78, Tryz.ntmps78
      go_wp2_with (first | (go_at_call 123; refine (word_any _ _ hs).mono ?_; rintro e w' ⟨rfl, rfl⟩) | (go_at_call 124; refine (keyword_any _ _).mono ?_; rintro e w' ⟨rfl, rfl⟩))
      go_ret
      exact ⟨ret_bool (by rw [HE.out]; simp [hl]), rfl⟩
  · have hw : wordP s.data.toList = false := by simpa using hw
    go_enter Tryz.func78, Tryz.ntmps78
    go_wp2_with (first | (go_at_call 123; refine (word_any _ _ hs).mono ?_; rintro e w' ⟨rfl, rfl⟩) | (go_at_call 124; refine (keyword_any _ _).mono ?_; rintro e w' ⟨rfl, rfl⟩))
    go_ret
    exact ⟨ret_bool (by rw [HE.out]; simp [hw]), rfl⟩

theorem kind_one (l : List UInt8) : (((kindOf l).1 : Int) == 1) = (wordP l && decide (l.length ≤ 20)) := by
  rw [kindOf_ref]
  by_cases hw : wordP l = true
  · by_cases h : 20 < l.length
    · simp [hw, h]
    · simp [hw, h]; omega
  · simp only [hw]
    by_cases h0 : numN l = 0
    · simp [h0]
    · by_cases h18 : 18 < numN l <;> simp [h0, h18]

theorem rname_any (s : ByteArray) (w : World) (hs : s.size ≤ maxLen) :
    Calls Tryz.prog 89 #[.string s] w fun e w' => e = .returned (.bool (nameP s.data.toList)) ∧ Below w.heap.size w w' := by
  have HE := Lib.hid (show nameP s.data.toList = ((((kindOf s.data.toList).1 : Int) == 1) && !kwP s.data.toList) by rw [kind_one]; rfl)
  obtain ⟨kd, er, hke⟩ : ∃ kd er, kindOf s.data.toList = (kd, er) := ⟨_, _, rfl⟩
  rw [hke] at HE
  have HK := Lib.hid hke
  clear hke
  by_cases h1 : ((kd : Int) == 1) = true
  · go_enter Tryz.func89, Tryz.ntmps89
    go_wp2_with fail
    refine (rkind_any _ _ hs).mono ?_
    rw [HK.out]
    rintro e w' ⟨rfl, rfl⟩
    go_wp2_with fail
    refine (rkeyword_any _ _).mono ?_
    rintro e w' ⟨rfl, o, rfl⟩
    go_wp2_with fail
    go_ret
    exact ⟨ret_bool (by rw [HE.out]; simp [h1]), (Below.refl _ _).alloc (Nat.le_refl _) _⟩
  · have h1 : ((kd : Int) == 1) = false := by simpa using h1
    go_enter Tryz.func89, Tryz.ntmps89
    go_wp2_with fail
    refine (rkind_any _ _ hs).mono ?_
    rw [HK.out]
    rintro e w' ⟨rfl, rfl⟩
    go_wp2_with fail
    go_ret
    exact ⟨ret_bool (by rw [HE.out]; simp [h1]), Below.refl _ _⟩

end Go.Proofs.YtoogeihbhhcpaaaGreatDoor
