/-
  Walks: strings.Cut at a point; numbers; kinds of runs.
-/
import Derived.Test.YtlmflomonbcjiaaDoorLexB
namespace Go.Proofs.YtlmflomonbcjiaaDoor
open Go.RowKit Go.Fl Go.Fl.Lx

set_option maxHeartbeats 400000 in
set_option maxRecDepth 100000 in
theorem slIndex1 (s : ByteArray) (c : UInt8) (w : World) :
    Calls Tryd.prog 30 #[.string s, .string ⟨#[c]⟩] w fun e w' => e = .returned (.int .i64 (Lib.indexByte s.data.toList c)) ∧ w = w' := by
  by_cases hq : s.data.toList = [c]
  · have hq2 : ([c] == s.toList) = true := by rw [ByteArray.toList_eq, hq]; simp
    have HQ := Lib.hid hq
    clear hq
    go_enter Tryd.func30, Tryd.ntmps30
    go_wp2_with fail
    go_ret
    exact ⟨ret_int (by rw [HQ.out]; simp [Lib.indexByte]), rfl⟩
  · have hq2 : ([c] == s.toList) = false := by rw [ByteArray.toList_eq, beq_eq_false_iff_ne]; exact fun h => hq h.symm
    clear hq
    go_enter Tryd.func30, Tryd.ntmps30
    go_wp2_with (go_at_call 27; refine (slIndexByte _ _ _).mono ?_; rintro e w' ⟨rfl, rfl⟩)
    go_ret
    exact ⟨rfl, rfl⟩

set_option maxHeartbeats 400000 in
theorem slCut1_no (s : ByteArray) (c : UInt8) (w : World) (h : c ∉ s.data.toList) :
    Calls Tryd.prog 32 #[.string s, .string ⟨#[c]⟩] w fun e w' => e = .returned (.tuple #[.string s, .string ⟨#[]⟩, .bool false]) ∧ w = w' := by
  have hi : Lib.indexByte s.data.toList c < 0 := by
    have h2 := indexByte_nonneg s.data.toList c
    exact Int.not_le.1 fun h3 => h (h2.1 h3)
  go_enter Tryd.func32, Tryd.ntmps32
  go_wp2_with (go_at_call 30; refine (slIndex1 _ _ _).mono ?_; rintro e w' ⟨rfl, rfl⟩)
  go_ret3
  exact ⟨rfl, rfl⟩

set_option maxHeartbeats 400000 in
theorem slCut1_yes (s : ByteArray) (c : UInt8) (w : World) (i : Nat) (hi : Lib.indexByte s.data.toList c = i) (hl : i < s.size) (hs : s.size ≤ maxLen) :
    Calls Tryd.prog 32 #[.string s, .string ⟨#[c]⟩] w fun e w' => e = .returned (.tuple #[.string (s.extract 0 i), .string (s.extract (i + 1) s.size), .bool true]) ∧ ∃ n, w' = w.drewN n := by
  unfold maxLen at hs
  go_enter Tryd.func32, Tryd.ntmps32
  go_wp2_with (go_at_call 30; refine (slIndex1 _ _ _).mono ?_; rw [hi]; rintro e w' ⟨rfl, rfl⟩)
  have e1 : IntKind.i64.wrap ((i : Int) + 1) = (i : Int) + 1 := IntWalk.i64_in _ (by omega)
  have e2 : 0 ≤ (i : Int) + 1 := by omega
  have e3 : ((i : Int) + 1).toNat = i + 1 := by omega
  go_quiet (fail)
  go_wp2_with fail
  go_ret3
  exact ⟨rfl, _, rfl⟩

theorem sCut1_no (s : ByteArray) (c : UInt8) (w : World) (h : c ∉ s.data.toList) :
    Calls Tryd.prog 21 #[.string s, .string ⟨#[c]⟩] w fun e w' => e = .returned (.tuple #[.string s, .string ⟨#[]⟩, .bool false]) ∧ w = w' := by
  have H := Lib.hid h
  clear h
  go_enter Tryd.func21, Tryd.ntmps21
  go_wp2_with (go_at_call 32; refine (slCut1_no _ _ _ H.out).mono ?_; rintro e w' ⟨rfl, rfl⟩)
  go_ret3
  exact ⟨rfl, rfl⟩

theorem sCut1_yes (s : ByteArray) (c : UInt8) (w : World) (i : Nat) (hi : Lib.indexByte s.data.toList c = i) (hl : i < s.size) (hs : s.size ≤ maxLen) :
    Calls Tryd.prog 21 #[.string s, .string ⟨#[c]⟩] w fun e w' => ∃ a b : ByteArray, e = .returned (.tuple #[.string a, .string b, .bool true]) ∧ (∃ n, w' = w.drewN n) ∧
      Hid (a.data.toList = s.data.toList.take i ∧ b.data.toList = s.data.toList.drop (i + 1)) := by
  have H := Lib.hid hi
  clear hi
  go_enter Tryd.func21, Tryd.ntmps21
  go_wp2_with (go_at_call 32; refine (slCut1_yes _ _ _ i H.out hl hs).mono ?_; rintro e w' ⟨rfl, n, rfl⟩)
  go_ret3
  exact ⟨_, _, rfl, ⟨_, rfl⟩, by rw [Lib.extract_data]; simp, by rw [Lib.extract_data, List.take_of_length_le (by simp)]⟩

set_option maxHeartbeats 400000 in
theorem number_any (s : ByteArray) (w : World) (hs : s.size ≤ maxLen) :
    Calls Tryd.prog 28 #[.string s] w fun e w' => e = .returned (.int .i64 (numN s.data.toList)) ∧ ∃ n, w' = w.drewN n := by
  rcases indexByte_spec s.data.toList 46 with ⟨h1, h2⟩ | ⟨h1, i, h2, h3, h4, h5, h6⟩
  · have HN := Lib.hid (show numN s.data.toList = if digitsP s.data.toList then s.size else 0 by
      unfold numN; rw [(takeWhile_not_mem _ _ h1).2]; simp)
    have H1 := Lib.hid h1
    have hb : s.size ≤ maxLen := hs
    unfold maxLen at hb
    clear h1 h2
    by_cases hd : digitsP s.data.toList = true
    · go_enter Tryd.func28, Tryd.ntmps28
      go_wp2_with (first | (go_at_call 21; refine (sCut1_no _ _ _ H1.out).mono ?_; rintro e w' ⟨rfl, rfl⟩) | (go_at_call 41; refine (digits_any _ _ hs).mono ?_; rintro e w' ⟨rfl, rfl⟩))
      go_ret
      exact ⟨ret_int (by rw [HN.out, if_pos hd]), 0, rfl⟩
    · have hd : digitsP s.data.toList = false := by simpa using hd
      go_enter Tryd.func28, Tryd.ntmps28
      go_wp2_with (first | (go_at_call 21; refine (sCut1_no _ _ _ H1.out).mono ?_; rintro e w' ⟨rfl, rfl⟩) | (go_at_call 41; refine (digits_any _ _ hs).mono ?_; rintro e w' ⟨rfl, rfl⟩))
      go_ret
      exact ⟨ret_int (by rw [HN.out, hd]; rfl), 0, rfl⟩
  · have hil : i < s.size := by simpa using h3
    have HN := Lib.hid (show numN s.data.toList = if digitsP (s.data.toList.take i) && digitsP (s.data.toList.drop (i + 1)) then i + (s.size - (i + 1)) else 0 by
      unfold numN; rw [h5, h6, h4]; simp; rw [Nat.min_eq_left (by omega)])
    have H2 := Lib.hid h2
    have hb : s.size ≤ maxLen := hs
    unfold maxLen at hb
    clear h1 h2 h3 h4 h5 h6
    go_enter Tryd.func28, Tryd.ntmps28
    go_wp2_with fail
    refine (sCut1_yes _ _ _ i H2.out hil hs).mono ?_; rintro e w' ⟨a, b, rfl, ⟨n, rfl⟩, H⟩
    have HA := Lib.hid (show a.size = i by rw [← length_data, H.out.1]; simp; omega)
    have HB := Lib.hid (show b.size = s.size - (i + 1) by rw [← length_data, H.out.2]; simp)
    have hsa : a.size ≤ maxLen := by rw [HA.out]; unfold maxLen; omega
    have hsc : b.size ≤ maxLen := by rw [HB.out]; unfold maxLen; omega
    have hab : a.size + b.size ≤ 9223372036854775807 := by rw [HA.out, HB.out]; omega
    by_cases hd : digitsP a.data.toList = true
    · by_cases hd2 : digitsP b.data.toList = true
      · go_wp2_with fail
        refine (digits_any _ _ hsa).mono ?_; rintro e w' ⟨rfl, rfl⟩
        go_wp2_with fail
        refine (digits_any _ _ hsc).mono ?_; rintro e w' ⟨rfl, rfl⟩
        go_wp2_with fail
        go_ret
        refine ⟨ret_int ?_, _, rfl⟩
        rw [HN.out, ← H.out.1, ← H.out.2, hd, hd2, HA.out, HB.out]
        simp
      · have hd2 : digitsP b.data.toList = false := by simpa using hd2
        go_wp2_with fail
        refine (digits_any _ _ hsa).mono ?_; rintro e w' ⟨rfl, rfl⟩
        go_wp2_with fail
        refine (digits_any _ _ hsc).mono ?_; rintro e w' ⟨rfl, rfl⟩
        go_wp2_with fail
        go_ret
        exact ⟨ret_int (by rw [HN.out, ← H.out.1, ← H.out.2, hd, hd2]; simp), _, rfl⟩
    · have hd : digitsP a.data.toList = false := by simpa using hd
      go_wp2_with fail
      refine (digits_any _ _ hsa).mono ?_; rintro e w' ⟨rfl, rfl⟩
      go_wp2_with fail
      go_ret
      exact ⟨ret_int (by rw [HN.out, ← H.out.1, ← H.out.2, hd]; simp), _, rfl⟩

/-- 'kind' in one way: what is asked is decided ahead. -/
theorem kind_any (s : ByteArray) (w : World) (hs : s.size ≤ maxLen) :
    Calls Tryd.prog 17 #[.string s] w fun e w' => e = .returned (.tuple #[.int .i64 (kindOf s.data.toList).1, .int .i64 (kindOf s.data.toList).2]) ∧ ∃ n, w' = w.drewN n := by
  have HK := Lib.hid (show kindOf s.data.toList = if (wordP s.data.toList && decide (20 < s.size)) || decide (18 < numN s.data.toList) then (0, 5) else if wordP s.data.toList then (1, 0) else if 0 < numN s.data.toList then (2, 0) else (0, 3) by unfold kindOf; rw [length_data])
  have hb : s.size ≤ maxLen := hs
  unfold maxLen at hb
  obtain ⟨r, hr⟩ : ∃ r, r = kindOf s.data.toList := ⟨_, rfl⟩
  have HR := Lib.hid hr
  rw [← hr]
  clear hr
  by_cases hw : wordP s.data.toList = true
  · by_cases hl : 20 < s.size
    · have HF := Lib.hid (show r = (0, 5) by rw [HR.out, HK.out]; simp [hw, hl])
      go_enter Tryd.func17, Tryd.ntmps17
      go_wp2_with (first | (go_at_call 28; refine (number_any _ _ hs).mono ?_; rintro e w' ⟨rfl, n, rfl⟩) | (go_at_call 29; refine (word_any _ _ hs).mono ?_; rintro e w' ⟨rfl, rfl⟩))
      go_ret2
      exact ⟨by rw [HF.out]; rfl, _, rfl⟩
    · by_cases hn : 18 < numN s.data.toList
      · have HF := Lib.hid (show r = (0, 5) by rw [HR.out, HK.out]; simp [hn])
        have hn' : (18 : Int) < numN s.data.toList := by omega
        go_enter Tryd.func17, Tryd.ntmps17
        go_wp2_with (first | (go_at_call 28; refine (number_any _ _ hs).mono ?_; rintro e w' ⟨rfl, n, rfl⟩) | (go_at_call 29; refine (word_any _ _ hs).mono ?_; rintro e w' ⟨rfl, rfl⟩))
        go_ret2
        exact ⟨by rw [HF.out]; rfl, _, rfl⟩
      · have HF := Lib.hid (show r = (1, 0) by rw [HR.out, HK.out]; simp [hw, hn, hl])
        have hn' : ¬ (18 : Int) < numN s.data.toList := by omega
        go_enter Tryd.func17, Tryd.ntmps17
        go_wp2_with (first | (go_at_call 28; refine (number_any _ _ hs).mono ?_; rintro e w' ⟨rfl, n, rfl⟩) | (go_at_call 29; refine (word_any _ _ hs).mono ?_; rintro e w' ⟨rfl, rfl⟩))
        go_ret2
        exact ⟨by rw [HF.out]; rfl, _, rfl⟩
  · have hw : wordP s.data.toList = false := by simpa using hw
    by_cases hn : 18 < numN s.data.toList
    · have HF := Lib.hid (show r = (0, 5) by rw [HR.out, HK.out]; simp [hn])
      have hn' : (18 : Int) < numN s.data.toList := by omega
      go_enter Tryd.func17, Tryd.ntmps17
      go_wp2_with (first | (go_at_call 28; refine (number_any _ _ hs).mono ?_; rintro e w' ⟨rfl, n, rfl⟩) | (go_at_call 29; refine (word_any _ _ hs).mono ?_; rintro e w' ⟨rfl, rfl⟩))
      go_ret2
      exact ⟨by rw [HF.out]; rfl, _, rfl⟩
    · by_cases h0 : 0 < numN s.data.toList
      · have HF := Lib.hid (show r = (2, 0) by rw [HR.out, HK.out]; simp [hw, hn, h0])
        have hn' : ¬ (18 : Int) < numN s.data.toList := by omega
        have h0' : (0 : Int) < numN s.data.toList := by omega
        go_enter Tryd.func17, Tryd.ntmps17
        go_wp2_with (first | (go_at_call 28; refine (number_any _ _ hs).mono ?_; rintro e w' ⟨rfl, n, rfl⟩) | (go_at_call 29; refine (word_any _ _ hs).mono ?_; rintro e w' ⟨rfl, rfl⟩))
        go_ret2
        exact ⟨by rw [HF.out]; rfl, _, rfl⟩
      · have HF := Lib.hid (show r = (0, 3) by rw [HR.out, HK.out]; simp [hw, hn, h0])
        have hn' : ¬ (18 : Int) < numN s.data.toList := by omega
        have h0' : ¬ (0 : Int) < numN s.data.toList := by omega
        go_enter Tryd.func17, Tryd.ntmps17
        go_wp2_with (first | (go_at_call 28; refine (number_any _ _ hs).mono ?_; rintro e w' ⟨rfl, n, rfl⟩) | (go_at_call 29; refine (word_any _ _ hs).mono ?_; rintro e w' ⟨rfl, rfl⟩))
        go_ret2
        exact ⟨by rw [HF.out]; rfl, _, rfl⟩
end Go.Proofs.YtlmflomonbcjiaaDoor
