/-
  Walks: digits, words.
-/
import Derived.Test.YtoogeihbhhcpaaaDoorLexA
namespace Go.Proofs.YtoogeihbhhcpaaaDoor
open Go.RowKit Go.Fl Go.Fl.Lx

theorem headLetter_of (s : ByteArray) (h : 0 < s.size) : headLetter s.data.toList = isLetter s[0] := by
  have := drop_cons s 0 h
  rw [List.drop_zero] at this
  rw [this]; rfl

set_option maxHeartbeats 800000 in
theorem word_any (s : ByteArray) (w : World) (hs : s.size ≤ maxLen) :
    Calls Tryd.prog 50 #[.string s] w fun e w' => e = .returned (.bool (wordP s.data.toList)) ∧ w = w' := by
  unfold maxLen at hs
  by_cases hz : s.size = 0
  · have HZ := Lib.hid (show s.data.toList = [] from List.eq_nil_of_length_eq_zero (by simpa using hz))
    have hz1 : s.toList.isEmpty = true := by rw [isEmpty_data, HZ.out]; rfl
    have hz2 : s.toList = [] := by simpa using hz1
    clear hz
    go_enter Tryd.func50, Tryd.ntmps50
    go_wp2_with fail
    go_ret
    exact ⟨ret_bool (by rw [HZ.out]; rfl), rfl⟩
  have h0 : 0 < s.size := by omega
  have HN := Lib.hid (show s.data.toList ≠ [] from fun h => hz (by have := congrArg List.length h; simpa using this))
  have hz1 : s.toList.isEmpty = false := by rw [isEmpty_data]; simpa using HN.out
  have HH := Lib.hid (headLetter_of s h0)
  have HC0 := Lib.hid (cls_ne2 s[0])
  clear hz
  by_cases hl : isLetter s[0] = true
  · have hcc : (((cls s[0] : Nat) : Int) != 2) = false := by rw [HC0.out, hl]; rfl
    have HL := Lib.hid hl
    clear hl
    go_enter Tryd.func50, Tryd.ntmps50
    go_wp2_with (go_at_call 59; refine (class_any _ _).mono ?_; rintro e w' ⟨rfl, rfl⟩)
    go_loop [15] (fun i => ∃ k : Nat, k ≤ s.size ∧ i = .int .i64 k ∧ (s.data.toList.take k).all inWord = true) (fun i => s.size - (intOf i).toNat)
    case atStart => exact ⟨0, Nat.zero_le _, rfl, rfl⟩
    case round =>
      obtain ⟨k, hk, rfl, hall⟩ := hrel
      have HA := Lib.hid hall
      clear hall
      by_cases hlt : k < s.size
      · have HT := Lib.hid (take_snoc s k hlt)
        rcases cls_word_ways s[k] with ⟨hw, h⟩ | ⟨hw, h2, h3, h4⟩
        · have HW := Lib.hid hw
          clear hw
          rcases h with h2 | ⟨h2, h3⟩ | ⟨h2, h3, h4⟩
          all_goals
            go_wp2_with (go_at_call 59; refine (class_any _ _).mono ?_; rintro e w' ⟨rfl, rfl⟩)
            go_round
            case rel => exact ⟨k + 1, by omega, by go_num, by rw [HT.out]; simp [HA.out, HW.out]⟩
            case measure => simp [intOf]; omega
        · have HW := Lib.hid hw
          clear hw
          go_wp2_with (go_at_call 59; refine (class_any _ _).mono ?_; rintro e w' ⟨rfl, rfl⟩)
          go_ret
          refine ⟨ret_bool ?_, rfl⟩
          have hm : s[k] ∈ s.data.toList := List.getElem_mem (l := s.data.toList) (by simpa using hlt)
          have : s.data.toList.all inWord = false := by rw [List.all_eq_false]; exact ⟨_, hm, by rw [HW.out]; simp⟩
          simp [wordP, this]
      · have HT := Lib.hid (take_all s k hlt)
        go_wp2_with fail
        go_ret
        refine ⟨ret_bool ?_, rfl⟩
        have := HA.out
        rw [HT.out] at this
        simp [wordP, this, HH.out, HL.out]
  · have hcc : (((cls s[0] : Nat) : Int) != 2) = true := by rw [HC0.out]; simpa using hl
    have HL := Lib.hid hl
    clear hl
    go_enter Tryd.func50, Tryd.ntmps50
    go_wp2_with (go_at_call 59; refine (class_any _ _).mono ?_; rintro e w' ⟨rfl, rfl⟩)
    go_ret
    refine ⟨ret_bool ?_, rfl⟩
    simp [wordP, HH.out]
    intro h; exact absurd h HL.out

end Go.Proofs.YtoogeihbhhcpaaaDoor
