/-
  Walks: reserved words and names; LexWords. (Printed by genkw.py.)
-/
import Derived.Test.YtoogeihbhhcpaaaDoorLexU
namespace Go.Proofs.YtoogeihbhhcpaaaDoor
open Go.RowKit Go.Fl Go.Fl.Lx

def kws : List (List UInt8) := [[115, 116, 97, 116, 101], [112, 97, 114, 97, 109], [105, 110], [109, 111, 100, 101], [119, 104, 101, 110], [114, 105, 115, 101, 115], [102, 97, 108, 108, 115], [103, 111, 116, 111], [119, 105, 116, 104], [116, 105, 109, 101], [101, 120, 112], [108, 111, 103], [115, 105, 110], [99, 111, 115], [115, 113, 114, 116]]
def kwP (l : List UInt8) : Bool := kws.contains l

theorem beq_list_t (s : ByteArray) (l : List UInt8) (h : s.data.toList = l) : (s.toList == l) = true := by rw [ByteArray.toList_eq, h]; simp
theorem beq_list_f (s : ByteArray) (l : List UInt8) (h : s.data.toList ≠ l) : (s.toList == l) = false := by rw [ByteArray.toList_eq, beq_eq_false_iff_ne]; exact h
theorem beq_list_t' (s : ByteArray) (l : List UInt8) (h : s.data.toList = l) : (l == s.toList) = true := by rw [ByteArray.toList_eq, h]; simp
theorem beq_list_f' (s : ByteArray) (l : List UInt8) (h : s.data.toList ≠ l) : (l == s.toList) = false := by rw [ByteArray.toList_eq, beq_eq_false_iff_ne]; exact Ne.symm h

set_option maxHeartbeats 1600000 in
theorem keyword_any (s : ByteArray) (w : World) :
    Calls Tryd.prog 51 #[.string s] w fun e w' => e = .returned (.bool (kwP s.data.toList)) ∧ w = w' := by
  by_cases h0 : s.data.toList = [115, 116, 97, 116, 101]
  · have HF := Lib.hid (show kwP s.data.toList = true by rw [h0]; decide)
    have e0 := beq_list_t s _ h0
    clear h0
    go_enter Tryd.func51, Tryd.ntmps51
    go_wp2_with fail
    go_ret
    exact ⟨ret_bool (by rw [HF.out]), rfl⟩
  have H0 := Lib.hid h0
  have e0 := beq_list_f s _ h0
  clear h0
  by_cases h1 : s.data.toList = [112, 97, 114, 97, 109]
  · have HF := Lib.hid (show kwP s.data.toList = true by rw [h1]; decide)
    have e1 := beq_list_t s _ h1
    clear h1
    go_enter Tryd.func51, Tryd.ntmps51
    go_wp2_with fail
    go_ret
    exact ⟨ret_bool (by rw [HF.out]), rfl⟩
  have H1 := Lib.hid h1
  have e1 := beq_list_f s _ h1
  clear h1
  by_cases h2 : s.data.toList = [105, 110]
  · have HF := Lib.hid (show kwP s.data.toList = true by rw [h2]; decide)
    have e2 := beq_list_t s _ h2
    clear h2
    go_enter Tryd.func51, Tryd.ntmps51
    go_wp2_with fail
    go_ret
    exact ⟨ret_bool (by rw [HF.out]), rfl⟩
  have H2 := Lib.hid h2
  have e2 := beq_list_f s _ h2
  clear h2
  by_cases h3 : s.data.toList = [109, 111, 100, 101]
  · have HF := Lib.hid (show kwP s.data.toList = true by rw [h3]; decide)
    have e3 := beq_list_t s _ h3
    clear h3
    go_enter Tryd.func51, Tryd.ntmps51
    go_wp2_with fail
    go_ret
    exact ⟨ret_bool (by rw [HF.out]), rfl⟩
  have H3 := Lib.hid h3
  have e3 := beq_list_f s _ h3
  clear h3
  by_cases h4 : s.data.toList = [119, 104, 101, 110]
  · have HF := Lib.hid (show kwP s.data.toList = true by rw [h4]; decide)
    have e4 := beq_list_t s _ h4
    clear h4
    go_enter Tryd.func51, Tryd.ntmps51
    go_wp2_with fail
    go_ret
    exact ⟨ret_bool (by rw [HF.out]), rfl⟩
  have H4 := Lib.hid h4
  have e4 := beq_list_f s _ h4
  clear h4
  by_cases h5 : s.data.toList = [114, 105, 115, 101, 115]
  · have HF := Lib.hid (show kwP s.data.toList = true by rw [h5]; decide)
    have e5 := beq_list_t s _ h5
    clear h5
    go_enter Tryd.func51, Tryd.ntmps51
    go_wp2_with fail
    go_ret
    exact ⟨ret_bool (by rw [HF.out]), rfl⟩
  have H5 := Lib.hid h5
  have e5 := beq_list_f s _ h5
  clear h5
  by_cases h6 : s.data.toList = [102, 97, 108, 108, 115]
  · have HF := Lib.hid (show kwP s.data.toList = true by rw [h6]; decide)
    have e6 := beq_list_t s _ h6
    clear h6
    go_enter Tryd.func51, Tryd.ntmps51
    go_wp2_with fail
    go_ret
    exact ⟨ret_bool (by rw [HF.out]), rfl⟩
  have H6 := Lib.hid h6
  have e6 := beq_list_f s _ h6
  clear h6
  by_cases h7 : s.data.toList = [103, 111, 116, 111]
  · have HF := Lib.hid (show kwP s.data.toList = true by rw [h7]; decide)
    have e7 := beq_list_t s _ h7
    clear h7
    go_enter Tryd.func51, Tryd.ntmps51
    go_wp2_with fail
    go_ret
    exact ⟨ret_bool (by rw [HF.out]), rfl⟩
  have H7 := Lib.hid h7
  have e7 := beq_list_f s _ h7
  clear h7
  by_cases h8 : s.data.toList = [119, 105, 116, 104]
  · have HF := Lib.hid (show kwP s.data.toList = true by rw [h8]; decide)
    have e8 := beq_list_t s _ h8
    clear h8
    go_enter Tryd.func51, Tryd.ntmps51
    go_wp2_with fail
    go_ret
    exact ⟨ret_bool (by rw [HF.out]), rfl⟩
  have H8 := Lib.hid h8
  have e8 := beq_list_f s _ h8
  clear h8
  by_cases h9 : s.data.toList = [116, 105, 109, 101]
  · have HF := Lib.hid (show kwP s.data.toList = true by rw [h9]; decide)
    have e9 := beq_list_t s _ h9
    clear h9
    go_enter Tryd.func51, Tryd.ntmps51
    go_wp2_with fail
    go_ret
    exact ⟨ret_bool (by rw [HF.out]), rfl⟩
  have H9 := Lib.hid h9
  have e9 := beq_list_f s _ h9
  clear h9
  by_cases h10 : s.data.toList = [101, 120, 112]
  · have HF := Lib.hid (show kwP s.data.toList = true by rw [h10]; decide)
    have e10 := beq_list_t s _ h10
    clear h10
    go_enter Tryd.func51, Tryd.ntmps51
    go_wp2_with fail
    go_ret
    exact ⟨ret_bool (by rw [HF.out]), rfl⟩
  have H10 := Lib.hid h10
  have e10 := beq_list_f s _ h10
  clear h10
  by_cases h11 : s.data.toList = [108, 111, 103]
  · have HF := Lib.hid (show kwP s.data.toList = true by rw [h11]; decide)
    have e11 := beq_list_t s _ h11
    clear h11
    go_enter Tryd.func51, Tryd.ntmps51
    go_wp2_with fail
    go_ret
    exact ⟨ret_bool (by rw [HF.out]), rfl⟩
  have H11 := Lib.hid h11
  have e11 := beq_list_f s _ h11
  clear h11
  by_cases h12 : s.data.toList = [115, 105, 110]
  · have HF := Lib.hid (show kwP s.data.toList = true by rw [h12]; decide)
    have e12 := beq_list_t s _ h12
    clear h12
    go_enter Tryd.func51, Tryd.ntmps51
    go_wp2_with fail
    go_ret
    exact ⟨ret_bool (by rw [HF.out]), rfl⟩
  have H12 := Lib.hid h12
  have e12 := beq_list_f s _ h12
  clear h12
  by_cases h13 : s.data.toList = [99, 111, 115]
  · have HF := Lib.hid (show kwP s.data.toList = true by rw [h13]; decide)
    have e13 := beq_list_t s _ h13
    clear h13
    go_enter Tryd.func51, Tryd.ntmps51
    go_wp2_with fail
    go_ret
    exact ⟨ret_bool (by rw [HF.out]), rfl⟩
  have H13 := Lib.hid h13
  have e13 := beq_list_f s _ h13
  clear h13
  by_cases h14 : s.data.toList = [115, 113, 114, 116]
  · have HF := Lib.hid (show kwP s.data.toList = true by rw [h14]; decide)
    have e14 := beq_list_t s _ h14
    clear h14
    go_enter Tryd.func51, Tryd.ntmps51
    go_wp2_with fail
    go_ret
    exact ⟨ret_bool (by rw [HF.out]), rfl⟩
  have H14 := Lib.hid h14
  have e14 := beq_list_f s _ h14
  clear h14
  have HF := Lib.hid (show kwP s.data.toList = false by simp [kwP, kws, H0.out, H1.out, H2.out, H3.out, H4.out, H5.out, H6.out, H7.out, H8.out, H9.out, H10.out, H11.out, H12.out, H13.out, H14.out])
  go_enter Tryd.func51, Tryd.ntmps51
  go_wp2_with fail
  go_ret
  exact ⟨ret_bool (by rw [HF.out]), rfl⟩

def kwCells : List Value := kws.map fun l => .string ⟨l.toArray⟩
theorem reserved_any (w : World) :
    Calls Tryd.prog 58 #[] w fun e w' => e = .returned (.slice (some ⟨w.heap.size, 0, none⟩) 15 15) ∧ w' = w.alloc (.cells kwCells.toArray 9) := by
  go_enter Tryd.func58, Tryd.ntmps58
  go_wp2_with fail
  go_ret
  exact ⟨rfl, rfl⟩

theorem kw_at (j : Nat) (l : List UInt8) (h : kws[j]? = some l) : kwCells[j]? = some (.string ⟨l.toArray⟩) := by simp [kwCells, h]
theorem kw_beq (l : List UInt8) (s : ByteArray) : ((⟨l.toArray⟩ : ByteArray).toList == s.toList) = (l == s.data.toList) := by rw [ByteArray.toList_eq, ByteArray.toList_eq]

set_option maxHeartbeats 400000 in
theorem rkeyword_any (s : ByteArray) (w : World) :
    Calls Tryd.prog 49 #[.string s] w fun e w' => e = .returned (.bool (kwP s.data.toList)) ∧ ∃ o, w' = w.alloc o := by
  go_enter Tryd.func49, Tryd.ntmps49
  go_wp2_with fail
  refine (reserved_any _).mono ?_
  rintro e w1 ⟨rfl, hw1⟩
  have HB := Lib.hid (show Blk w1 w.heap.size 9 kwCells.toArray by rw [hw1]; exact Blk.new w _ _)
  have HW := Lib.hid hw1
  clear hw1
  go_wp2_with fail
  go_loop [4] (fun i => ∃ k : Nat, k ≤ 15 ∧ i = .int .i64 k ∧ Hid (s.data.toList ∉ kws.take k)) (fun i => 15 - (intOf i).toNat)
  case atStart => exact ⟨0, by omega, rfl, by unfold Hid; simp⟩
  case round =>
    obtain ⟨k, hk, rfl, HA⟩ := hrel
    by_cases hlt : k < 15
    · obtain ⟨l, hl⟩ : ∃ l, kws[k]? = some l := ⟨_, List.getElem?_eq_getElem (show k < kws.length from hlt)⟩
      have c0 : w1.cell? ⟨w.heap.size, k, none⟩ = some (.string ⟨l.toArray⟩) := by
        rw [HB.out.cell]; simpa using kw_at k l hl
      have HT := Lib.hid (show kws.take (k + 1) = kws.take k ++ [l] by rw [List.take_add_one, hl]; rfl)
      have HM := Lib.hid (show l ∈ kws from List.mem_of_getElem? hl)
      have HQ := Lib.hid (kw_beq l s)
      clear hl
      by_cases hd : l = s.data.toList
      · have hcc : ((⟨l.toArray⟩ : ByteArray).toList == s.toList) = true := by rw [HQ.out, hd]; simp
        have HD := Lib.hid hd
        clear hd
        generalize (⟨l.toArray⟩ : ByteArray) = lb at *
        go_wp2_with fail
        go_ret
        refine ⟨ret_bool ?_, _, HW.out⟩
        rw [← HD.out]
        exact (by simpa [kwP] using HM.out)
      · have hcc : ((⟨l.toArray⟩ : ByteArray).toList == s.toList) = false := by rw [HQ.out]; simpa using hd
        have HD := Lib.hid hd
        clear hd
        generalize (⟨l.toArray⟩ : ByteArray) = lb at *
        go_wp2_with fail
        go_round
        case rel => exact ⟨k + 1, by omega, by go_num, by unfold Hid; rw [HT.out]; simp [HA.out, Ne.symm HD.out]⟩
        case measure => simp [intOf]; omega
    · have hk15 : k = 15 := by omega
      subst hk15
      go_wp2_with fail
      go_ret
      refine ⟨ret_bool ?_, _, HW.out⟩
      have := HA.out
      rw [show kws.take 15 = kws from rfl] at this
      symm
      simpa [kwP] using this

def nameP (l : List UInt8) : Bool := wordP l && decide (l.length ≤ 20) && !kwP l

set_option maxHeartbeats 400000 in
theorem name_any (s : ByteArray) (w : World) (hs : s.size ≤ maxLen) :
    Calls Tryd.prog 40 #[.string s] w fun e w' => e = .returned (.bool (nameP s.data.toList)) ∧ w = w' := by
  have HE := Lib.hid (show nameP s.data.toList = (wordP s.data.toList && decide (s.size ≤ 20) && !kwP s.data.toList) by unfold nameP; rw [length_data])
  have hs' := hs
  unfold maxLen at hs'
  by_cases hw : wordP s.data.toList = true
  · by_cases hl : s.size ≤ 20
    · go_enter Tryd.func40, Tryd.ntmps40
      go_wp2_with (first | (go_at_call 50; refine (word_any _ _ hs).mono ?_; rintro e w' ⟨rfl, rfl⟩) | (go_at_call 51; refine (keyword_any _ _).mono ?_; rintro e w' ⟨rfl, rfl⟩))
      go_ret
      exact ⟨ret_bool (by rw [HE.out]; simp [hw, hl]), rfl⟩
    · have hld : decide ((s.size : Int) ≤ 20) = false := by simp; omega
      go_enter Tryd.func40, Tryd.ntmps40
      go_wp2_with (first | (go_at_call 50; refine (word_any _ _ hs).mono ?_; rintro e w' ⟨rfl, rfl⟩) | (go_at_call 51; refine (keyword_any _ _).mono ?_; rintro e w' ⟨rfl, rfl⟩))
      go_ret
      exact ⟨ret_bool (by rw [HE.out]; simp [hl]), rfl⟩
  · have hw : wordP s.data.toList = false := by simpa using hw
    go_enter Tryd.func40, Tryd.ntmps40
    go_wp2_with (first | (go_at_call 50; refine (word_any _ _ hs).mono ?_; rintro e w' ⟨rfl, rfl⟩) | (go_at_call 51; refine (keyword_any _ _).mono ?_; rintro e w' ⟨rfl, rfl⟩))
    go_ret
    exact ⟨ret_bool (by rw [HE.out]; simp [hw]), rfl⟩

theorem kind_one (l : List UInt8) : (((kindOf l).1 : Int) == 1) = (wordP l && decide (l.length ≤ 20)) := by
  rw [kindOf_ref]
  by_cases hw : wordP l = true
  · by_cases h : 20 < l.length
    · simp [hw, h]
    · simp [hw, h]; omega
  · simp only [hw]
    by_cases h0 : numN l = 0
    · simp [h0]
    · by_cases h18 : 18 < numN l <;> simp [h0, h18]

theorem rname_any (s : ByteArray) (w : World) (hs : s.size ≤ maxLen) :
    Calls Tryd.prog 39 #[.string s] w fun e w' => e = .returned (.bool (nameP s.data.toList)) ∧ Below w.heap.size w w' := by
  have HE := Lib.hid (show nameP s.data.toList = ((((kindOf s.data.toList).1 : Int) == 1) && !kwP s.data.toList) by rw [kind_one]; rfl)
  obtain ⟨kd, er, hke⟩ : ∃ kd er, kindOf s.data.toList = (kd, er) := ⟨_, _, rfl⟩
  rw [hke] at HE
  have HK := Lib.hid hke
  clear hke
  by_cases h1 : ((kd : Int) == 1) = true
  · go_enter Tryd.func39, Tryd.ntmps39
    go_wp2_with fail
    refine (rkind_any _ _ hs).mono ?_
    rw [HK.out]
    rintro e w' ⟨rfl, rfl⟩
    go_wp2_with fail
    refine (rkeyword_any _ _).mono ?_
    rintro e w' ⟨rfl, o, rfl⟩
    go_wp2_with fail
    go_ret
    exact ⟨ret_bool (by rw [HE.out]; simp [h1]), (Below.refl _ _).alloc (Nat.le_refl _) _⟩
  · have h1 : ((kd : Int) == 1) = false := by simpa using h1
    go_enter Tryd.func39, Tryd.ntmps39
    go_wp2_with fail
    refine (rkind_any _ _ hs).mono ?_
    rw [HK.out]
    rintro e w' ⟨rfl, rfl⟩
    go_wp2_with fail
    go_ret
    exact ⟨ret_bool (by rw [HE.out]; simp [h1]), Below.refl _ _⟩

end Go.Proofs.YtoogeihbhhcpaaaDoor
