/-
  Walks: the scanner.
-/
import Derived.Test.YtlmflomonbcjiaaDoorLexC
import Derived.Test.YtlmflomonbcjiaaDoorBlk
import Derived.Test.YtlmflomonbcjiaaDoorLexPlain2
namespace Go.Proofs.YtlmflomonbcjiaaDoor
open Go.RowKit Go.Fl Go.Fl.Lx

/-- The scanner's cells. -/
def scan (t : ByteArray) (ln co : Int) : Array Value := #[.string t, .int .i64 ln, .int .i64 co]

set_option maxHeartbeats 400000 in
theorem run_any (g : Nat) (t : ByteArray) (ln co : Int) (w : World) (hb : Blk w g 43 (scan t ln co)) (hs : t.size ≤ maxLen) :
    Calls Tryd.prog 16 #[.pointer (some ⟨g, 0, none⟩)] w fun e w' => e = .returned (.int .i64 ((t.data.toList.takeWhile inRun).length : Nat)) ∧ w = w' := by
  unfold maxLen at hs
  have c0 : w.cell? ⟨g, 0, none⟩ = some (.string t) := hb.cell 0
  have HB := Lib.hid hb
  clear hb
  go_enter Tryd.func16, Tryd.ntmps16
  go_wp2_with fail
  go_loop [3] (fun i => ∃ k : Nat, k ≤ t.size ∧ i = .int .i64 k ∧ (t.data.toList.take k).all inRun = true) (fun i => t.size - (intOf i).toNat)
  case atStart => exact ⟨0, Nat.zero_le _, rfl, rfl⟩
  case round =>
    obtain ⟨k, hk, rfl, hall⟩ := hrel
    have HA := Lib.hid hall
    clear hall
    by_cases hlt : k < t.size
    · have HT := Lib.hid (take_snoc t k hlt)
      rcases cls_run_ways t[k] with ⟨hw, h⟩ | ⟨hw, h2, h3, h4, h5⟩
      · have HW := Lib.hid hw
        clear hw
        rcases h with h2 | ⟨h2, h3⟩ | ⟨h2, h3, h4⟩ | ⟨h2, h3, h4, h5⟩
        all_goals
          go_wp2_with (go_at_call 13; refine (class_any _ _).mono ?_; rintro e w' ⟨rfl, rfl⟩)
          go_round
          case rel => exact ⟨k + 1, by omega, by go_num, by rw [HT.out]; simp [HA.out, HW.out]⟩
          case measure => simp [intOf]; omega
      · have HW := Lib.hid hw
        clear hw
        go_wp2_with (go_at_call 13; refine (class_any _ _).mono ?_; rintro e w' ⟨rfl, rfl⟩)
        go_ret
        exact ⟨ret_int (by rw [takeWhile_len_stop t k hlt HA.out HW.out]), rfl⟩
    · have HT := Lib.hid (take_all t k hlt)
      go_wp2_with fail
      go_ret
      have h := HA.out
      rw [HT.out] at h
      exact ⟨ret_int (by rw [takeWhile_len_all t h]; omega), rfl⟩

/-- What 'skip' leaves. -/
def Skipped (w : World) (g : Nat) (t : ByteArray) (ln co n : Nat) (e : Ending) (w' : World) : Prop :=
  ∃ out t' : ByteArray, e = .returned (.string out) ∧ out.data.toList = t.data.toList.take n ∧ t'.data.toList = t.data.toList.drop n ∧
    w' = putB w g 43 (scan t' (adv (t.data.toList.take n) (ln, co)).1 (adv (t.data.toList.take n) (ln, co)).2)

set_option maxHeartbeats 800000 in
theorem skip_any (g : Nat) (t : ByteArray) (ln co n : Nat) (w : World) (hb : Blk w g 43 (scan t ln co)) (hs : t.size ≤ maxLen) (hn : n ≤ t.size)
    (hl : ln + n ≤ 4611686018427387904) (hc : co + n ≤ 4611686018427387904) :
    Calls Tryd.prog 14 #[.pointer (some ⟨g, 0, none⟩), .int .i64 n] w (Skipped w g t ln co n) := by
  unfold maxLen at hs
  have c0 : w.cell? ⟨g, 0, none⟩ = some (.string t) := hb.cell 0
  have HB := Lib.hid hb
  clear hb
  go_enter Tryd.func14, Tryd.ntmps14
  go_wp2_with fail
  have hou : (t.extract 0 n).data.toList = t.data.toList.take n := by rw [Lib.extract_data]; simp
  generalize t.extract 0 n = out at *
  have HO := Lib.hid hou
  clear hou
  have HS := Lib.hid (show out.size = n by rw [← length_data, HO.out]; simp; omega)
  go_loopw [14] (fun i wr => ∃ k : Nat, k ≤ n ∧ i = .int .i64 k ∧ Hid (wr = putB w g 43 (scan t (adv (t.data.toList.take k) (ln, co)).1 (adv (t.data.toList.take k) (ln, co)).2))) (fun i _ => n - (intOf i).toNat)
  case atStart => exact ⟨0, Nat.zero_le _, rfl, by unfold Hid; simp only [List.take_zero, adv_nil]; exact (HB.out.put_self).symm⟩
  case round =>
    obtain ⟨k, hk, rfl, HW⟩ := hrel
    have HBr := Lib.hid (show Blk wr g 43 (scan t (adv (t.data.toList.take k) (ln, co)).1 (adv (t.data.toList.take k) (ln, co)).2) by rw [HW.out]; exact HB.out.put _)
    have hbd := adv_bound (t.data.toList.take k) (ln, co) 4611686018427387904 (by simp; omega) (by simp; omega)
    obtain ⟨l1, hl1⟩ : ∃ l1 : Nat, l1 = (adv (t.data.toList.take k) (ln, co)).1 := ⟨_, rfl⟩
    obtain ⟨c1, hc1⟩ : ∃ c1 : Nat, c1 = (adv (t.data.toList.take k) (ln, co)).2 := ⟨_, rfl⟩
    rw [← hl1, ← hc1] at HBr hbd HW
    have HL := Lib.hid (show adv (t.data.toList.take k) (ln, co) = (l1, c1) by rw [hl1, hc1])
    clear hl1 hc1
    obtain ⟨hb1, hb2⟩ := hbd
    have d0 : wr.cell? ⟨g, 0, none⟩ = some (.string t) := HBr.out.cell 0
    have d1 : wr.cell? ⟨g, 1, none⟩ = some (.int .i64 l1) := HBr.out.cell 1
    have d2 : wr.cell? ⟨g, 2, none⟩ = some (.int .i64 c1) := HBr.out.cell 2
    have f0 : wr.frozen? ⟨g, 0, none⟩ = false := HBr.out.frozen 0
    have f1 : wr.frozen? ⟨g, 1, none⟩ = false := HBr.out.frozen 1
    have f2 : wr.frozen? ⟨g, 2, none⟩ = false := HBr.out.frozen 2
    clear c0
    by_cases hlt : k < n
    · have hlt2 : k < t.size := by omega
      have hlt3 : k < out.size := by rw [HS.out]; exact hlt
      have HT := Lib.hid (take_snoc t k hlt2)
      have HK := Lib.hid (show out[k] = t[k] by
        rw [← getElem_data out k hlt3, ← getElem_data t k hlt2]
        simp only [HO.out, List.getElem_take])
      by_cases h10 : t[k] = 10
      · have h10' : ((out[k].toNat : Int) == 10) = true := by rw [HK.out, h10]; rfl
        have HN := Lib.hid (show adv (t.data.toList.take (k + 1)) (ln, co) = (l1 + 1, 1) by rw [HT.out, adv_snoc, HL.out]; simp [step1, h10])
        clear h10
        go_wp2_with fail
        go_roundw
        case rel =>
          refine ⟨k + 1, by omega, by go_num, ?_⟩
          unfold Hid
          rw [HN.out, HBr.out.setCell_eq, (HBr.out.put _).setCell_eq, putB_putB, (HBr.out.put _).setCell_eq, putB_putB, HW.out, putB_putB]
          rfl
        case measure => simp [intOf]; omega
      · have h10' : ((out[k].toNat : Int) == 10) = false := by
          rw [HK.out, beq_eq_false_iff_ne]
          intro h
          exact h10 (UInt8.toNat_inj.1 (show t[k].toNat = 10 by omega))
        have HN := Lib.hid (show adv (t.data.toList.take (k + 1)) (ln, co) = (l1, c1 + 1) by rw [HT.out, adv_snoc, HL.out]; simp [step1, h10])
        clear h10
        go_wp2_with fail
        go_roundw
        case rel =>
          refine ⟨k + 1, by omega, by go_num, ?_⟩
          unfold Hid
          rw [HN.out, HBr.out.setCell_eq, HW.out, putB_putB]
          rfl
        case measure => simp [intOf]; omega
    · have hkn : k = n := by omega
      subst hkn
      go_wp2_with fail
      have htl : (t.extract k t.size).data.toList = t.data.toList.drop k := by rw [Lib.extract_data, List.take_of_length_le (by simp)]
      go_ret
      refine ⟨out, t.extract k t.size, rfl, HO.out, htl, ?_⟩
      rw [HL.out, HBr.out.setCell_eq, HW.out, putB_putB]
      rfl

theorem skip_at (g : Nat) (t : ByteArray) (ln co n : Nat) (ni : Int) (hni : ni = n) (w : World) (hb : Blk w g 43 (scan t ln co)) (hs : t.size ≤ 65536) (hn : n ≤ t.size)
    (hl : ln + t.size ≤ 70000) (hc : co + t.size ≤ 70000) :
    Calls Tryd.prog 14 #[.pointer (some ⟨g, 0, none⟩), .int .i64 ni] w (Skipped w g t ln co n) := by
  subst hni
  exact skip_any g t ln co n w hb (by unfold maxLen; omega) hn (by omega) (by omega)
end Go.Proofs.YtlmflomonbcjiaaDoor
