/-
  The walk of LexTight.
-/
import Derived.Test.YtgneahnjdoffdaaLexV
import Derived.Test.YtgneahnjdoffdaaLexPlain5
import Derived.Deep.DeepCutAuto
namespace Go.Proofs.Ytgneahnjdoffdaa
open Go.RowKit Go.Fl Go.Fl.Lx

theorem valid1 (l : List UInt8) (h : validP 1 l = true) : (kindOf l).1 = 1 := by
  unfold validP at h
  simp at h
  omega
theorem valid2 (l : List UInt8) (h : validP 2 l = true) : (kindOf l).1 = 2 := by
  unfold validP at h
  simp at h
  omega

theorem Rd_newN (w : World) (e : TypeId) (cs : Array Value) (n size : Nat) (h : cs.toList.length = n * size) : Rd (w.alloc (.cells cs e)) size (some ⟨w.heap.size, 0, none⟩) n cs.toList := by
  refine ⟨h, fun _ => ⟨w.heap.size, 0, rfl, by simp, fun j u hu => ?_⟩⟩
  rw [(Blk.new w e cs).cell]
  simpa using hu
theorem same2_five (a0 a1 a2 a3 a4 b0 b1 b2 b3 b4 : TI) (h0 : same2 a0 b0) (h1 : same2 a1 b1) (h2 : same2 a2 b2) (h3 : same2 a3 b3) (h4 : same2 a4 b4) :
    ∀ (j : Nat) (a b : TI), [a0, a1, a2, a3, a4][j]? = some a → [b0, b1, b2, b3, b4][j]? = some b → same2 a b := by
  intro j a b ha hb
  match j with
  | 0 => simp at ha hb; subst ha hb; exact h0
  | 1 => simp at ha hb; subst ha hb; exact h1
  | 2 => simp at ha hb; subst ha hb; exact h2
  | 3 => simp at ha hb; subst ha hb; exact h3
  | 4 => simp at ha hb; subst ha hb; exact h4
  | n + 5 => simp at ha

set_option maxHeartbeats 1600000 in
set_option maxRecDepth 100000 in
theorem lexTight_any (s t : ByteArray) (k : Int) (w : World) (hs : s.size ≤ maxLen) (ht : t.size ≤ maxLen) (hk : (Lit.int .u8 k).wf = true) :
    Calls Try.prog 5 #[.string s, .string t, .int .u8 k] w fun e w' => e = .returned (.bool true) ∧ Below w.heap.size w w' := by
  have hs' := hs
  have ht' := ht
  unfold maxLen at hs' ht'
  by_cases h1 : 18 < s.size
  · go_enter Try.func5, Try.ntmps5
    go_wp2_with fail
    refine (awake_any _).mono ?_
    rintro e w1 ⟨rfl, hb1⟩
    go_wp2_with fail
    go_ret
    exact ⟨rfl, hb1⟩
  have h1d : decide ((18 : Int) < s.size) = false := by simp; omega
  by_cases h2 : 18 < t.size
  · go_enter Try.func5, Try.ntmps5
    go_wp2_with fail
    refine (awake_any _).mono ?_
    rintro e w1 ⟨rfl, hb1⟩
    go_wp2_with fail
    go_ret
    exact ⟨rfl, hb1⟩
  have h2d : decide ((18 : Int) < t.size) = false := by simp; omega
  by_cases hv1 : validP 1 s.data.toList = false
  · go_enter Try.func5, Try.ntmps5
    go_wp2_with fail
    refine (awake_any _).mono ?_
    rintro e w1 ⟨rfl, hb1⟩
    have HB1 := Lib.hid hb1
    have sz1 := hb1.size
    clear hb1
    go_wp2_with fail
    refine (rvalid_any _ _ _ _ _ hs).mono ?_
    rintro e w2 ⟨rfl, hb2⟩
    go_wp2_with fail
    go_ret
    exact ⟨rfl, HB1.out.trans (hb2.mono sz1)⟩
  have hv1' : validP 1 s.data.toList = true := by simpa using hv1
  clear hv1
  by_cases hv2 : validP 2 t.data.toList = false
  · go_enter Try.func5, Try.ntmps5
    go_wp2_with fail
    refine (awake_any _).mono ?_
    rintro e w1 ⟨rfl, hb1⟩
    have HB1 := Lib.hid hb1
    have sz1 := hb1.size
    clear hb1
    go_wp2_with fail
    refine (rvalid_any _ _ _ _ _ hs).mono ?_
    rintro e w2 ⟨rfl, hb2⟩
    have HB2 := Lib.hid (HB1.out.trans (hb2.mono sz1))
    have sz2 := HB2.out.size
    clear hb2
    go_wp2_with fail
    refine (rvalid_any _ _ _ _ _ ht).mono ?_
    rintro e w3 ⟨rfl, hb3⟩
    go_wp2_with fail
    go_ret
    exact ⟨rfl, HB2.out.trans (hb3.mono sz2)⟩
  have hv2' : validP 2 t.data.toList = true := by simpa using hv2
  clear hv2
  have HK1 := Lib.hid (valid1 _ hv1')
  have HK2 := Lib.hid (valid2 _ hv2')
  have hk0 : 0 ≤ k ∧ k ≤ 255 := by
    have h := hk
    simp [Lit.wf, IntKind.min, IntKind.max, IntKind.signed, IntKind.bits] at h
    omega
  obtain ⟨hk0, hk1⟩ := hk0
  go_enter Try.func5, Try.ntmps5
  go_wp2_with fail
  refine (awake_any _).mono ?_
  rintro e w1 ⟨rfl, hb1⟩
  have HB1 := Lib.hid hb1
  have sz1 := hb1.size
  clear hb1
  go_wp2_with fail
  refine (rvalid_any _ _ _ _ _ hs).mono ?_
  rintro e w2 ⟨rfl, hb2⟩
  have HB2 := Lib.hid (HB1.out.trans (hb2.mono sz1))
  have sz2 := HB2.out.size
  clear hb2
  go_wp2_with fail
  refine (rvalid_any _ _ _ _ _ ht).mono ?_
  rintro e w3 ⟨rfl, hb3⟩
  have HB3 := Lib.hid (HB2.out.trans (hb3.mono sz2))
  have sz3 := HB3.out.size
  clear hb3
  go_upto_region 5 with fail
  go_cut [7] (fun s7 wx => w3 = wx ∧ ∃ c : UInt8, s7 = .string ⟨#[c]⟩ ∧ Hid (isSym c = true))
  case first =>
    -- DEV{
    rcases (by omega : k % 16 = 0 ∨ k % 16 = 1 ∨ k % 16 = 2 ∨ k % 16 = 3 ∨ k % 16 = 4 ∨ k % 16 = 5 ∨ k % 16 = 6 ∨ k % 16 = 7 ∨ k % 16 = 8 ∨ k % 16 = 9 ∨ k % 16 = 10 ∨ k % 16 = 11 ∨ k % 16 = 12 ∨ k % 16 = 13 ∨ k % 16 = 14 ∨ k % 16 = 15) with h | h | h | h | h | h | h | h | h | h | h | h | h | h | h | h
    · go_wp2_with fail
      go_meet
      exact ⟨rfl, 40, congrArg Value.string (by kernel_rfl), by unfold Hid; decide⟩
    · go_wp2_with fail
      go_meet
      exact ⟨rfl, 41, congrArg Value.string (by kernel_rfl), by unfold Hid; decide⟩
    · go_wp2_with fail
      go_meet
      exact ⟨rfl, 91, congrArg Value.string (by kernel_rfl), by unfold Hid; decide⟩
    · go_wp2_with fail
      go_meet
      exact ⟨rfl, 93, congrArg Value.string (by kernel_rfl), by unfold Hid; decide⟩
    · go_wp2_with fail
      go_meet
      exact ⟨rfl, 123, congrArg Value.string (by kernel_rfl), by unfold Hid; decide⟩
    · go_wp2_with fail
      go_meet
      exact ⟨rfl, 125, congrArg Value.string (by kernel_rfl), by unfold Hid; decide⟩
    · go_wp2_with fail
      go_meet
      exact ⟨rfl, 44, congrArg Value.string (by kernel_rfl), by unfold Hid; decide⟩
    · go_wp2_with fail
      go_meet
      exact ⟨rfl, 59, congrArg Value.string (by kernel_rfl), by unfold Hid; decide⟩
    · go_wp2_with fail
      go_meet
      exact ⟨rfl, 58, congrArg Value.string (by kernel_rfl), by unfold Hid; decide⟩
    · go_wp2_with fail
      go_meet
      exact ⟨rfl, 39, congrArg Value.string (by kernel_rfl), by unfold Hid; decide⟩
    · go_wp2_with fail
      go_meet
      exact ⟨rfl, 61, congrArg Value.string (by kernel_rfl), by unfold Hid; decide⟩
    · go_wp2_with fail
      go_meet
      exact ⟨rfl, 43, congrArg Value.string (by kernel_rfl), by unfold Hid; decide⟩
    · go_wp2_with fail
      go_meet
      exact ⟨rfl, 45, congrArg Value.string (by kernel_rfl), by unfold Hid; decide⟩
    · go_wp2_with fail
      go_meet
      exact ⟨rfl, 42, congrArg Value.string (by kernel_rfl), by unfold Hid; decide⟩
    · go_wp2_with fail
      go_meet
      exact ⟨rfl, 47, congrArg Value.string (by kernel_rfl), by unfold Hid; decide⟩
    · go_wp2_with fail
      go_meet
      exact ⟨rfl, 94, congrArg Value.string (by kernel_rfl), by unfold Hid; decide⟩
    -- DEV}
  case rest =>
    obtain ⟨rfl, c, rfl, HC⟩ := hcut
    have hpos := run_eql_pos
    go_wp2_with fail
    have ha : (s ++ ⟨#[c]⟩ ++ t ++ ⟨#[c]⟩ ++ ⟨#[c]⟩ : ByteArray).data.toList = s.data.toList ++ [c] ++ t.data.toList ++ [c] ++ [c] := by simp [ByteArray.data_append]
    have hasz : (s ++ ⟨#[c]⟩ ++ t ++ ⟨#[c]⟩ ++ ⟨#[c]⟩ : ByteArray).size ≤ maxLen := by rw [← length_data, ha]; unfold maxLen; simp; omega
    obtain ⟨p, q, r, u, v, hres⟩ := tight1 s.data.toList t.data.toList c HK1.out HK2.out HC.out (by simp; omega) (by simp; omega)
    rw [← ha] at hres
    have HRES := Lib.hid (show quad (lexRes (s ++ ⟨#[c]⟩ ++ t ++ ⟨#[c]⟩ ++ ⟨#[c]⟩ : ByteArray).data.toList) = ([⟨1, s.data.toList, p, q⟩, ⟨3, [c], p, r⟩, ⟨2, t.data.toList, p, u⟩, ⟨3, [c], p, v⟩, ⟨3, [c], p, v + 1⟩], 0, 0, 0) by rw [hres]; rfl)
    clear hres ha
    refine (split_quad _ _ hasz _ _ _ _ HRES.out).mono ?_
    rintro e w4 ⟨A, ca, rfl, _, HR4, HB4⟩
    have sz4 := HB4.out.size
    clear hasz
    go_wp2_with fail
    have HRw := Lib.hid (Rd_newN (w4.alloc (.cells #[.int .i64 0, .int .i64 0] 25)) 38 #[.int .i64 1, .string s, .int .i64 0, .int .i64 0, .int .i64 3, .string ⟨#[c]⟩, .int .i64 0, .int .i64 0, .int .i64 2, .string t, .int .i64 0, .int .i64 0, .int .i64 3, .string ⟨#[c]⟩, .int .i64 0, .int .i64 0, .int .i64 3, .string ⟨#[c]⟩, .int .i64 0, .int .i64 0] 5 4 rfl)
    have HR4' := Lib.hid ((HR4.out.alloc (.cells #[.int .i64 0, .int .i64 0] 25)).alloc (.cells #[.int .i64 1, .string s, .int .i64 0, .int .i64 0, .int .i64 3, .string ⟨#[c]⟩, .int .i64 0, .int .i64 0, .int .i64 2, .string t, .int .i64 0, .int .i64 0, .int .i64 3, .string ⟨#[c]⟩, .int .i64 0, .int .i64 0, .int .i64 3, .string ⟨#[c]⟩, .int .i64 0, .int .i64 0] 38))
    refine (alike_same A (some ⟨w4.heap.size + 1, 0, none⟩) 5 5 ca 5 [⟨1, s.data.toList, p, q⟩, ⟨3, [c], p, r⟩, ⟨2, t.data.toList, p, u⟩, ⟨3, [c], p, v⟩, ⟨3, [c], p, (v + 1 : Nat)⟩] [⟨1, s.data.toList, 0, 0⟩, ⟨3, [c], 0, 0⟩, ⟨2, t.data.toList, 0, 0⟩, ⟨3, [c], 0, 0⟩, ⟨3, [c], 0, 0⟩] _ rfl rfl rfl
      (same2_five _ _ _ _ _ _ _ _ _ _ ⟨rfl, rfl⟩ ⟨rfl, rfl⟩ ⟨rfl, rfl⟩ ⟨rfl, rfl⟩ ⟨rfl, rfl⟩) HR4'.out (by have h := HRw.out; rw [show (w4.alloc (.cells #[.int .i64 0, .int .i64 0] 25)).heap.size = w4.heap.size + 1 by simp] at h; exact h) (by omega)).mono ?_
    rintro e w5 ⟨rfl, hb5⟩
    have HB5 := Lib.hid (show Below w.heap.size w w5 from (((HB3.out.trans (HB4.out.mono sz3)).alloc (by omega) _).alloc (by simp; omega) _).trans (hb5.mono (by simp; omega)))
    have sz5 := HB5.out.size
    clear hb5
    go_wp2_with fail
    have ha : (⟨#[c]⟩ ++ t ++ s : ByteArray).data.toList = [c] ++ t.data.toList ++ s.data.toList := by simp [ByteArray.data_append]
    have hasz : (⟨#[c]⟩ ++ t ++ s : ByteArray).size ≤ maxLen := by rw [← length_data, ha]; unfold maxLen; simp; omega
    have hres := tight2 s.data.toList t.data.toList c HK1.out HK2.out HC.out (by simp; omega) (by simp; omega)
    rw [← ha] at hres
    have HRES2 := Lib.hid (show quad (lexRes (⟨#[c]⟩ ++ t ++ s : ByteArray).data.toList) = ([], 1, 2, 3) by rw [hres]; rfl)
    clear hres ha
    refine (split_quad _ _ hasz _ _ _ _ HRES2.out).mono ?_
    rintro e w6 ⟨A6, c6, rfl, _, _, HB6⟩
    have HB6' := Lib.hid (HB5.out.trans (HB6.out.mono sz5))
    have sz6 := HB6'.out.size
    clear hasz
    go_wp2_with fail
    have ha : (⟨#[46]⟩ ++ t : ByteArray).data.toList = [46] ++ t.data.toList := by simp [ByteArray.data_append]
    have hasz : (⟨#[46]⟩ ++ t : ByteArray).size ≤ maxLen := by rw [← length_data, ha]; unfold maxLen; simp; omega
    have hres := tight3 t.data.toList HK2.out (by simp; omega)
    rw [← ha] at hres
    have HRES3 := Lib.hid (show quad (lexRes (⟨#[46]⟩ ++ t : ByteArray).data.toList) = ([], 1, 1, 3) by rw [hres]; rfl)
    clear hres ha
    refine (split_quad _ _ hasz _ _ _ _ HRES3.out).mono ?_
    rintro e w7 ⟨A7, c7, rfl, _, _, HB7⟩
    have HBL := Lib.hid (show Blk w7 w6.heap.size 25 #[.int .i64 1, .int .i64 2] from (Blk.new w6 _ _).below HB7.out (by simp))
    have HB7' := Lib.hid (show Below w.heap.size w w7 from (HB6'.out.alloc (by omega) _).trans (HB7.out.mono (by simp; omega)))
    have sz7 := HB7'.out.size
    have d0 : ∀ o, (w7.alloc o).cell? ⟨w6.heap.size, 0, none⟩ = some (.int .i64 1) := fun o => (HBL.out.alloc o).cell 0
    have d1 : ∀ o, (w7.alloc o).cell? ⟨w6.heap.size, 1, none⟩ = some (.int .i64 2) := fun o => (HBL.out.alloc o).cell 1
    clear hasz
    go_wp2_with fail
    go_ret
    exact ⟨rfl, HB7'.out.alloc (by omega) _⟩
end Go.Proofs.Ytgneahnjdoffdaa
