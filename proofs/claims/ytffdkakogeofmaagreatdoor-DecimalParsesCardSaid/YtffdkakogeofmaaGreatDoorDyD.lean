/-
  The walks of dyadic.Int, Bits, Top, Sign, shifted, Neg.
-/
import Derived.Test.YtffdkakogeofmaaGreatDoorDyC
import Derived.Test.YtffdkakogeofmaaGreatDoorPkA
import Derived.StillTailTactics
set_option linter.unusedVariables false
namespace Go.Fl.Nm
open Go.RowKit Go.Fl
theorem Sl.two {w : World} {g : Nat} {t : TypeId} {x y : Nat} {a b : Int} (hB : Blk w g t #[.int .u32 a, .int .u32 b]) (ha : a = x) (hb : b = y) (hx : x < BB) (hy : y < BB) : Sl w (some ⟨g, 0, none⟩) 2 2 [x, y] := by
  subst ha hb
  exact (Nw.of_blk (base := 0) (l := [x, y]) hB (ok_cons.2 ⟨hx, ok_cons.2 ⟨hy, ok_nil⟩⟩) (Nat.zero_le _) rfl (by unfold maxLen; simp)).sl
end Go.Fl.Nm
namespace Go.Fl
open Go.RowKit
theorem store3_far {w : World} {g g' i : Nat} {t : TypeId} {x y z v : Value} (hB : Blk w g' t #[x, y, z]) (hc : w.cell? ⟨g, i, none⟩ = some v) (hne : g ≠ g') (a b c : Value) : (((w.setCell ⟨g', 0, none⟩ a).setCell ⟨g', 1, none⟩ b).setCell ⟨g', 2, none⟩ c).cell? ⟨g, i, none⟩ = some v := by
  rw [store3_put hB]
  exact (putB_grown w g' t _).cell hc (by simpa using hne)
end Go.Fl
namespace Go.Proofs.YtffdkakogeofmaaGreatDoor
open Go.RowKit Go.Fl Go.Fl.Nm Go.Fl.Dy
/-- Limbs of a number. -/
def SlP (v : Nat) (w : World) (e : Ending) (w' : World) : Prop :=
  ∃ (A : Option Addr) (n : Nat), e = .returned (.slice A n n) ∧ Hid (Sl w' A n n (limbs v)) ∧ Hid (Below w.heap.size w w')

set_option maxHeartbeats 400000 in
theorem shifted_any (A : Option Addr) (n c : Nat) (l : List Nat) (k : Int) (w : World) (h : Sl w A n c l) (hn : n ≤ 256) (hk : 0 ≤ k) (hk1 : k ≤ 65536) (hv : blen (2 ^ k.toNat * val l) ≤ 8192) :
    Calls Tryz.prog 116 #[.slice A n c, .int .i64 k] w (SlP (2 ^ k.toNat * val l) w) := by
  go_enter Tryz.func116, Tryz.ntmps116
  go_wp2_with fail
  refine (nShl_sl A n c l w h hn k hk hk1 hv).mono ?_
  rintro e w1 ⟨X, x, rfl, HX, HB⟩
  go_wp2_with fail
  go_ret
  exact ⟨X, x, rfl, HX, HB⟩

set_option maxHeartbeats 1000000 in
theorem dbits_any (d : D) (A : Option Addr) (n c : Nat) (w : World) (h : Sl w A n c (limbs d.k)) (hv : vld d) :
    Calls Tryz.prog 21 #[.agg #[.bool d.neg, .slice A n c, .int .i64 d.e]] w (Ret (.int .i64 (blen d.k : Nat)) w) := by
  have H := Lib.hid h
  have HLM := Lib.hid (vld_len hv)
  have hn : n ≤ 256 := by rw [← h.len]; exact HLM.out
  have hb := vld_ebd hv
  have hbb := vld_bits hv
  have HN := Lib.hid h.len
  have HV := Lib.hid hv
  clear h hv
  go_enter Tryz.func21, Tryz.ntmps21
  go_wp2_with fail
  obtain ⟨w1, hw⟩ : ∃ x, x = (w.alloc (.cells #[.bool d.neg, .slice A n c, .int .i64 d.e] 25)) := ⟨_, rfl⟩
  have HB1 := Lib.hid (show Below w.heap.size w w1 by rw [hw]; exact below_a1 _ _)
  have F1a := Lib.hid (H.out.belowW HB1.out)
  have F1d := Lib.hid (show Blk w1 (w.heap.size) 25 #[.bool d.neg, .slice A n c, .int .i64 d.e] by rw [hw]; exact Blk.new _ _ _)
  rw [← hw]
  clear hw
  have pd0 : (w1).cell? ⟨w.heap.size, 0, none⟩ = some (.bool d.neg) := F1d.out.cell 0
  have fd0 : (w1).frozen? ⟨w.heap.size, 0, none⟩ = false := F1d.out.frozen 0
  have pd1 : (w1).cell? ⟨w.heap.size, 1, none⟩ = some (.slice A n c) := F1d.out.cell 1
  have fd1 : (w1).frozen? ⟨w.heap.size, 1, none⟩ = false := F1d.out.frozen 1
  have pd2 : (w1).cell? ⟨w.heap.size, 2, none⟩ = some (.int .i64 d.e) := F1d.out.cell 2
  have fd2 : (w1).frozen? ⟨w.heap.size, 2, none⟩ = false := F1d.out.frozen 2
  go_wp2_with fail
  refine (valid_yes d A n c w1 F1a.out HV.out).mono ?_
  rintro e w2 ⟨rfl, HB2⟩
  have F2a := Lib.hid (F1a.out.belowW HB2.out)
  have F2d := Lib.hid (F1d.out.belowW HB2.out)
  have HL2 := Lib.hid (HB1.out.trans (HB2.out.mono HB1.out.size))
  clear pd0 pd1 pd2 fd0 fd1 fd2
  have pd0 : (w2).cell? ⟨w.heap.size, 0, none⟩ = some (.bool d.neg) := F2d.out.cell 0
  have fd0 : (w2).frozen? ⟨w.heap.size, 0, none⟩ = false := F2d.out.frozen 0
  have pd1 : (w2).cell? ⟨w.heap.size, 1, none⟩ = some (.slice A n c) := F2d.out.cell 1
  have fd1 : (w2).frozen? ⟨w.heap.size, 1, none⟩ = false := F2d.out.frozen 1
  have pd2 : (w2).cell? ⟨w.heap.size, 2, none⟩ = some (.int .i64 d.e) := F2d.out.cell 2
  have fd2 : (w2).frozen? ⟨w.heap.size, 2, none⟩ = false := F2d.out.frozen 2
  go_wp2_with fail
  refine (size_any A n c _ w2 F2a.out (by omega)).mono ?_
  rw [val_limbs]
  rintro e w' ⟨rfl, rfl⟩
  go_wp2_with fail
  go_ret
  exact ⟨rfl, HL2⟩

set_option maxHeartbeats 1000000 in
theorem top_any (d : D) (A : Option Addr) (n c : Nat) (w : World) (h : Sl w A n c (limbs d.k)) (hv : vld d) (hz : d.k ≠ 0) :
    Calls Tryz.prog 17 #[.agg #[.bool d.neg, .slice A n c, .int .i64 d.e]] w (Ret (.int .i64 ((blen d.k : Int) + d.e)) w) := by
  have H := Lib.hid h
  have HLM := Lib.hid (vld_len hv)
  have hn : n ≤ 256 := by rw [← h.len]; exact HLM.out
  have hb := vld_ebd hv
  have hbb := vld_bits hv
  have HN := Lib.hid h.len
  have HV := Lib.hid hv
  clear h hv
  have hk0 : n ≠ 0 := by rw [← HN.out]; intro h; have := limbs_eq_nil.1 (List.eq_nil_of_length_eq_zero h); exact hz this
  have dk : ((n : Int) == 0) = false := by rw [beq_eq_false_iff_ne]; omega
  clear hz
  have hsum : IntKind.i64.wrap ((blen d.k : Int) + d.e) = (blen d.k : Int) + d.e := IntWalk.i64_in _ (by omega)
  go_enter Tryz.func17, Tryz.ntmps17
  go_wp2_with fail
  obtain ⟨w1, hw⟩ : ∃ x, x = (w.alloc (.cells #[.bool d.neg, .slice A n c, .int .i64 d.e] 25)) := ⟨_, rfl⟩
  have HB1 := Lib.hid (show Below w.heap.size w w1 by rw [hw]; exact below_a1 _ _)
  have F1a := Lib.hid (H.out.belowW HB1.out)
  have F1d := Lib.hid (show Blk w1 (w.heap.size) 25 #[.bool d.neg, .slice A n c, .int .i64 d.e] by rw [hw]; exact Blk.new _ _ _)
  rw [← hw]
  clear hw
  have pd0 : (w1).cell? ⟨w.heap.size, 0, none⟩ = some (.bool d.neg) := F1d.out.cell 0
  have fd0 : (w1).frozen? ⟨w.heap.size, 0, none⟩ = false := F1d.out.frozen 0
  have pd1 : (w1).cell? ⟨w.heap.size, 1, none⟩ = some (.slice A n c) := F1d.out.cell 1
  have fd1 : (w1).frozen? ⟨w.heap.size, 1, none⟩ = false := F1d.out.frozen 1
  have pd2 : (w1).cell? ⟨w.heap.size, 2, none⟩ = some (.int .i64 d.e) := F1d.out.cell 2
  have fd2 : (w1).frozen? ⟨w.heap.size, 2, none⟩ = false := F1d.out.frozen 2
  go_wp2_with fail
  refine (valid_yes d A n c w1 F1a.out HV.out).mono ?_
  rintro e w2 ⟨rfl, HB2⟩
  have F2a := Lib.hid (F1a.out.belowW HB2.out)
  have F2d := Lib.hid (F1d.out.belowW HB2.out)
  have HL2 := Lib.hid (HB1.out.trans (HB2.out.mono HB1.out.size))
  clear pd0 pd1 pd2 fd0 fd1 fd2
  have pd0 : (w2).cell? ⟨w.heap.size, 0, none⟩ = some (.bool d.neg) := F2d.out.cell 0
  have fd0 : (w2).frozen? ⟨w.heap.size, 0, none⟩ = false := F2d.out.frozen 0
  have pd1 : (w2).cell? ⟨w.heap.size, 1, none⟩ = some (.slice A n c) := F2d.out.cell 1
  have fd1 : (w2).frozen? ⟨w.heap.size, 1, none⟩ = false := F2d.out.frozen 1
  have pd2 : (w2).cell? ⟨w.heap.size, 2, none⟩ = some (.int .i64 d.e) := F2d.out.cell 2
  have fd2 : (w2).frozen? ⟨w.heap.size, 2, none⟩ = false := F2d.out.frozen 2
  go_wp2_with fail
  have KB := Lib.hid (show ∀ q, Calls Tryz.prog 50 #[.slice A n c] (w2.drewN q) (fun e w' => e = .returned (.int .i64 (blen d.k : Nat)) ∧ w2.drewN q = w') from fun q => by have := size_any A n c _ (w2.drewN q) (F2a.out.drewN q) (by omega); rwa [val_limbs] at this)
  go_quiet ((go_at_call 50; exact quiet_left (KB.out _)))
  go_wp2_with fail
  go_ret
  exact ⟨rfl, Lib.hid (below_drewN HL2.out _)⟩

set_option maxHeartbeats 1000000 in
theorem sign_zero (d : D) (A : Option Addr) (n c : Nat) (w : World) (h : Sl w A n c (limbs d.k)) (hv : vld d) (hz : d.k = 0) :
    Calls Tryz.prog 86 #[.agg #[.bool d.neg, .slice A n c, .int .i64 d.e]] w (Ret (.int .i64 (sg d)) w) := by
  have H := Lib.hid h
  have HLM := Lib.hid (vld_len hv)
  have hn : n ≤ 256 := by rw [← h.len]; exact HLM.out
  have hb := vld_ebd hv
  have hbb := vld_bits hv
  have HN := Lib.hid h.len
  have HV := Lib.hid hv
  clear h hv
  obtain rfl : n = 0 := by rw [← HN.out, hz, limbs_zero]; rfl
  have HR := Lib.hid (show sg d = 0 by unfold sg; rw [if_pos hz])
  clear hz
  go_enter Tryz.func86, Tryz.ntmps86
  go_wp2_with fail
  obtain ⟨w1, hw⟩ : ∃ x, x = (w.alloc (.cells #[.bool d.neg, .slice A 0 c, .int .i64 d.e] 25)) := ⟨_, rfl⟩
  have HB1 := Lib.hid (show Below w.heap.size w w1 by rw [hw]; exact below_a1 _ _)
  have F1a := Lib.hid (H.out.belowW HB1.out)
  have F1d := Lib.hid (show Blk w1 (w.heap.size) 25 #[.bool d.neg, .slice A 0 c, .int .i64 d.e] by rw [hw]; exact Blk.new _ _ _)
  rw [← hw]
  clear hw
  have pd0 : (w1).cell? ⟨w.heap.size, 0, none⟩ = some (.bool d.neg) := F1d.out.cell 0
  have fd0 : (w1).frozen? ⟨w.heap.size, 0, none⟩ = false := F1d.out.frozen 0
  have pd1 : (w1).cell? ⟨w.heap.size, 1, none⟩ = some (.slice A 0 c) := F1d.out.cell 1
  have fd1 : (w1).frozen? ⟨w.heap.size, 1, none⟩ = false := F1d.out.frozen 1
  have pd2 : (w1).cell? ⟨w.heap.size, 2, none⟩ = some (.int .i64 d.e) := F1d.out.cell 2
  have fd2 : (w1).frozen? ⟨w.heap.size, 2, none⟩ = false := F1d.out.frozen 2
  go_wp2_with fail
  refine (valid_yes d A 0 c w1 F1a.out HV.out).mono ?_
  rintro e w2 ⟨rfl, HB2⟩
  have F2a := Lib.hid (F1a.out.belowW HB2.out)
  have F2d := Lib.hid (F1d.out.belowW HB2.out)
  have HL2 := Lib.hid (HB1.out.trans (HB2.out.mono HB1.out.size))
  clear pd0 pd1 pd2 fd0 fd1 fd2
  have pd0 : (w2).cell? ⟨w.heap.size, 0, none⟩ = some (.bool d.neg) := F2d.out.cell 0
  have fd0 : (w2).frozen? ⟨w.heap.size, 0, none⟩ = false := F2d.out.frozen 0
  have pd1 : (w2).cell? ⟨w.heap.size, 1, none⟩ = some (.slice A 0 c) := F2d.out.cell 1
  have fd1 : (w2).frozen? ⟨w.heap.size, 1, none⟩ = false := F2d.out.frozen 1
  have pd2 : (w2).cell? ⟨w.heap.size, 2, none⟩ = some (.int .i64 d.e) := F2d.out.cell 2
  have fd2 : (w2).frozen? ⟨w.heap.size, 2, none⟩ = false := F2d.out.frozen 2
  go_wp2_with fail
  go_ret
  exact ⟨ret_int (by rw [HR.out]), HL2⟩

set_option maxHeartbeats 1000000 in
theorem sign_neg (d : D) (A : Option Addr) (n c : Nat) (w : World) (h : Sl w A n c (limbs d.k)) (hv : vld d) (hz : d.k ≠ 0) (hg : d.neg = true) :
    Calls Tryz.prog 86 #[.agg #[.bool d.neg, .slice A n c, .int .i64 d.e]] w (Ret (.int .i64 (sg d)) w) := by
  have H := Lib.hid h
  have HLM := Lib.hid (vld_len hv)
  have hn : n ≤ 256 := by rw [← h.len]; exact HLM.out
  have hb := vld_ebd hv
  have hbb := vld_bits hv
  have HN := Lib.hid h.len
  have HV := Lib.hid hv
  clear h hv
  have hk0 : n ≠ 0 := by rw [← HN.out]; intro h; have := limbs_eq_nil.1 (List.eq_nil_of_length_eq_zero h); exact hz this
  have dk : ((n : Int) == 0) = false := by rw [beq_eq_false_iff_ne]; omega
  have HR := Lib.hid (show sg d = -1 by unfold sg; rw [if_neg hz]; simp [hg])
  have HG := Lib.hid hg
  clear hz hg
  go_enter Tryz.func86, Tryz.ntmps86
  go_wp2_with fail
  obtain ⟨w1, hw⟩ : ∃ x, x = (w.alloc (.cells #[.bool d.neg, .slice A n c, .int .i64 d.e] 25)) := ⟨_, rfl⟩
  have HB1 := Lib.hid (show Below w.heap.size w w1 by rw [hw]; exact below_a1 _ _)
  have F1a := Lib.hid (H.out.belowW HB1.out)
  have F1d := Lib.hid (show Blk w1 (w.heap.size) 25 #[.bool d.neg, .slice A n c, .int .i64 d.e] by rw [hw]; exact Blk.new _ _ _)
  rw [← hw]
  clear hw
  have pd0 : (w1).cell? ⟨w.heap.size, 0, none⟩ = some (.bool d.neg) := F1d.out.cell 0
  have fd0 : (w1).frozen? ⟨w.heap.size, 0, none⟩ = false := F1d.out.frozen 0
  have pd1 : (w1).cell? ⟨w.heap.size, 1, none⟩ = some (.slice A n c) := F1d.out.cell 1
  have fd1 : (w1).frozen? ⟨w.heap.size, 1, none⟩ = false := F1d.out.frozen 1
  have pd2 : (w1).cell? ⟨w.heap.size, 2, none⟩ = some (.int .i64 d.e) := F1d.out.cell 2
  have fd2 : (w1).frozen? ⟨w.heap.size, 2, none⟩ = false := F1d.out.frozen 2
  go_wp2_with fail
  refine (valid_yes d A n c w1 F1a.out HV.out).mono ?_
  rintro e w2 ⟨rfl, HB2⟩
  have F2a := Lib.hid (F1a.out.belowW HB2.out)
  have F2d := Lib.hid (F1d.out.belowW HB2.out)
  have HL2 := Lib.hid (HB1.out.trans (HB2.out.mono HB1.out.size))
  clear pd0 pd1 pd2 fd0 fd1 fd2
  have pd0 : (w2).cell? ⟨w.heap.size, 0, none⟩ = some (.bool d.neg) := F2d.out.cell 0
  have fd0 : (w2).frozen? ⟨w.heap.size, 0, none⟩ = false := F2d.out.frozen 0
  have pd1 : (w2).cell? ⟨w.heap.size, 1, none⟩ = some (.slice A n c) := F2d.out.cell 1
  have fd1 : (w2).frozen? ⟨w.heap.size, 1, none⟩ = false := F2d.out.frozen 1
  have pd2 : (w2).cell? ⟨w.heap.size, 2, none⟩ = some (.int .i64 d.e) := F2d.out.cell 2
  have fd2 : (w2).frozen? ⟨w.heap.size, 2, none⟩ = false := F2d.out.frozen 2
  rw [HG.out] at pd0
  go_wp2_with fail
  go_ret
  exact ⟨ret_int (by rw [HR.out]), HL2⟩

set_option maxHeartbeats 1000000 in
theorem sign_pos (d : D) (A : Option Addr) (n c : Nat) (w : World) (h : Sl w A n c (limbs d.k)) (hv : vld d) (hz : d.k ≠ 0) (hg : d.neg = false) :
    Calls Tryz.prog 86 #[.agg #[.bool d.neg, .slice A n c, .int .i64 d.e]] w (Ret (.int .i64 (sg d)) w) := by
  have H := Lib.hid h
  have HLM := Lib.hid (vld_len hv)
  have hn : n ≤ 256 := by rw [← h.len]; exact HLM.out
  have hb := vld_ebd hv
  have hbb := vld_bits hv
  have HN := Lib.hid h.len
  have HV := Lib.hid hv
  clear h hv
  have hk0 : n ≠ 0 := by rw [← HN.out]; intro h; have := limbs_eq_nil.1 (List.eq_nil_of_length_eq_zero h); exact hz this
  have dk : ((n : Int) == 0) = false := by rw [beq_eq_false_iff_ne]; omega
  have HR := Lib.hid (show sg d = 1 by unfold sg; rw [if_neg hz]; simp [hg])
  have HG := Lib.hid hg
  clear hz hg
  go_enter Tryz.func86, Tryz.ntmps86
  go_wp2_with fail
  obtain ⟨w1, hw⟩ : ∃ x, x = (w.alloc (.cells #[.bool d.neg, .slice A n c, .int .i64 d.e] 25)) := ⟨_, rfl⟩
  have HB1 := Lib.hid (show Below w.heap.size w w1 by rw [hw]; exact below_a1 _ _)
  have F1a := Lib.hid (H.out.belowW HB1.out)
  have F1d := Lib.hid (show Blk w1 (w.heap.size) 25 #[.bool d.neg, .slice A n c, .int .i64 d.e] by rw [hw]; exact Blk.new _ _ _)
  rw [← hw]
  clear hw
  have pd0 : (w1).cell? ⟨w.heap.size, 0, none⟩ = some (.bool d.neg) := F1d.out.cell 0
  have fd0 : (w1).frozen? ⟨w.heap.size, 0, none⟩ = false := F1d.out.frozen 0
  have pd1 : (w1).cell? ⟨w.heap.size, 1, none⟩ = some (.slice A n c) := F1d.out.cell 1
  have fd1 : (w1).frozen? ⟨w.heap.size, 1, none⟩ = false := F1d.out.frozen 1
  have pd2 : (w1).cell? ⟨w.heap.size, 2, none⟩ = some (.int .i64 d.e) := F1d.out.cell 2
  have fd2 : (w1).frozen? ⟨w.heap.size, 2, none⟩ = false := F1d.out.frozen 2
  go_wp2_with fail
  refine (valid_yes d A n c w1 F1a.out HV.out).mono ?_
  rintro e w2 ⟨rfl, HB2⟩
  have F2a := Lib.hid (F1a.out.belowW HB2.out)
  have F2d := Lib.hid (F1d.out.belowW HB2.out)
  have HL2 := Lib.hid (HB1.out.trans (HB2.out.mono HB1.out.size))
  clear pd0 pd1 pd2 fd0 fd1 fd2
  have pd0 : (w2).cell? ⟨w.heap.size, 0, none⟩ = some (.bool d.neg) := F2d.out.cell 0
  have fd0 : (w2).frozen? ⟨w.heap.size, 0, none⟩ = false := F2d.out.frozen 0
  have pd1 : (w2).cell? ⟨w.heap.size, 1, none⟩ = some (.slice A n c) := F2d.out.cell 1
  have fd1 : (w2).frozen? ⟨w.heap.size, 1, none⟩ = false := F2d.out.frozen 1
  have pd2 : (w2).cell? ⟨w.heap.size, 2, none⟩ = some (.int .i64 d.e) := F2d.out.cell 2
  have fd2 : (w2).frozen? ⟨w.heap.size, 2, none⟩ = false := F2d.out.frozen 2
  rw [HG.out] at pd0
  go_wp2_with fail
  go_ret
  exact ⟨ret_int (by rw [HR.out]), HL2⟩
theorem sign_any (d : D) (A : Option Addr) (n c : Nat) (w : World) (h : Sl w A n c (limbs d.k)) (hv : vld d) : Calls Tryz.prog 86 #[.agg #[.bool d.neg, .slice A n c, .int .i64 d.e]] w (Ret (.int .i64 (sg d)) w) := by
  by_cases hz : d.k = 0
  · exact sign_zero d A n c w h hv hz
  · cases hg : d.neg with
    | true => rw [← hg]; exact sign_neg d A n c w h hv hz hg
    | false => rw [← hg]; exact sign_pos d A n c w h hv hz hg

set_option maxHeartbeats 1000000 in
theorem neg_zero (d : D) (A : Option Addr) (n c : Nat) (w : World) (h : Sl w A n c (limbs d.k)) (hv : vld d) (hz : d.k = 0) :
    Calls Tryz.prog 170 #[.agg #[.bool d.neg, .slice A n c, .int .i64 d.e]] w (DyR (negD d) w) := by
  have H := Lib.hid h
  have HLM := Lib.hid (vld_len hv)
  have hn : n ≤ 256 := by rw [← h.len]; exact HLM.out
  have hb := vld_ebd hv
  have hbb := vld_bits hv
  have HN := Lib.hid h.len
  have HV := Lib.hid hv
  clear h hv
  obtain rfl : n = 0 := by rw [← HN.out, hz, limbs_zero]; rfl
  have HR := Lib.hid (show negD d = ⟨false, 0, 0⟩ by unfold negD; rw [if_pos hz])
  clear hz
  go_enter Tryz.func170, Tryz.ntmps170
  go_wp2_with fail
  obtain ⟨w1, hw⟩ : ∃ x, x = ((w.alloc (.cells #[.bool d.neg, .slice A 0 c, .int .i64 d.e] 25)).alloc (.cells #[.bool false, .slice none 0 0, .int .i64 0] 25)) := ⟨_, rfl⟩
  have HB1 := Lib.hid (show Below w.heap.size w w1 by rw [hw]; exact below_a2 _ _ _)
  have F1a := Lib.hid (H.out.belowW HB1.out)
  have F1d := Lib.hid (show Blk w1 (w.heap.size) 25 #[.bool d.neg, .slice A 0 c, .int .i64 d.e] by rw [hw]; exact (Blk.new _ _ _).alloc _)
  have F1r := Lib.hid (show Blk w1 (w.heap.size + 1) 25 #[.bool false, .slice none 0 0, .int .i64 0] by rw [hw]; exact Blk.new1 _ _ _ _)
  rw [← hw]
  clear hw
  have pd0 : (w1).cell? ⟨w.heap.size, 0, none⟩ = some (.bool d.neg) := F1d.out.cell 0
  have fd0 : (w1).frozen? ⟨w.heap.size, 0, none⟩ = false := F1d.out.frozen 0
  have pd1 : (w1).cell? ⟨w.heap.size, 1, none⟩ = some (.slice A 0 c) := F1d.out.cell 1
  have fd1 : (w1).frozen? ⟨w.heap.size, 1, none⟩ = false := F1d.out.frozen 1
  have pd2 : (w1).cell? ⟨w.heap.size, 2, none⟩ = some (.int .i64 d.e) := F1d.out.cell 2
  have fd2 : (w1).frozen? ⟨w.heap.size, 2, none⟩ = false := F1d.out.frozen 2
  go_wp2_with fail
  refine (valid_yes d A 0 c w1 F1a.out HV.out).mono ?_
  rintro e w2 ⟨rfl, HB2⟩
  have F2a := Lib.hid (F1a.out.belowW HB2.out)
  have F2d := Lib.hid (F1d.out.belowW HB2.out)
  have F2r := Lib.hid (F1r.out.belowW HB2.out)
  have HL2 := Lib.hid (HB1.out.trans (HB2.out.mono HB1.out.size))
  clear pd0 pd1 pd2 fd0 fd1 fd2
  have pd0 : (w2).cell? ⟨w.heap.size, 0, none⟩ = some (.bool d.neg) := F2d.out.cell 0
  have fd0 : (w2).frozen? ⟨w.heap.size, 0, none⟩ = false := F2d.out.frozen 0
  have pd1 : (w2).cell? ⟨w.heap.size, 1, none⟩ = some (.slice A 0 c) := F2d.out.cell 1
  have fd1 : (w2).frozen? ⟨w.heap.size, 1, none⟩ = false := F2d.out.frozen 1
  have pd2 : (w2).cell? ⟨w.heap.size, 2, none⟩ = some (.int .i64 d.e) := F2d.out.cell 2
  have fd2 : (w2).frozen? ⟨w.heap.size, 2, none⟩ = false := F2d.out.frozen 2
  have pr0 : (w2).cell? ⟨w.heap.size + 1, 0, none⟩ = some (.bool false) := F2r.out.cell 0
  have fr0 : (w2).frozen? ⟨w.heap.size + 1, 0, none⟩ = false := F2r.out.frozen 0
  have pr1 : (w2).cell? ⟨w.heap.size + 1, 1, none⟩ = some (.slice none 0 0) := F2r.out.cell 1
  have fr1 : (w2).frozen? ⟨w.heap.size + 1, 1, none⟩ = false := F2r.out.frozen 1
  have pr2 : (w2).cell? ⟨w.heap.size + 1, 2, none⟩ = some (.int .i64 0) := F2r.out.cell 2
  have fr2 : (w2).frozen? ⟨w.heap.size + 1, 2, none⟩ = false := F2r.out.frozen 2
  go_wp2_with fail
  refine bodyPost_ret (v := .agg #[.bool false, .slice none 0 0, .int .i64 0]) (by simp [results, Tryz.results170, go_sem, pr0, pr1, pr2]) rfl ?_
  rw [HR.out]
  exact ⟨none, 0, 0, rfl, Lib.hid (by rw [limbs_zero]; exact Sl.none_ _), Lib.hid (store3_below HL2.out F2r.out _ _ _ (by omega))⟩

set_option maxHeartbeats 1000000 in
theorem neg_pos (d : D) (A : Option Addr) (n c : Nat) (w : World) (h : Sl w A n c (limbs d.k)) (hv : vld d) (hz : d.k ≠ 0) :
    Calls Tryz.prog 170 #[.agg #[.bool d.neg, .slice A n c, .int .i64 d.e]] w (DyR (negD d) w) := by
  have H := Lib.hid h
  have HLM := Lib.hid (vld_len hv)
  have hn : n ≤ 256 := by rw [← h.len]; exact HLM.out
  have hb := vld_ebd hv
  have hbb := vld_bits hv
  have HN := Lib.hid h.len
  have HV := Lib.hid hv
  clear h hv
  have hk0 : n ≠ 0 := by rw [← HN.out]; intro h; have := limbs_eq_nil.1 (List.eq_nil_of_length_eq_zero h); exact hz this
  have dk : ((n : Int) == 0) = false := by rw [beq_eq_false_iff_ne]; omega
  have HR := Lib.hid (show negD d = ⟨!d.neg, d.k, d.e⟩ by unfold negD; rw [if_neg hz])
  clear hz
  go_enter Tryz.func170, Tryz.ntmps170
  go_wp2_with fail
  obtain ⟨w1, hw⟩ : ∃ x, x = ((w.alloc (.cells #[.bool d.neg, .slice A n c, .int .i64 d.e] 25)).alloc (.cells #[.bool false, .slice none 0 0, .int .i64 0] 25)) := ⟨_, rfl⟩
  have HB1 := Lib.hid (show Below w.heap.size w w1 by rw [hw]; exact below_a2 _ _ _)
  have F1a := Lib.hid (H.out.belowW HB1.out)
  have F1d := Lib.hid (show Blk w1 (w.heap.size) 25 #[.bool d.neg, .slice A n c, .int .i64 d.e] by rw [hw]; exact (Blk.new _ _ _).alloc _)
  have F1r := Lib.hid (show Blk w1 (w.heap.size + 1) 25 #[.bool false, .slice none 0 0, .int .i64 0] by rw [hw]; exact Blk.new1 _ _ _ _)
  rw [← hw]
  clear hw
  have pd0 : (w1).cell? ⟨w.heap.size, 0, none⟩ = some (.bool d.neg) := F1d.out.cell 0
  have fd0 : (w1).frozen? ⟨w.heap.size, 0, none⟩ = false := F1d.out.frozen 0
  have pd1 : (w1).cell? ⟨w.heap.size, 1, none⟩ = some (.slice A n c) := F1d.out.cell 1
  have fd1 : (w1).frozen? ⟨w.heap.size, 1, none⟩ = false := F1d.out.frozen 1
  have pd2 : (w1).cell? ⟨w.heap.size, 2, none⟩ = some (.int .i64 d.e) := F1d.out.cell 2
  have fd2 : (w1).frozen? ⟨w.heap.size, 2, none⟩ = false := F1d.out.frozen 2
  go_wp2_with fail
  refine (valid_yes d A n c w1 F1a.out HV.out).mono ?_
  rintro e w2 ⟨rfl, HB2⟩
  have F2a := Lib.hid (F1a.out.belowW HB2.out)
  have F2d := Lib.hid (F1d.out.belowW HB2.out)
  have F2r := Lib.hid (F1r.out.belowW HB2.out)
  have HL2 := Lib.hid (HB1.out.trans (HB2.out.mono HB1.out.size))
  clear pd0 pd1 pd2 fd0 fd1 fd2
  have pd0 : (w2).cell? ⟨w.heap.size, 0, none⟩ = some (.bool d.neg) := F2d.out.cell 0
  have fd0 : (w2).frozen? ⟨w.heap.size, 0, none⟩ = false := F2d.out.frozen 0
  have pd1 : (w2).cell? ⟨w.heap.size, 1, none⟩ = some (.slice A n c) := F2d.out.cell 1
  have fd1 : (w2).frozen? ⟨w.heap.size, 1, none⟩ = false := F2d.out.frozen 1
  have pd2 : (w2).cell? ⟨w.heap.size, 2, none⟩ = some (.int .i64 d.e) := F2d.out.cell 2
  have fd2 : (w2).frozen? ⟨w.heap.size, 2, none⟩ = false := F2d.out.frozen 2
  have pr0 : (w2).cell? ⟨w.heap.size + 1, 0, none⟩ = some (.bool false) := F2r.out.cell 0
  have fr0 : (w2).frozen? ⟨w.heap.size + 1, 0, none⟩ = false := F2r.out.frozen 0
  have pr1 : (w2).cell? ⟨w.heap.size + 1, 1, none⟩ = some (.slice none 0 0) := F2r.out.cell 1
  have fr1 : (w2).frozen? ⟨w.heap.size + 1, 1, none⟩ = false := F2r.out.frozen 1
  have pr2 : (w2).cell? ⟨w.heap.size + 1, 2, none⟩ = some (.int .i64 0) := F2r.out.cell 2
  have fr2 : (w2).frozen? ⟨w.heap.size + 1, 2, none⟩ = false := F2r.out.frozen 2
  go_wp2_with fail
  go_region_held3 (fun w' => w'.cell? ⟨w.heap.size, 0, none⟩ = some (.bool d.neg) ∧ w'.cell? ⟨w.heap.size, 1, none⟩ = some (.slice A n c) ∧ w'.cell? ⟨w.heap.size, 2, none⟩ = some (.int .i64 d.e)) (first | exact ⟨pd0, pd1, pd2⟩ | exact ⟨q0, q1, q2⟩ | exact ⟨store3_far HR1.out q0 (by omega) _ _ _, store3_far HR1.out q1 (by omega) _ _ _, store3_far HR1.out q2 (by omega) _ _ _⟩) (first
    | (go_at_call 140
       refine (clone_any A n c _ _ (F2a.out.drewN 1) (by omega)).mono ?_
       rintro e x1 ⟨Y, y, rfl, HY, HX⟩
       have HX1 := Lib.hid (show Below w2.heap.size w2 x1 from ⟨HX.out.os, HX.out.tape, HX.out.output, HX.out.size, HX.out.block⟩)
       have HD1 := Lib.hid (F2d.out.belowW HX1.out)
       have HR1 := Lib.hid (F2r.out.belowW HX1.out)
       have HY1 := Lib.hid HY.out.sl
       have q0 : x1.cell? ⟨w.heap.size, 0, none⟩ = some (.bool d.neg) := HD1.out.cell 0
       have q1 : x1.cell? ⟨w.heap.size, 1, none⟩ = some (.slice A n c) := HD1.out.cell 1
       have q2 : x1.cell? ⟨w.heap.size, 2, none⟩ = some (.int .i64 d.e) := HD1.out.cell 2
       have r0 : x1.cell? ⟨w.heap.size + 1, 0, none⟩ = some (.bool false) := HR1.out.cell 0
       have r1 : x1.cell? ⟨w.heap.size + 1, 1, none⟩ = some (.slice none 0 0) := HR1.out.cell 1
       have r2 : x1.cell? ⟨w.heap.size + 1, 2, none⟩ = some (.int .i64 0) := HR1.out.cell 2
       have g0 : x1.frozen? ⟨w.heap.size + 1, 0, none⟩ = false := HR1.out.frozen 0
       have g1 : x1.frozen? ⟨w.heap.size + 1, 1, none⟩ = false := HR1.out.frozen 1
       have g2 : x1.frozen? ⟨w.heap.size + 1, 2, none⟩ = false := HR1.out.frozen 2))
  go_wp2_with fail
  refine bodyPost_ret (v := .agg #[.bool (!d.neg), .slice Y n y, .int .i64 d.e]) (by simp [results, Tryz.results170, go_sem, r0, r1, r2]) rfl ?_
  rw [HR.out]
  exact ⟨Y, n, y, rfl, Lib.hid (store3_sl HY1.out HR1.out noU3 _ _ _), Lib.hid (store3_below (HL2.out.trans (HX1.out.mono HL2.out.size)) HR1.out _ _ _ (by omega))⟩
theorem neg_any (d : D) (A : Option Addr) (n c : Nat) (w : World) (h : Sl w A n c (limbs d.k)) (hv : vld d) : Calls Tryz.prog 170 #[.agg #[.bool d.neg, .slice A n c, .int .i64 d.e]] w (DyR (negD d) w) := by
  by_cases hz : d.k = 0
  · exact neg_zero d A n c w h hv hz
  · exact neg_pos d A n c w h hv hz
end Go.Proofs.YtffdkakogeofmaaGreatDoor
