/-
  The walks of round.div, DivDown, DivUp, Is.
-/
import Derived.Test.YtffdkakogeofmaaGreatDoorRoC
set_option linter.unusedVariables false
namespace Go.Fl.Dy
open Go.Fl.Nm
def divE (a b : D) (p : Int) (up : Bool) : D × Int := if precB p then divR a b p.toNat up else (⟨false, 0, 0⟩, 2)
theorem divE_vld (a b : D) (p : Int) (up : Bool) : vld (divE a b p up).1 := by
  unfold divE divR
  split
  · split
    · exact vld_zero
    · split
      · exact vld_zero
      · exact sgnR_vld _ _ _ _ _ _
  · exact vld_zero
theorem precB_iff {p : Int} : precB p = true ↔ 8 ≤ p ∧ p ≤ 512 := by simp [precB]
end Go.Fl.Dy
namespace Go.Proofs.YtffdkakogeofmaaGreatDoor
open Go.RowKit Go.Fl Go.Fl.Nm Go.Fl.Dy

set_option maxHeartbeats 4000000 in
theorem div_range (a b : D) (A B : Option Addr) (n c m d : Nat) (p : Int) (up : Bool) (w : World) (ha : Sl w A n c (limbs a.k)) (hb : Sl w B m d (limbs b.k)) (va : vld a) (vb : vld b) (hT : RB w) (hp : precB p = false) :
    Calls Tryz.prog 107 #[.agg #[.bool a.neg, .slice A n c, .int .i64 a.e], .agg #[.bool b.neg, .slice B m d, .int .i64 b.e], .int .i64 p, .bool up] w (DyE (divE a b p up) w) := by
  have HA := Lib.hid ha
  have HB := Lib.hid hb
  have VA := Lib.hid va
  have VB := Lib.hid vb
  have HT := Lib.hid hT
  have hn : n ≤ 256 := by rw [← ha.len]; exact vld_len va
  have hm : m ≤ 256 := by rw [← hb.len]; exact vld_len vb
  have hae := vld_ebd va
  have hbe := vld_ebd vb
  have hab := vld_bits va
  have hbb := vld_bits vb
  have HNA := Lib.hid ha.len
  have HNB := Lib.hid hb.len
  clear ha hb va vb hT
  have HE := Lib.hid (show errP p = 2 by unfold errP; rw [hp]; rfl)
  have HF := Lib.hid (show divE a b p up = (⟨false, 0, 0⟩, 2) by unfold divE; rw [hp]; rfl)
  clear hp
  go_enter Tryz.func107, Tryz.ntmps107
  go_wp2_with fail
  obtain ⟨w1, hw⟩ : ∃ z9 : World, z9 = ((((w.alloc (.cells #[.bool a.neg, .slice A n c, .int .i64 a.e] 25)).alloc (.cells #[.bool b.neg, .slice B m d, .int .i64 b.e] 25)).alloc (.cells #[.bool false, .slice none 0 0, .int .i64 0] 25)).alloc (.cells #[.bool a.neg, .slice A n c, .int .i64 a.e, .bool b.neg, .slice B m d, .int .i64 b.e] 25)) := ⟨_, rfl⟩
  have HB1 := Lib.hid (show Below w.heap.size w w1 by rw [hw]; exact below_a4 _ _ _ _ _)
  have F1a := Lib.hid (HA.out.belowW HB1.out)
  have F1b := Lib.hid (HB.out.belowW HB1.out)
  have F1t := Lib.hid (HT.out.belowW HB1.out)
  have F1ka := Lib.hid (show Blk w1 (w.heap.size) 25 #[.bool a.neg, .slice A n c, .int .i64 a.e] by rw [hw]; exact (((Blk.new _ _ _).alloc _).alloc _).alloc _)
  have F1kb := Lib.hid (show Blk w1 (w.heap.size + 1) 25 #[.bool b.neg, .slice B m d, .int .i64 b.e] by rw [hw]; exact ((Blk.new1 _ _ _ _).alloc _).alloc _)
  have F1r := Lib.hid (show Blk w1 (w.heap.size + 1 + 1) 25 #[.bool false, .slice none 0 0, .int .i64 0] by rw [hw]; exact (Blk.new2 _ _ _ _ _).alloc _)
  have F1s := Lib.hid (show Blk w1 (w.heap.size + 1 + 1 + 1) 25 #[.bool a.neg, .slice A n c, .int .i64 a.e, .bool b.neg, .slice B m d, .int .i64 b.e] by rw [hw]; exact Blk.new3 _ _ _ _ _ _)
  rw [← hw]
  clear hw
  refine (fault2_any p (w.heap.size + 1 + 1 + 1) a A n c b B m d w1 F1s.out F1a.out VA.out F1b.out VB.out).mono ?_
  rintro e w2 ⟨rfl, HB2⟩
  have F2a := Lib.hid (F1a.out.belowW HB2.out)
  have F2b := Lib.hid (F1b.out.belowW HB2.out)
  have F2t := Lib.hid (F1t.out.belowW HB2.out)
  have F2ka := Lib.hid (F1ka.out.belowW HB2.out)
  have F2kb := Lib.hid (F1kb.out.belowW HB2.out)
  have F2r := Lib.hid (F1r.out.belowW HB2.out)
  have F2s := Lib.hid (F1s.out.belowW HB2.out)
  have HL2 := Lib.hid (HB1.out.trans (HB2.out.mono HB1.out.size))
  rw [HE.out]
  have pka0 : (w2).cell? ⟨w.heap.size, 0, none⟩ = some (.bool a.neg) := F2ka.out.cell 0
  have fka0 : (w2).frozen? ⟨w.heap.size, 0, none⟩ = false := F2ka.out.frozen 0
  have pka1 : (w2).cell? ⟨w.heap.size, 1, none⟩ = some (.slice A n c) := F2ka.out.cell 1
  have fka1 : (w2).frozen? ⟨w.heap.size, 1, none⟩ = false := F2ka.out.frozen 1
  have pka2 : (w2).cell? ⟨w.heap.size, 2, none⟩ = some (.int .i64 a.e) := F2ka.out.cell 2
  have fka2 : (w2).frozen? ⟨w.heap.size, 2, none⟩ = false := F2ka.out.frozen 2
  have pkb0 : (w2).cell? ⟨w.heap.size + 1, 0, none⟩ = some (.bool b.neg) := F2kb.out.cell 0
  have fkb0 : (w2).frozen? ⟨w.heap.size + 1, 0, none⟩ = false := F2kb.out.frozen 0
  have pkb1 : (w2).cell? ⟨w.heap.size + 1, 1, none⟩ = some (.slice B m d) := F2kb.out.cell 1
  have fkb1 : (w2).frozen? ⟨w.heap.size + 1, 1, none⟩ = false := F2kb.out.frozen 1
  have pkb2 : (w2).cell? ⟨w.heap.size + 1, 2, none⟩ = some (.int .i64 b.e) := F2kb.out.cell 2
  have fkb2 : (w2).frozen? ⟨w.heap.size + 1, 2, none⟩ = false := F2kb.out.frozen 2
  have pr0 : (w2).cell? ⟨w.heap.size + 1 + 1, 0, none⟩ = some (.bool false) := F2r.out.cell 0
  have fr0 : (w2).frozen? ⟨w.heap.size + 1 + 1, 0, none⟩ = false := F2r.out.frozen 0
  have pr1 : (w2).cell? ⟨w.heap.size + 1 + 1, 1, none⟩ = some (.slice none 0 0) := F2r.out.cell 1
  have fr1 : (w2).frozen? ⟨w.heap.size + 1 + 1, 1, none⟩ = false := F2r.out.frozen 1
  have pr2 : (w2).cell? ⟨w.heap.size + 1 + 1, 2, none⟩ = some (.int .i64 0) := F2r.out.cell 2
  have fr2 : (w2).frozen? ⟨w.heap.size + 1 + 1, 2, none⟩ = false := F2r.out.frozen 2
  go_wp2_with fail
  refine bodyPost_ret (v := .tuple #[.agg #[.bool false, .slice none 0 0, .int .i64 0], .int .i64 2]) (by simp [results, Tryz.results107, go_sem, pr0, pr1, pr2]) rfl ?_
  rw [HF.out]
  exact ⟨none, 0, 0, rfl, Lib.hid (by rw [limbs_zero]; exact Sl.none_ _), Lib.hid (store3_below HL2.out F2r.out _ _ _ (by omega))⟩

set_option maxHeartbeats 4000000 in
theorem div_zero (a b : D) (A B : Option Addr) (n c m d : Nat) (p : Int) (up : Bool) (w : World) (ha : Sl w A n c (limbs a.k)) (hb : Sl w B m d (limbs b.k)) (va : vld a) (vb : vld b) (hT : RB w) (hp : precB p = true) (hz : b.k = 0) :
    Calls Tryz.prog 107 #[.agg #[.bool a.neg, .slice A n c, .int .i64 a.e], .agg #[.bool b.neg, .slice B m d, .int .i64 b.e], .int .i64 p, .bool up] w (DyE (divE a b p up) w) := by
  have HA := Lib.hid ha
  have HB := Lib.hid hb
  have VA := Lib.hid va
  have VB := Lib.hid vb
  have HT := Lib.hid hT
  have hn : n ≤ 256 := by rw [← ha.len]; exact vld_len va
  have hm : m ≤ 256 := by rw [← hb.len]; exact vld_len vb
  have hae := vld_ebd va
  have hbe := vld_ebd vb
  have hab := vld_bits va
  have hbb := vld_bits vb
  have HNA := Lib.hid ha.len
  have HNB := Lib.hid hb.len
  clear ha hb va vb hT
  have HE := Lib.hid (show errP p = 0 by unfold errP; rw [hp]; rfl)
  have HF := Lib.hid (show divE a b p up = (⟨false, 0, 0⟩, 10) by unfold divE; rw [hp]; unfold divR; rw [if_pos hz]; rfl)
  have hm0 : m = 0 := by rw [← HNB.out, hz, limbs_zero]; rfl
  have dm : ((m : Int) == 0) = true := by simp [hm0]
  clear hp hz hm0
  go_enter Tryz.func107, Tryz.ntmps107
  go_wp2_with fail
  obtain ⟨w1, hw⟩ : ∃ z9 : World, z9 = ((((w.alloc (.cells #[.bool a.neg, .slice A n c, .int .i64 a.e] 25)).alloc (.cells #[.bool b.neg, .slice B m d, .int .i64 b.e] 25)).alloc (.cells #[.bool false, .slice none 0 0, .int .i64 0] 25)).alloc (.cells #[.bool a.neg, .slice A n c, .int .i64 a.e, .bool b.neg, .slice B m d, .int .i64 b.e] 25)) := ⟨_, rfl⟩
  have HB1 := Lib.hid (show Below w.heap.size w w1 by rw [hw]; exact below_a4 _ _ _ _ _)
  have F1a := Lib.hid (HA.out.belowW HB1.out)
  have F1b := Lib.hid (HB.out.belowW HB1.out)
  have F1t := Lib.hid (HT.out.belowW HB1.out)
  have F1ka := Lib.hid (show Blk w1 (w.heap.size) 25 #[.bool a.neg, .slice A n c, .int .i64 a.e] by rw [hw]; exact (((Blk.new _ _ _).alloc _).alloc _).alloc _)
  have F1kb := Lib.hid (show Blk w1 (w.heap.size + 1) 25 #[.bool b.neg, .slice B m d, .int .i64 b.e] by rw [hw]; exact ((Blk.new1 _ _ _ _).alloc _).alloc _)
  have F1r := Lib.hid (show Blk w1 (w.heap.size + 1 + 1) 25 #[.bool false, .slice none 0 0, .int .i64 0] by rw [hw]; exact (Blk.new2 _ _ _ _ _).alloc _)
  have F1s := Lib.hid (show Blk w1 (w.heap.size + 1 + 1 + 1) 25 #[.bool a.neg, .slice A n c, .int .i64 a.e, .bool b.neg, .slice B m d, .int .i64 b.e] by rw [hw]; exact Blk.new3 _ _ _ _ _ _)
  rw [← hw]
  clear hw
  refine (fault2_any p (w.heap.size + 1 + 1 + 1) a A n c b B m d w1 F1s.out F1a.out VA.out F1b.out VB.out).mono ?_
  rintro e w2 ⟨rfl, HB2⟩
  have F2a := Lib.hid (F1a.out.belowW HB2.out)
  have F2b := Lib.hid (F1b.out.belowW HB2.out)
  have F2t := Lib.hid (F1t.out.belowW HB2.out)
  have F2ka := Lib.hid (F1ka.out.belowW HB2.out)
  have F2kb := Lib.hid (F1kb.out.belowW HB2.out)
  have F2r := Lib.hid (F1r.out.belowW HB2.out)
  have F2s := Lib.hid (F1s.out.belowW HB2.out)
  have HL2 := Lib.hid (HB1.out.trans (HB2.out.mono HB1.out.size))
  rw [HE.out]
  have pka0 : (w2).cell? ⟨w.heap.size, 0, none⟩ = some (.bool a.neg) := F2ka.out.cell 0
  have fka0 : (w2).frozen? ⟨w.heap.size, 0, none⟩ = false := F2ka.out.frozen 0
  have pka1 : (w2).cell? ⟨w.heap.size, 1, none⟩ = some (.slice A n c) := F2ka.out.cell 1
  have fka1 : (w2).frozen? ⟨w.heap.size, 1, none⟩ = false := F2ka.out.frozen 1
  have pka2 : (w2).cell? ⟨w.heap.size, 2, none⟩ = some (.int .i64 a.e) := F2ka.out.cell 2
  have fka2 : (w2).frozen? ⟨w.heap.size, 2, none⟩ = false := F2ka.out.frozen 2
  have pkb0 : (w2).cell? ⟨w.heap.size + 1, 0, none⟩ = some (.bool b.neg) := F2kb.out.cell 0
  have fkb0 : (w2).frozen? ⟨w.heap.size + 1, 0, none⟩ = false := F2kb.out.frozen 0
  have pkb1 : (w2).cell? ⟨w.heap.size + 1, 1, none⟩ = some (.slice B m d) := F2kb.out.cell 1
  have fkb1 : (w2).frozen? ⟨w.heap.size + 1, 1, none⟩ = false := F2kb.out.frozen 1
  have pkb2 : (w2).cell? ⟨w.heap.size + 1, 2, none⟩ = some (.int .i64 b.e) := F2kb.out.cell 2
  have fkb2 : (w2).frozen? ⟨w.heap.size + 1, 2, none⟩ = false := F2kb.out.frozen 2
  have pr0 : (w2).cell? ⟨w.heap.size + 1 + 1, 0, none⟩ = some (.bool false) := F2r.out.cell 0
  have fr0 : (w2).frozen? ⟨w.heap.size + 1 + 1, 0, none⟩ = false := F2r.out.frozen 0
  have pr1 : (w2).cell? ⟨w.heap.size + 1 + 1, 1, none⟩ = some (.slice none 0 0) := F2r.out.cell 1
  have fr1 : (w2).frozen? ⟨w.heap.size + 1 + 1, 1, none⟩ = false := F2r.out.frozen 1
  have pr2 : (w2).cell? ⟨w.heap.size + 1 + 1, 2, none⟩ = some (.int .i64 0) := F2r.out.cell 2
  have fr2 : (w2).frozen? ⟨w.heap.size + 1 + 1, 2, none⟩ = false := F2r.out.frozen 2
  go_wp2_with fail
  refine bodyPost_ret (v := .tuple #[.agg #[.bool false, .slice none 0 0, .int .i64 0], .int .i64 10]) (by simp [results, Tryz.results107, go_sem, pr0, pr1, pr2]) rfl ?_
  rw [HF.out]
  exact ⟨none, 0, 0, rfl, Lib.hid (by rw [limbs_zero]; exact Sl.none_ _), Lib.hid (store3_below HL2.out F2r.out _ _ _ (by omega))⟩

set_option maxHeartbeats 4000000 in
theorem div_null (a b : D) (A B : Option Addr) (n c m d : Nat) (p : Int) (up : Bool) (w : World) (ha : Sl w A n c (limbs a.k)) (hb : Sl w B m d (limbs b.k)) (va : vld a) (vb : vld b) (hT : RB w) (hp : precB p = true) (hz : b.k ≠ 0) (hy : a.k = 0) :
    Calls Tryz.prog 107 #[.agg #[.bool a.neg, .slice A n c, .int .i64 a.e], .agg #[.bool b.neg, .slice B m d, .int .i64 b.e], .int .i64 p, .bool up] w (DyE (divE a b p up) w) := by
  have HA := Lib.hid ha
  have HB := Lib.hid hb
  have VA := Lib.hid va
  have VB := Lib.hid vb
  have HT := Lib.hid hT
  have hn : n ≤ 256 := by rw [← ha.len]; exact vld_len va
  have hm : m ≤ 256 := by rw [← hb.len]; exact vld_len vb
  have hae := vld_ebd va
  have hbe := vld_ebd vb
  have hab := vld_bits va
  have hbb := vld_bits vb
  have HNA := Lib.hid ha.len
  have HNB := Lib.hid hb.len
  clear ha hb va vb hT
  have HE := Lib.hid (show errP p = 0 by unfold errP; rw [hp]; rfl)
  have HF := Lib.hid (show divE a b p up = (⟨false, 0, 0⟩, 0) by unfold divE; rw [hp]; unfold divR; rw [if_neg hz, if_pos hy]; rfl)
  have hm0 : m ≠ 0 := by rw [← HNB.out]; intro h; exact hz (limbs_eq_nil.1 (List.eq_nil_of_length_eq_zero h))
  have dm : ((m : Int) == 0) = false := by rw [beq_eq_false_iff_ne]; omega
  have hn0 : n = 0 := by rw [← HNA.out, hy, limbs_zero]; rfl
  have dn : ((n : Int) == 0) = true := by simp [hn0]
  clear hp hz hm0 hn0 hy
  go_enter Tryz.func107, Tryz.ntmps107
  go_wp2_with fail
  obtain ⟨w1, hw⟩ : ∃ z9 : World, z9 = ((((w.alloc (.cells #[.bool a.neg, .slice A n c, .int .i64 a.e] 25)).alloc (.cells #[.bool b.neg, .slice B m d, .int .i64 b.e] 25)).alloc (.cells #[.bool false, .slice none 0 0, .int .i64 0] 25)).alloc (.cells #[.bool a.neg, .slice A n c, .int .i64 a.e, .bool b.neg, .slice B m d, .int .i64 b.e] 25)) := ⟨_, rfl⟩
  have HB1 := Lib.hid (show Below w.heap.size w w1 by rw [hw]; exact below_a4 _ _ _ _ _)
  have F1a := Lib.hid (HA.out.belowW HB1.out)
  have F1b := Lib.hid (HB.out.belowW HB1.out)
  have F1t := Lib.hid (HT.out.belowW HB1.out)
  have F1ka := Lib.hid (show Blk w1 (w.heap.size) 25 #[.bool a.neg, .slice A n c, .int .i64 a.e] by rw [hw]; exact (((Blk.new _ _ _).alloc _).alloc _).alloc _)
  have F1kb := Lib.hid (show Blk w1 (w.heap.size + 1) 25 #[.bool b.neg, .slice B m d, .int .i64 b.e] by rw [hw]; exact ((Blk.new1 _ _ _ _).alloc _).alloc _)
  have F1r := Lib.hid (show Blk w1 (w.heap.size + 1 + 1) 25 #[.bool false, .slice none 0 0, .int .i64 0] by rw [hw]; exact (Blk.new2 _ _ _ _ _).alloc _)
  have F1s := Lib.hid (show Blk w1 (w.heap.size + 1 + 1 + 1) 25 #[.bool a.neg, .slice A n c, .int .i64 a.e, .bool b.neg, .slice B m d, .int .i64 b.e] by rw [hw]; exact Blk.new3 _ _ _ _ _ _)
  rw [← hw]
  clear hw
  refine (fault2_any p (w.heap.size + 1 + 1 + 1) a A n c b B m d w1 F1s.out F1a.out VA.out F1b.out VB.out).mono ?_
  rintro e w2 ⟨rfl, HB2⟩
  have F2a := Lib.hid (F1a.out.belowW HB2.out)
  have F2b := Lib.hid (F1b.out.belowW HB2.out)
  have F2t := Lib.hid (F1t.out.belowW HB2.out)
  have F2ka := Lib.hid (F1ka.out.belowW HB2.out)
  have F2kb := Lib.hid (F1kb.out.belowW HB2.out)
  have F2r := Lib.hid (F1r.out.belowW HB2.out)
  have F2s := Lib.hid (F1s.out.belowW HB2.out)
  have HL2 := Lib.hid (HB1.out.trans (HB2.out.mono HB1.out.size))
  rw [HE.out]
  have pka0 : (w2).cell? ⟨w.heap.size, 0, none⟩ = some (.bool a.neg) := F2ka.out.cell 0
  have fka0 : (w2).frozen? ⟨w.heap.size, 0, none⟩ = false := F2ka.out.frozen 0
  have pka1 : (w2).cell? ⟨w.heap.size, 1, none⟩ = some (.slice A n c) := F2ka.out.cell 1
  have fka1 : (w2).frozen? ⟨w.heap.size, 1, none⟩ = false := F2ka.out.frozen 1
  have pka2 : (w2).cell? ⟨w.heap.size, 2, none⟩ = some (.int .i64 a.e) := F2ka.out.cell 2
  have fka2 : (w2).frozen? ⟨w.heap.size, 2, none⟩ = false := F2ka.out.frozen 2
  have pkb0 : (w2).cell? ⟨w.heap.size + 1, 0, none⟩ = some (.bool b.neg) := F2kb.out.cell 0
  have fkb0 : (w2).frozen? ⟨w.heap.size + 1, 0, none⟩ = false := F2kb.out.frozen 0
  have pkb1 : (w2).cell? ⟨w.heap.size + 1, 1, none⟩ = some (.slice B m d) := F2kb.out.cell 1
  have fkb1 : (w2).frozen? ⟨w.heap.size + 1, 1, none⟩ = false := F2kb.out.frozen 1
  have pkb2 : (w2).cell? ⟨w.heap.size + 1, 2, none⟩ = some (.int .i64 b.e) := F2kb.out.cell 2
  have fkb2 : (w2).frozen? ⟨w.heap.size + 1, 2, none⟩ = false := F2kb.out.frozen 2
  have pr0 : (w2).cell? ⟨w.heap.size + 1 + 1, 0, none⟩ = some (.bool false) := F2r.out.cell 0
  have fr0 : (w2).frozen? ⟨w.heap.size + 1 + 1, 0, none⟩ = false := F2r.out.frozen 0
  have pr1 : (w2).cell? ⟨w.heap.size + 1 + 1, 1, none⟩ = some (.slice none 0 0) := F2r.out.cell 1
  have fr1 : (w2).frozen? ⟨w.heap.size + 1 + 1, 1, none⟩ = false := F2r.out.frozen 1
  have pr2 : (w2).cell? ⟨w.heap.size + 1 + 1, 2, none⟩ = some (.int .i64 0) := F2r.out.cell 2
  have fr2 : (w2).frozen? ⟨w.heap.size + 1 + 1, 2, none⟩ = false := F2r.out.frozen 2
  go_wp2_with fail
  refine bodyPost_ret (v := .tuple #[.agg #[.bool false, .slice none 0 0, .int .i64 0], .int .i64 0]) (by simp [results, Tryz.results107, go_sem, pr0, pr1, pr2]) rfl ?_
  rw [HF.out]
  exact ⟨none, 0, 0, rfl, Lib.hid (by rw [limbs_zero]; exact Sl.none_ _), Lib.hid (store3_below HL2.out F2r.out _ _ _ (by omega))⟩

set_option maxHeartbeats 4000000 in
theorem div_pos (a b : D) (A B : Option Addr) (n c m d : Nat) (p : Int) (up : Bool) (w : World) (ha : Sl w A n c (limbs a.k)) (hb : Sl w B m d (limbs b.k)) (va : vld a) (vb : vld b) (hT : RB w) (hp : precB p = true) (hz : b.k ≠ 0) (hy : a.k ≠ 0) :
    Calls Tryz.prog 107 #[.agg #[.bool a.neg, .slice A n c, .int .i64 a.e], .agg #[.bool b.neg, .slice B m d, .int .i64 b.e], .int .i64 p, .bool up] w (DyE (divE a b p up) w) := by
  have HA := Lib.hid ha
  have HB := Lib.hid hb
  have VA := Lib.hid va
  have VB := Lib.hid vb
  have HT := Lib.hid hT
  have hn : n ≤ 256 := by rw [← ha.len]; exact vld_len va
  have hm : m ≤ 256 := by rw [← hb.len]; exact vld_len vb
  have hae := vld_ebd va
  have hbe := vld_ebd vb
  have hab := vld_bits va
  have hbb := vld_bits vb
  have HNA := Lib.hid ha.len
  have HNB := Lib.hid hb.len
  clear ha hb va vb hT
  have HE := Lib.hid (show errP p = 0 by unfold errP; rw [hp]; rfl)
  have hm0 : m ≠ 0 := by rw [← HNB.out]; intro h; exact hz (limbs_eq_nil.1 (List.eq_nil_of_length_eq_zero h))
  have dm : ((m : Int) == 0) = false := by rw [beq_eq_false_iff_ne]; omega
  have hn0 : n ≠ 0 := by rw [← HNA.out]; intro h; exact hy (limbs_eq_nil.1 (List.eq_nil_of_length_eq_zero h))
  have dn : ((n : Int) == 0) = false := by rw [beq_eq_false_iff_ne]; omega
  have hpp := precB_iff.1 hp
  obtain ⟨P, rfl⟩ : ∃ P : Nat, p = P := ⟨p.toNat, by omega⟩
  obtain ⟨k, hk⟩ : ∃ k : Nat, k = divK a b P := ⟨_, rfl⟩
  have hkk : (k : Int) = max 0 ((P : Int) + 3 + (blen b.k : Nat) - (blen a.k : Nat)) := by rw [hk]; unfold divK; omega
  obtain ⟨ba, hba⟩ : ∃ z : Int, z = (blen a.k : Nat) := ⟨_, rfl⟩
  obtain ⟨bb, hbb'⟩ : ∃ z : Int, z = (blen b.k : Nat) := ⟨_, rfl⟩
  have HBA := Lib.hid hba.symm
  have HBB := Lib.hid hbb'.symm
  rw [← hba, ← hbb'] at hkk
  have hba0 : 0 ≤ ba := by omega
  have hba1 : ba ≤ 4096 := by omega
  have hbb0 : 0 ≤ bb := by omega
  have hbb1 : bb ≤ 4096 := by omega
  have HKK := Lib.hid hkk.symm
  have hk1 : k ≤ 5000 := by omega
  have hSH : blen (2 ^ k * a.k) ≤ 8192 := by rw [blen_shl k hy]; omega
  have HSH := Lib.hid hSH
  have HVL := Lib.hid (show 2 ^ (k : Int).toNat * val (limbs a.k) = 2 ^ k * a.k by rw [val_limbs, Int.toNat_natCast])
  have HB0 := Lib.hid (show 0 < val (limbs b.k) by rw [val_limbs]; omega)
  obtain ⟨q, hq⟩ : ∃ q : Nat, q = 2 ^ k * a.k / b.k := ⟨_, rfl⟩
  obtain ⟨rr, hrr⟩ : ∃ q : Nat, q = 2 ^ k * a.k % b.k := ⟨_, rfl⟩
  have HQ := Lib.hid hq.symm
  have HRR := Lib.hid hrr.symm
  have HQB := Lib.hid (show blen q ≤ 8192 by rw [hq]; have := blen_mono (Nat.div_le_self (2 ^ k * a.k) b.k); omega)
  have HRB := Lib.hid (show blen rr ≤ 8192 by rw [hrr]; have := blen_mono (Nat.mod_le (2 ^ k * a.k) b.k); omega)
  obtain ⟨br, hbr⟩ : ∃ z : Int, z = (blen rr : Nat) := ⟨_, rfl⟩
  have HBR := Lib.hid hbr.symm
  obtain ⟨mo, hmo⟩ : ∃ z : Bool, z = decide (rr ≠ 0) := ⟨_, rfl⟩
  have dmo : decide (0 < br) = mo := by
    rw [hmo, decide_eq_decide, hbr]
    have := blen_zero_iff (n := rr)
    omega
  have HMO := Lib.hid hmo.symm
  obtain ⟨ng, hng⟩ : ∃ z : Bool, z = (a.neg != b.neg) := ⟨_, rfl⟩
  have dng : (!(a.neg == b.neg)) = ng := hng.symm
  have HF := Lib.hid (show divE a b P up = sgnR ng q (a.e - k - b.e) mo P up by
    unfold divE
    rw [hp]
    unfold divR
    rw [if_neg hz, if_neg hy, hng, hq, hmo, hrr, hk, Int.toNat_natCast]
    rfl)
  have s1 : IntKind.i64.wrap ((P : Int) + 3) = P + 3 := IntWalk.i64_in _ (by omega)
  have s2 : IntKind.i64.wrap ((P : Int) + 3 + bb) = P + 3 + bb := IntWalk.i64_in _ (by omega)
  have s3 : IntKind.i64.wrap ((P : Int) + 3 + bb - ba) = P + 3 + bb - ba := IntWalk.i64_in _ (by omega)
  have s4 : IntKind.i64.wrap (a.e - (k : Int)) = a.e - k := IntWalk.i64_in _ (by omega)
  have s5 : IntKind.i64.wrap (a.e - (k : Int) - b.e) = a.e - k - b.e := IntWalk.i64_in _ (by omega)
  have hk0 : (0 : Int) ≤ k := by omega
  clear hp hz hy hm0 hn0 hk hkk hba hbb' hSH hq hrr hbr hmo hng
  go_enter Tryz.func107, Tryz.ntmps107
  go_wp2_with fail
  obtain ⟨w1, hw⟩ : ∃ z9 : World, z9 = ((((w.alloc (.cells #[.bool a.neg, .slice A n c, .int .i64 a.e] 25)).alloc (.cells #[.bool b.neg, .slice B m d, .int .i64 b.e] 25)).alloc (.cells #[.bool false, .slice none 0 0, .int .i64 0] 25)).alloc (.cells #[.bool a.neg, .slice A n c, .int .i64 a.e, .bool b.neg, .slice B m d, .int .i64 b.e] 25)) := ⟨_, rfl⟩
  have HB1 := Lib.hid (show Below w.heap.size w w1 by rw [hw]; exact below_a4 _ _ _ _ _)
  have F1a := Lib.hid (HA.out.belowW HB1.out)
  have F1b := Lib.hid (HB.out.belowW HB1.out)
  have F1t := Lib.hid (HT.out.belowW HB1.out)
  have F1ka := Lib.hid (show Blk w1 (w.heap.size) 25 #[.bool a.neg, .slice A n c, .int .i64 a.e] by rw [hw]; exact (((Blk.new _ _ _).alloc _).alloc _).alloc _)
  have F1kb := Lib.hid (show Blk w1 (w.heap.size + 1) 25 #[.bool b.neg, .slice B m d, .int .i64 b.e] by rw [hw]; exact ((Blk.new1 _ _ _ _).alloc _).alloc _)
  have F1r := Lib.hid (show Blk w1 (w.heap.size + 1 + 1) 25 #[.bool false, .slice none 0 0, .int .i64 0] by rw [hw]; exact (Blk.new2 _ _ _ _ _).alloc _)
  have F1s := Lib.hid (show Blk w1 (w.heap.size + 1 + 1 + 1) 25 #[.bool a.neg, .slice A n c, .int .i64 a.e, .bool b.neg, .slice B m d, .int .i64 b.e] by rw [hw]; exact Blk.new3 _ _ _ _ _ _)
  rw [← hw]
  clear hw
  refine (fault2_any P (w.heap.size + 1 + 1 + 1) a A n c b B m d w1 F1s.out F1a.out VA.out F1b.out VB.out).mono ?_
  rintro e w2 ⟨rfl, HB2⟩
  have F2a := Lib.hid (F1a.out.belowW HB2.out)
  have F2b := Lib.hid (F1b.out.belowW HB2.out)
  have F2t := Lib.hid (F1t.out.belowW HB2.out)
  have F2ka := Lib.hid (F1ka.out.belowW HB2.out)
  have F2kb := Lib.hid (F1kb.out.belowW HB2.out)
  have F2r := Lib.hid (F1r.out.belowW HB2.out)
  have F2s := Lib.hid (F1s.out.belowW HB2.out)
  have HL2 := Lib.hid (HB1.out.trans (HB2.out.mono HB1.out.size))
  rw [HE.out]
  have pka0 : (w2).cell? ⟨w.heap.size, 0, none⟩ = some (.bool a.neg) := F2ka.out.cell 0
  have fka0 : (w2).frozen? ⟨w.heap.size, 0, none⟩ = false := F2ka.out.frozen 0
  have pka1 : (w2).cell? ⟨w.heap.size, 1, none⟩ = some (.slice A n c) := F2ka.out.cell 1
  have fka1 : (w2).frozen? ⟨w.heap.size, 1, none⟩ = false := F2ka.out.frozen 1
  have pka2 : (w2).cell? ⟨w.heap.size, 2, none⟩ = some (.int .i64 a.e) := F2ka.out.cell 2
  have fka2 : (w2).frozen? ⟨w.heap.size, 2, none⟩ = false := F2ka.out.frozen 2
  have pkb0 : (w2).cell? ⟨w.heap.size + 1, 0, none⟩ = some (.bool b.neg) := F2kb.out.cell 0
  have fkb0 : (w2).frozen? ⟨w.heap.size + 1, 0, none⟩ = false := F2kb.out.frozen 0
  have pkb1 : (w2).cell? ⟨w.heap.size + 1, 1, none⟩ = some (.slice B m d) := F2kb.out.cell 1
  have fkb1 : (w2).frozen? ⟨w.heap.size + 1, 1, none⟩ = false := F2kb.out.frozen 1
  have pkb2 : (w2).cell? ⟨w.heap.size + 1, 2, none⟩ = some (.int .i64 b.e) := F2kb.out.cell 2
  have fkb2 : (w2).frozen? ⟨w.heap.size + 1, 2, none⟩ = false := F2kb.out.frozen 2
  have pr0 : (w2).cell? ⟨w.heap.size + 1 + 1, 0, none⟩ = some (.bool false) := F2r.out.cell 0
  have fr0 : (w2).frozen? ⟨w.heap.size + 1 + 1, 0, none⟩ = false := F2r.out.frozen 0
  have pr1 : (w2).cell? ⟨w.heap.size + 1 + 1, 1, none⟩ = some (.slice none 0 0) := F2r.out.cell 1
  have fr1 : (w2).frozen? ⟨w.heap.size + 1 + 1, 1, none⟩ = false := F2r.out.frozen 1
  have pr2 : (w2).cell? ⟨w.heap.size + 1 + 1, 2, none⟩ = some (.int .i64 0) := F2r.out.cell 2
  have fr2 : (w2).frozen? ⟨w.heap.size + 1 + 1, 2, none⟩ = false := F2r.out.frozen 2
  go_wp2_with fail
  go_region_held3 (fun w' => w'.cell? ⟨w.heap.size, 0, none⟩ = some (.bool a.neg) ∧ w'.cell? ⟨w.heap.size, 1, none⟩ = some (.slice A n c) ∧ w'.cell? ⟨w.heap.size, 2, none⟩ = some (.int .i64 a.e) ∧ w'.cell? ⟨w.heap.size + 1, 0, none⟩ = some (.bool b.neg) ∧ w'.cell? ⟨w.heap.size + 1, 1, none⟩ = some (.slice B m d) ∧ w'.cell? ⟨w.heap.size + 1, 2, none⟩ = some (.int .i64 b.e)) (first | exact ⟨pka0, pka1, pka2, pkb0, pkb1, pkb2⟩ | exact ⟨uxa0, uxa1, uxa2, vxa0, vxa1, vxa2⟩ | exact ⟨uxb0, uxb1, uxb2, vxb0, vxb1, vxb2⟩ | exact ⟨ux20, ux21, ux22, vx20, vx21, vx22⟩) (first
    | (go_at_call_of 21 (Value.agg #[.bool a.neg, .slice A n c, .int .i64 a.e])
       first
       | (refine (dbits_any a A n c _ (F2a.out.drewN 1) VA.out).mono ?_
          rw [HBA.out]
          rintro e xa ⟨rfl, HX⟩
          have Hxa := Lib.hid (show Below w2.heap.size w2 xa from ⟨HX.out.os, HX.out.tape, HX.out.output, HX.out.size, HX.out.block⟩)
          have Axa := Lib.hid (F2a.out.belowW Hxa.out)
          have Bxa := Lib.hid (F2b.out.belowW Hxa.out)
          have KAxa := Lib.hid (F2ka.out.belowW Hxa.out)
          have KBxa := Lib.hid (F2kb.out.belowW Hxa.out)
          have uxa0 : xa.cell? ⟨w.heap.size, 0, none⟩ = some (.bool a.neg) := KAxa.out.cell 0
          have uxa1 : xa.cell? ⟨w.heap.size, 1, none⟩ = some (.slice A n c) := KAxa.out.cell 1
          have uxa2 : xa.cell? ⟨w.heap.size, 2, none⟩ = some (.int .i64 a.e) := KAxa.out.cell 2
          have vxa0 : xa.cell? ⟨w.heap.size + 1, 0, none⟩ = some (.bool b.neg) := KBxa.out.cell 0
          have vxa1 : xa.cell? ⟨w.heap.size + 1, 1, none⟩ = some (.slice B m d) := KBxa.out.cell 1
          have vxa2 : xa.cell? ⟨w.heap.size + 1, 2, none⟩ = some (.int .i64 b.e) := KBxa.out.cell 2)
       | (refine (dbits_any a A n c _ Axb.out VA.out).mono ?_
          rw [HBA.out]
          rintro e x2 ⟨rfl, HX2⟩
          have L2 := Lib.hid (Hxb.out.trans (HX2.out.mono Hxb.out.size))
          have KAx2 := Lib.hid (F2ka.out.belowW L2.out)
          have KBx2 := Lib.hid (F2kb.out.belowW L2.out)
          have ux20 : x2.cell? ⟨w.heap.size, 0, none⟩ = some (.bool a.neg) := KAx2.out.cell 0
          have ux21 : x2.cell? ⟨w.heap.size, 1, none⟩ = some (.slice A n c) := KAx2.out.cell 1
          have ux22 : x2.cell? ⟨w.heap.size, 2, none⟩ = some (.int .i64 a.e) := KAx2.out.cell 2
          have vx20 : x2.cell? ⟨w.heap.size + 1, 0, none⟩ = some (.bool b.neg) := KBx2.out.cell 0
          have vx21 : x2.cell? ⟨w.heap.size + 1, 1, none⟩ = some (.slice B m d) := KBx2.out.cell 1
          have vx22 : x2.cell? ⟨w.heap.size + 1, 2, none⟩ = some (.int .i64 b.e) := KBx2.out.cell 2))
    | (go_at_call_of 21 (Value.agg #[.bool b.neg, .slice B m d, .int .i64 b.e])
       first
       | (refine (dbits_any b B m d _ (F2b.out.drewN 1) VB.out).mono ?_
          rw [HBB.out]
          rintro e xb ⟨rfl, HX⟩
          have Hxb := Lib.hid (show Below w2.heap.size w2 xb from ⟨HX.out.os, HX.out.tape, HX.out.output, HX.out.size, HX.out.block⟩)
          have Axb := Lib.hid (F2a.out.belowW Hxb.out)
          have Bxb := Lib.hid (F2b.out.belowW Hxb.out)
          have KAxb := Lib.hid (F2ka.out.belowW Hxb.out)
          have KBxb := Lib.hid (F2kb.out.belowW Hxb.out)
          have uxb0 : xb.cell? ⟨w.heap.size, 0, none⟩ = some (.bool a.neg) := KAxb.out.cell 0
          have uxb1 : xb.cell? ⟨w.heap.size, 1, none⟩ = some (.slice A n c) := KAxb.out.cell 1
          have uxb2 : xb.cell? ⟨w.heap.size, 2, none⟩ = some (.int .i64 a.e) := KAxb.out.cell 2
          have vxb0 : xb.cell? ⟨w.heap.size + 1, 0, none⟩ = some (.bool b.neg) := KBxb.out.cell 0
          have vxb1 : xb.cell? ⟨w.heap.size + 1, 1, none⟩ = some (.slice B m d) := KBxb.out.cell 1
          have vxb2 : xb.cell? ⟨w.heap.size + 1, 2, none⟩ = some (.int .i64 b.e) := KBxb.out.cell 2)
       | (refine (dbits_any b B m d _ Bxa.out VB.out).mono ?_
          rw [HBB.out]
          rintro e x2 ⟨rfl, HX2⟩
          have L2 := Lib.hid (Hxa.out.trans (HX2.out.mono Hxa.out.size))
          have KAx2 := Lib.hid (F2ka.out.belowW L2.out)
          have KBx2 := Lib.hid (F2kb.out.belowW L2.out)
          have ux20 : x2.cell? ⟨w.heap.size, 0, none⟩ = some (.bool a.neg) := KAx2.out.cell 0
          have ux21 : x2.cell? ⟨w.heap.size, 1, none⟩ = some (.slice A n c) := KAx2.out.cell 1
          have ux22 : x2.cell? ⟨w.heap.size, 2, none⟩ = some (.int .i64 a.e) := KAx2.out.cell 2
          have vx20 : x2.cell? ⟨w.heap.size + 1, 0, none⟩ = some (.bool b.neg) := KBx2.out.cell 0
          have vx21 : x2.cell? ⟨w.heap.size + 1, 1, none⟩ = some (.slice B m d) := KBx2.out.cell 1
          have vx22 : x2.cell? ⟨w.heap.size + 1, 2, none⟩ = some (.int .i64 b.e) := KBx2.out.cell 2)))
  go_wp2_with fail
  rw [HKK.out]
  clear KAx2 KBx2 pka0 fka0 pka1 fka1 pka2 fka2 pkb0 fkb0 pkb1 fkb1 pkb2 fkb2 pr0 fr0 pr1 fr1 pr2 fr2
  clear uxb0 vxb0 uxb1 vxb1 uxb2 vxb2 ux20 vx20 ux21 vx21 ux22 vx22
  have F3a := Lib.hid (F2a.out.belowW L2.out)
  have F3b := Lib.hid (F2b.out.belowW L2.out)
  have F3t := Lib.hid (F2t.out.belowW L2.out)
  have F3ka := Lib.hid (F2ka.out.belowW L2.out)
  have F3kb := Lib.hid (F2kb.out.belowW L2.out)
  have F3r := Lib.hid (F2r.out.belowW L2.out)
  have HL3 := Lib.hid (HL2.out.trans (L2.out.mono HL2.out.size))
  have pka0 : (x2).cell? ⟨w.heap.size, 0, none⟩ = some (.bool a.neg) := F3ka.out.cell 0
  have fka0 : (x2).frozen? ⟨w.heap.size, 0, none⟩ = false := F3ka.out.frozen 0
  have pka1 : (x2).cell? ⟨w.heap.size, 1, none⟩ = some (.slice A n c) := F3ka.out.cell 1
  have fka1 : (x2).frozen? ⟨w.heap.size, 1, none⟩ = false := F3ka.out.frozen 1
  have pka2 : (x2).cell? ⟨w.heap.size, 2, none⟩ = some (.int .i64 a.e) := F3ka.out.cell 2
  have fka2 : (x2).frozen? ⟨w.heap.size, 2, none⟩ = false := F3ka.out.frozen 2
  have pkb0 : (x2).cell? ⟨w.heap.size + 1, 0, none⟩ = some (.bool b.neg) := F3kb.out.cell 0
  have fkb0 : (x2).frozen? ⟨w.heap.size + 1, 0, none⟩ = false := F3kb.out.frozen 0
  have pkb1 : (x2).cell? ⟨w.heap.size + 1, 1, none⟩ = some (.slice B m d) := F3kb.out.cell 1
  have fkb1 : (x2).frozen? ⟨w.heap.size + 1, 1, none⟩ = false := F3kb.out.frozen 1
  have pkb2 : (x2).cell? ⟨w.heap.size + 1, 2, none⟩ = some (.int .i64 b.e) := F3kb.out.cell 2
  have fkb2 : (x2).frozen? ⟨w.heap.size + 1, 2, none⟩ = false := F3kb.out.frozen 2
  have pr0 : (x2).cell? ⟨w.heap.size + 1 + 1, 0, none⟩ = some (.bool false) := F3r.out.cell 0
  have fr0 : (x2).frozen? ⟨w.heap.size + 1 + 1, 0, none⟩ = false := F3r.out.frozen 0
  have pr1 : (x2).cell? ⟨w.heap.size + 1 + 1, 1, none⟩ = some (.slice none 0 0) := F3r.out.cell 1
  have fr1 : (x2).frozen? ⟨w.heap.size + 1 + 1, 1, none⟩ = false := F3r.out.frozen 1
  have pr2 : (x2).cell? ⟨w.heap.size + 1 + 1, 2, none⟩ = some (.int .i64 0) := F3r.out.cell 2
  have fr2 : (x2).frozen? ⟨w.heap.size + 1 + 1, 2, none⟩ = false := F3r.out.frozen 2
  go_region_held3 (fun w' => w'.cell? ⟨w.heap.size, 1, none⟩ = some (.slice A n c) ∧ w'.cell? ⟨w.heap.size + 1, 1, none⟩ = some (.slice B m d)) (first | exact ⟨pka1, pkb1⟩ | exact ⟨u3, v3⟩ | exact ⟨u4, v4⟩) (first
    | (go_at_call 143
       refine (rshl_any A n c _ k _ (F3a.out.drewN 1) hn hk0 (by omega) (by rw [HVL.out]; exact HSH.out)).mono ?_
       rw [HVL.out]
       rintro e x3 ⟨Y, y, rfl, HY, HX⟩
       have H3 := Lib.hid (show Below x2.heap.size x2 x3 from ⟨HX.out.os, HX.out.tape, HX.out.output, HX.out.size, HX.out.block⟩)
       have B3 := Lib.hid (F3b.out.belowW H3.out)
       have KA3 := Lib.hid (F3ka.out.belowW H3.out)
       have KB3 := Lib.hid (F3kb.out.belowW H3.out)
       have hy3 : y ≤ 256 := HY.out.lim (by have := HSH.out; omega)
       have u3 : x3.cell? ⟨w.heap.size, 1, none⟩ = some (.slice A n c) := KA3.out.cell 1
       have v3 : x3.cell? ⟨w.heap.size + 1, 1, none⟩ = some (.slice B m d) := KB3.out.cell 1)
    | (go_at_call 142
       refine (nDivMod_ok Y B y y m d _ _ _ HY.out B3.out hy3 hm HB0.out).mono ?_
       rw [val_limbs, val_limbs, HQ.out, HRR.out]
       rintro e x4 ⟨Q, R', qn, rn, rfl, HQn, HRn, HX4⟩
       have H4 := Lib.hid (H3.out.trans (HX4.out.mono H3.out.size))
       have KA4 := Lib.hid (F3ka.out.belowW H4.out)
       have KB4 := Lib.hid (F3kb.out.belowW H4.out)
       have u4 : x4.cell? ⟨w.heap.size, 1, none⟩ = some (.slice A n c) := KA4.out.cell 1
       have v4 : x4.cell? ⟨w.heap.size + 1, 1, none⟩ = some (.slice B m d) := KB4.out.cell 1))
  go_wp2_with fail
  clear KA3 KB3 KA4 KB4 u3 v3 u4 v4 pka0 fka0 pka1 fka1 pka2 fka2 pkb0 fkb0 pkb1 fkb1 pkb2 fkb2 pr0 fr0 pr1 fr1 pr2 fr2
  have F4a := Lib.hid (F3a.out.belowW H4.out)
  have F4b := Lib.hid (F3b.out.belowW H4.out)
  have F4t := Lib.hid (F3t.out.belowW H4.out)
  have F4ka := Lib.hid (F3ka.out.belowW H4.out)
  have F4kb := Lib.hid (F3kb.out.belowW H4.out)
  have F4r := Lib.hid (F3r.out.belowW H4.out)
  have HL4 := Lib.hid (HL3.out.trans (H4.out.mono HL3.out.size))
  have FQ := Lib.hid HQn.out.sl
  have FR := Lib.hid HRn.out.sl
  have hqn : qn ≤ 256 := FQ.out.lim (by have := HQB.out; omega)
  have hrn : rn ≤ 256 := FR.out.lim (by have := HRB.out; omega)
  have pka0 : (x4).cell? ⟨w.heap.size, 0, none⟩ = some (.bool a.neg) := F4ka.out.cell 0
  have fka0 : (x4).frozen? ⟨w.heap.size, 0, none⟩ = false := F4ka.out.frozen 0
  have pka1 : (x4).cell? ⟨w.heap.size, 1, none⟩ = some (.slice A n c) := F4ka.out.cell 1
  have fka1 : (x4).frozen? ⟨w.heap.size, 1, none⟩ = false := F4ka.out.frozen 1
  have pka2 : (x4).cell? ⟨w.heap.size, 2, none⟩ = some (.int .i64 a.e) := F4ka.out.cell 2
  have fka2 : (x4).frozen? ⟨w.heap.size, 2, none⟩ = false := F4ka.out.frozen 2
  have pkb0 : (x4).cell? ⟨w.heap.size + 1, 0, none⟩ = some (.bool b.neg) := F4kb.out.cell 0
  have fkb0 : (x4).frozen? ⟨w.heap.size + 1, 0, none⟩ = false := F4kb.out.frozen 0
  have pkb1 : (x4).cell? ⟨w.heap.size + 1, 1, none⟩ = some (.slice B m d) := F4kb.out.cell 1
  have fkb1 : (x4).frozen? ⟨w.heap.size + 1, 1, none⟩ = false := F4kb.out.frozen 1
  have pkb2 : (x4).cell? ⟨w.heap.size + 1, 2, none⟩ = some (.int .i64 b.e) := F4kb.out.cell 2
  have fkb2 : (x4).frozen? ⟨w.heap.size + 1, 2, none⟩ = false := F4kb.out.frozen 2
  have pr0 : (x4).cell? ⟨w.heap.size + 1 + 1, 0, none⟩ = some (.bool false) := F4r.out.cell 0
  have fr0 : (x4).frozen? ⟨w.heap.size + 1 + 1, 0, none⟩ = false := F4r.out.frozen 0
  have pr1 : (x4).cell? ⟨w.heap.size + 1 + 1, 1, none⟩ = some (.slice none 0 0) := F4r.out.cell 1
  have fr1 : (x4).frozen? ⟨w.heap.size + 1 + 1, 1, none⟩ = false := F4r.out.frozen 1
  have pr2 : (x4).cell? ⟨w.heap.size + 1 + 1, 2, none⟩ = some (.int .i64 0) := F4r.out.cell 2
  have fr2 : (x4).frozen? ⟨w.heap.size + 1 + 1, 2, none⟩ = false := F4r.out.frozen 2
  go_region_held3 (fun w' => w'.cell? ⟨w.heap.size, 0, none⟩ = some (.bool a.neg) ∧ w'.cell? ⟨w.heap.size, 2, none⟩ = some (.int .i64 a.e) ∧ w'.cell? ⟨w.heap.size + 1, 0, none⟩ = some (.bool b.neg) ∧ w'.cell? ⟨w.heap.size + 1, 2, none⟩ = some (.int .i64 b.e)) (first | exact ⟨pka0, pka2, pkb0, pkb2⟩ | exact ⟨u50, u52, v50, v52⟩ | exact ⟨store3_far KR5.out u50 (by omega) _ _ _, store3_far KR5.out u52 (by omega) _ _ _, store3_far KR5.out v50 (by omega) _ _ _, store3_far KR5.out v52 (by omega) _ _ _⟩) (first
    | (go_at_call 64
       refine (bits_any R' rn rn _ _ (FR.out.drewN 1) (by omega)).mono ?_
       rw [val_limbs, HBR.out]
       rintro e x5' ⟨rfl, rfl⟩)
    | (go_at_call 144
       refine (signed_any ng Q qn qn _ (a.e - k - b.e) mo up P _ (FQ.out.drewN 1) (F4t.out.drewN 1) hqn (by omega) (by omega) (by omega) (by omega)).mono ?_
       rw [val_limbs, ← HF.out]
       rintro e x5 ⟨M, mn, mc, rfl, HM, HX⟩
       have H5 := Lib.hid (show Below x4.heap.size x4 x5 from ⟨HX.out.os, HX.out.tape, HX.out.output, HX.out.size, HX.out.block⟩)
       have KA5 := Lib.hid (F4ka.out.belowW H5.out)
       have KB5 := Lib.hid (F4kb.out.belowW H5.out)
       have KR5 := Lib.hid (F4r.out.belowW H5.out)
       have u50 : x5.cell? ⟨w.heap.size, 0, none⟩ = some (.bool a.neg) := KA5.out.cell 0
       have u52 : x5.cell? ⟨w.heap.size, 2, none⟩ = some (.int .i64 a.e) := KA5.out.cell 2
       have v50 : x5.cell? ⟨w.heap.size + 1, 0, none⟩ = some (.bool b.neg) := KB5.out.cell 0
       have v52 : x5.cell? ⟨w.heap.size + 1, 2, none⟩ = some (.int .i64 b.e) := KB5.out.cell 2
       have r50 : x5.cell? ⟨w.heap.size + 1 + 1, 0, none⟩ = some (.bool false) := KR5.out.cell 0
       have r51 : x5.cell? ⟨w.heap.size + 1 + 1, 1, none⟩ = some (.slice none 0 0) := KR5.out.cell 1
       have r52 : x5.cell? ⟨w.heap.size + 1 + 1, 2, none⟩ = some (.int .i64 0) := KR5.out.cell 2
       have g50 : x5.frozen? ⟨w.heap.size + 1 + 1, 0, none⟩ = false := KR5.out.frozen 0
       have g51 : x5.frozen? ⟨w.heap.size + 1 + 1, 1, none⟩ = false := KR5.out.frozen 1
       have g52 : x5.frozen? ⟨w.heap.size + 1 + 1, 2, none⟩ = false := KR5.out.frozen 2))
  go_wp2_with fail
  refine bodyPost_ret (v := .tuple #[.agg #[.bool (divE a b P up).1.neg, .slice M mn mc, .int .i64 (divE a b P up).1.e], .int .i64 (divE a b P up).2]) (by simp [results, Tryz.results107, go_sem, r50, r51, r52]) rfl ?_
  exact ⟨M, mn, mc, rfl, Lib.hid (store3_sl HM.out KR5.out noU3 _ _ _), Lib.hid (store3_below (HL4.out.trans (H5.out.mono HL4.out.size)) KR5.out _ _ _ (by omega))⟩

theorem div_any (a b : D) (A B : Option Addr) (n c m d : Nat) (p : Int) (up : Bool) (w : World) (ha : Sl w A n c (limbs a.k)) (hb : Sl w B m d (limbs b.k)) (va : vld a) (vb : vld b) (hT : RB w) :
    Calls Tryz.prog 107 #[.agg #[.bool a.neg, .slice A n c, .int .i64 a.e], .agg #[.bool b.neg, .slice B m d, .int .i64 b.e], .int .i64 p, .bool up] w (DyE (divE a b p up) w) := by
  cases hp : precB p with
  | false => exact div_range a b A B n c m d p up w ha hb va vb hT hp
  | true =>
    by_cases hz : b.k = 0
    · exact div_zero a b A B n c m d p up w ha hb va vb hT hp hz
    · by_cases hy : a.k = 0
      · exact div_null a b A B n c m d p up w ha hb va vb hT hp hz hy
      · exact div_pos a b A B n c m d p up w ha hb va vb hT hp hz hy

set_option maxHeartbeats 1000000 in
theorem DivDown_any (a b : D) (A B : Option Addr) (n c m d : Nat) (p : Int) (w : World) (ha : Sl w A n c (limbs a.k)) (hb : Sl w B m d (limbs b.k)) (va : vld a) (vb : vld b) (hT : RB w) :
    Calls Tryz.prog 68 #[.agg #[.bool a.neg, .slice A n c, .int .i64 a.e], .agg #[.bool b.neg, .slice B m d, .int .i64 b.e], .int .i64 p] w (DyE (divE a b p false) w) := by
  have HA := Lib.hid ha
  have HB := Lib.hid hb
  have VA := Lib.hid va
  have VB := Lib.hid vb
  have HT := Lib.hid hT
  clear ha hb va vb hT
  go_enter Tryz.func68, Tryz.ntmps68
  go_wp2_with fail
  obtain ⟨w1, hw⟩ : ∃ z9 : World, z9 = (((w.alloc (.cells #[.bool a.neg, .slice A n c, .int .i64 a.e] 25)).alloc (.cells #[.bool b.neg, .slice B m d, .int .i64 b.e] 25)).alloc (.cells #[.bool false, .slice none 0 0, .int .i64 0] 25)) := ⟨_, rfl⟩
  have HB1 := Lib.hid (show Below w.heap.size w w1 by rw [hw]; exact below_a3 _ _ _ _)
  have F1a := Lib.hid (HA.out.belowW HB1.out)
  have F1b := Lib.hid (HB.out.belowW HB1.out)
  have F1t := Lib.hid (HT.out.belowW HB1.out)
  have F1ka := Lib.hid (show Blk w1 (w.heap.size) 25 #[.bool a.neg, .slice A n c, .int .i64 a.e] by rw [hw]; exact ((Blk.new _ _ _).alloc _).alloc _)
  have F1kb := Lib.hid (show Blk w1 (w.heap.size + 1) 25 #[.bool b.neg, .slice B m d, .int .i64 b.e] by rw [hw]; exact (Blk.new1 _ _ _ _).alloc _)
  have F1r := Lib.hid (show Blk w1 (w.heap.size + 1 + 1) 25 #[.bool false, .slice none 0 0, .int .i64 0] by rw [hw]; exact Blk.new2 _ _ _ _ _)
  rw [← hw]
  clear hw
  refine (div_any a b A B n c m d p false w1 F1a.out F1b.out VA.out VB.out F1t.out).mono ?_
  rintro e w2 ⟨X, x, xc, rfl, HX, HB2⟩
  have F2a := Lib.hid (F1a.out.belowW HB2.out)
  have F2b := Lib.hid (F1b.out.belowW HB2.out)
  have F2t := Lib.hid (F1t.out.belowW HB2.out)
  have F2ka := Lib.hid (F1ka.out.belowW HB2.out)
  have F2kb := Lib.hid (F1kb.out.belowW HB2.out)
  have F2r := Lib.hid (F1r.out.belowW HB2.out)
  have HL2 := Lib.hid (HB1.out.trans (HB2.out.mono HB1.out.size))
  have F2x := Lib.hid (HX.out)
  have pr0 : (w2).cell? ⟨w.heap.size + 1 + 1, 0, none⟩ = some (.bool false) := F2r.out.cell 0
  have fr0 : (w2).frozen? ⟨w.heap.size + 1 + 1, 0, none⟩ = false := F2r.out.frozen 0
  have pr1 : (w2).cell? ⟨w.heap.size + 1 + 1, 1, none⟩ = some (.slice none 0 0) := F2r.out.cell 1
  have fr1 : (w2).frozen? ⟨w.heap.size + 1 + 1, 1, none⟩ = false := F2r.out.frozen 1
  have pr2 : (w2).cell? ⟨w.heap.size + 1 + 1, 2, none⟩ = some (.int .i64 0) := F2r.out.cell 2
  have fr2 : (w2).frozen? ⟨w.heap.size + 1 + 1, 2, none⟩ = false := F2r.out.frozen 2
  go_wp2_with fail
  refine bodyPost_ret (v := .tuple #[.agg #[.bool (divE a b p false).1.neg, .slice X x xc, .int .i64 (divE a b p false).1.e], .int .i64 (divE a b p false).2]) (by simp [results, Tryz.results68, go_sem, pr0, pr1, pr2]) rfl ?_
  exact ⟨X, x, xc, rfl, Lib.hid (store3_sl F2x.out F2r.out noU3 _ _ _), Lib.hid (store3_below HL2.out F2r.out _ _ _ (by omega))⟩

set_option maxHeartbeats 1000000 in
theorem DivUp_any (a b : D) (A B : Option Addr) (n c m d : Nat) (p : Int) (w : World) (ha : Sl w A n c (limbs a.k)) (hb : Sl w B m d (limbs b.k)) (va : vld a) (vb : vld b) (hT : RB w) :
    Calls Tryz.prog 67 #[.agg #[.bool a.neg, .slice A n c, .int .i64 a.e], .agg #[.bool b.neg, .slice B m d, .int .i64 b.e], .int .i64 p] w (DyE (divE a b p true) w) := by
  have HA := Lib.hid ha
  have HB := Lib.hid hb
  have VA := Lib.hid va
  have VB := Lib.hid vb
  have HT := Lib.hid hT
  clear ha hb va vb hT
  go_enter Tryz.func67, Tryz.ntmps67
  go_wp2_with fail
  obtain ⟨w1, hw⟩ : ∃ z9 : World, z9 = (((w.alloc (.cells #[.bool a.neg, .slice A n c, .int .i64 a.e] 25)).alloc (.cells #[.bool b.neg, .slice B m d, .int .i64 b.e] 25)).alloc (.cells #[.bool false, .slice none 0 0, .int .i64 0] 25)) := ⟨_, rfl⟩
  have HB1 := Lib.hid (show Below w.heap.size w w1 by rw [hw]; exact below_a3 _ _ _ _)
  have F1a := Lib.hid (HA.out.belowW HB1.out)
  have F1b := Lib.hid (HB.out.belowW HB1.out)
  have F1t := Lib.hid (HT.out.belowW HB1.out)
  have F1ka := Lib.hid (show Blk w1 (w.heap.size) 25 #[.bool a.neg, .slice A n c, .int .i64 a.e] by rw [hw]; exact ((Blk.new _ _ _).alloc _).alloc _)
  have F1kb := Lib.hid (show Blk w1 (w.heap.size + 1) 25 #[.bool b.neg, .slice B m d, .int .i64 b.e] by rw [hw]; exact (Blk.new1 _ _ _ _).alloc _)
  have F1r := Lib.hid (show Blk w1 (w.heap.size + 1 + 1) 25 #[.bool false, .slice none 0 0, .int .i64 0] by rw [hw]; exact Blk.new2 _ _ _ _ _)
  rw [← hw]
  clear hw
  refine (div_any a b A B n c m d p true w1 F1a.out F1b.out VA.out VB.out F1t.out).mono ?_
  rintro e w2 ⟨X, x, xc, rfl, HX, HB2⟩
  have F2a := Lib.hid (F1a.out.belowW HB2.out)
  have F2b := Lib.hid (F1b.out.belowW HB2.out)
  have F2t := Lib.hid (F1t.out.belowW HB2.out)
  have F2ka := Lib.hid (F1ka.out.belowW HB2.out)
  have F2kb := Lib.hid (F1kb.out.belowW HB2.out)
  have F2r := Lib.hid (F1r.out.belowW HB2.out)
  have HL2 := Lib.hid (HB1.out.trans (HB2.out.mono HB1.out.size))
  have F2x := Lib.hid (HX.out)
  have pr0 : (w2).cell? ⟨w.heap.size + 1 + 1, 0, none⟩ = some (.bool false) := F2r.out.cell 0
  have fr0 : (w2).frozen? ⟨w.heap.size + 1 + 1, 0, none⟩ = false := F2r.out.frozen 0
  have pr1 : (w2).cell? ⟨w.heap.size + 1 + 1, 1, none⟩ = some (.slice none 0 0) := F2r.out.cell 1
  have fr1 : (w2).frozen? ⟨w.heap.size + 1 + 1, 1, none⟩ = false := F2r.out.frozen 1
  have pr2 : (w2).cell? ⟨w.heap.size + 1 + 1, 2, none⟩ = some (.int .i64 0) := F2r.out.cell 2
  have fr2 : (w2).frozen? ⟨w.heap.size + 1 + 1, 2, none⟩ = false := F2r.out.frozen 2
  go_wp2_with fail
  refine bodyPost_ret (v := .tuple #[.agg #[.bool (divE a b p true).1.neg, .slice X x xc, .int .i64 (divE a b p true).1.e], .int .i64 (divE a b p true).2]) (by simp [results, Tryz.results67, go_sem, pr0, pr1, pr2]) rfl ?_
  exact ⟨X, x, xc, rfl, Lib.hid (store3_sl F2x.out F2r.out noU3 _ _ _), Lib.hid (store3_below HL2.out F2r.out _ _ _ (by omega))⟩

end Go.Proofs.YtffdkakogeofmaaGreatDoor
