/-
  The walk of the law DecimalCommon.
-/
import Derived.Test.YtffdkakogeofmaaGreatDoorDecL
import Derived.Test.YtffdkakogeofmaaGreatDoorDecY
import Derived.Laws.EntriesVeiled
set_option linter.unusedVariables false
namespace Go.Proofs.YtffdkakogeofmaaGreatDoor
open Go.RowKit Go.Fl Go.Fl.Nm Go.Fl.Dy

set_option maxHeartbeats 1000000 in
theorem digits_all (na : Bool) (A : Option Addr) (n c : Nat) (ea : Int) (na' : Bool) (A' : Option Addr) (n' c' : Nat) (ea' : Int) (w : World) :
    Calls Tryz.prog 14 #[.agg #[.bool na, .slice A n c, .int .i64 ea, .bool na', .slice A' n' c', .int .i64 ea', .bool true]] w (Ret (.int .i64 (-1)) w) := by
  go_enter Tryz.func14, Tryz.ntmps14
  go_wp2_with fail
  obtain ⟨w1, hw⟩ : ∃ z9 : World, z9 = (w.alloc (.cells #[.bool na, .slice A n c, .int .i64 ea, .bool na', .slice A' n' c', .int .i64 ea', .bool true] 27)) := ⟨_, rfl⟩
  have HB1 := Lib.hid (show Below w.heap.size w w1 by rw [hw]; exact below_a1 _ _)
  have F1x := Lib.hid (show Blk w1 (w.heap.size) 27 #[.bool na, .slice A n c, .int .i64 ea, .bool na', .slice A' n' c', .int .i64 ea', .bool true] by rw [hw]; exact Blk.new _ _ _)
  rw [← hw]
  clear hw
  have px0 : (w1).cell? ⟨w.heap.size, 0, none⟩ = some (.bool na) := F1x.out.cell 0
  have fx0 : (w1).frozen? ⟨w.heap.size, 0, none⟩ = false := F1x.out.frozen 0
  have px1 : (w1).cell? ⟨w.heap.size, 1, none⟩ = some (.slice A n c) := F1x.out.cell 1
  have fx1 : (w1).frozen? ⟨w.heap.size, 1, none⟩ = false := F1x.out.frozen 1
  have px2 : (w1).cell? ⟨w.heap.size, 2, none⟩ = some (.int .i64 ea) := F1x.out.cell 2
  have fx2 : (w1).frozen? ⟨w.heap.size, 2, none⟩ = false := F1x.out.frozen 2
  have px3 : (w1).cell? ⟨w.heap.size, 3, none⟩ = some (.bool na') := F1x.out.cell 3
  have fx3 : (w1).frozen? ⟨w.heap.size, 3, none⟩ = false := F1x.out.frozen 3
  have px4 : (w1).cell? ⟨w.heap.size, 4, none⟩ = some (.slice A' n' c') := F1x.out.cell 4
  have fx4 : (w1).frozen? ⟨w.heap.size, 4, none⟩ = false := F1x.out.frozen 4
  have px5 : (w1).cell? ⟨w.heap.size, 5, none⟩ = some (.int .i64 ea') := F1x.out.cell 5
  have fx5 : (w1).frozen? ⟨w.heap.size, 5, none⟩ = false := F1x.out.frozen 5
  have px6 : (w1).cell? ⟨w.heap.size, 6, none⟩ = some (.bool true) := F1x.out.cell 6
  have fx6 : (w1).frozen? ⟨w.heap.size, 6, none⟩ = false := F1x.out.frozen 6
  go_wp2_with fail
  go_ret
  exact ⟨rfl, HB1⟩

set_option maxHeartbeats 1000000 in
theorem digits_inv (na : Bool) (A : Option Addr) (n c : Nat) (ea : Int) (l : List Nat) (na' : Bool) (A' : Option Addr) (n' c' : Nat) (ea' : Int) (l' : List Nat) (w : World) (h : Sl w A n c l) (h' : Sl w A' n' c' l') (hv : vldIB na l ea na' l' ea' false = false) :
    Calls Tryz.prog 14 #[.agg #[.bool na, .slice A n c, .int .i64 ea, .bool na', .slice A' n' c', .int .i64 ea', .bool false]] w (Ret (.int .i64 (-1)) w) := by
  have H1 := Lib.hid h
  have H2 := Lib.hid h'
  have HV := Lib.hid hv
  clear h h' hv
  go_enter Tryz.func14, Tryz.ntmps14
  go_wp2_with fail
  obtain ⟨w1, hw⟩ : ∃ z9 : World, z9 = (w.alloc (.cells #[.bool na, .slice A n c, .int .i64 ea, .bool na', .slice A' n' c', .int .i64 ea', .bool false] 27)) := ⟨_, rfl⟩
  have HB1 := Lib.hid (show Below w.heap.size w w1 by rw [hw]; exact below_a1 _ _)
  have F1a := Lib.hid (H1.out.belowW HB1.out)
  have F1b := Lib.hid (H2.out.belowW HB1.out)
  have F1x := Lib.hid (show Blk w1 (w.heap.size) 27 #[.bool na, .slice A n c, .int .i64 ea, .bool na', .slice A' n' c', .int .i64 ea', .bool false] by rw [hw]; exact Blk.new _ _ _)
  rw [← hw]
  clear hw
  have px0 : (w1).cell? ⟨w.heap.size, 0, none⟩ = some (.bool na) := F1x.out.cell 0
  have fx0 : (w1).frozen? ⟨w.heap.size, 0, none⟩ = false := F1x.out.frozen 0
  have px1 : (w1).cell? ⟨w.heap.size, 1, none⟩ = some (.slice A n c) := F1x.out.cell 1
  have fx1 : (w1).frozen? ⟨w.heap.size, 1, none⟩ = false := F1x.out.frozen 1
  have px2 : (w1).cell? ⟨w.heap.size, 2, none⟩ = some (.int .i64 ea) := F1x.out.cell 2
  have fx2 : (w1).frozen? ⟨w.heap.size, 2, none⟩ = false := F1x.out.frozen 2
  have px3 : (w1).cell? ⟨w.heap.size, 3, none⟩ = some (.bool na') := F1x.out.cell 3
  have fx3 : (w1).frozen? ⟨w.heap.size, 3, none⟩ = false := F1x.out.frozen 3
  have px4 : (w1).cell? ⟨w.heap.size, 4, none⟩ = some (.slice A' n' c') := F1x.out.cell 4
  have fx4 : (w1).frozen? ⟨w.heap.size, 4, none⟩ = false := F1x.out.frozen 4
  have px5 : (w1).cell? ⟨w.heap.size, 5, none⟩ = some (.int .i64 ea') := F1x.out.cell 5
  have fx5 : (w1).frozen? ⟨w.heap.size, 5, none⟩ = false := F1x.out.frozen 5
  have px6 : (w1).cell? ⟨w.heap.size, 6, none⟩ = some (.bool false) := F1x.out.cell 6
  have fx6 : (w1).frozen? ⟨w.heap.size, 6, none⟩ = false := F1x.out.frozen 6
  go_wp2_with fail
  refine (ivalid_any na A n c ea l na' A' n' c' ea' l' false w1 F1a.out F1b.out).mono ?_
  rw [HV.out]
  rintro e w2 ⟨rfl, HB2⟩
  have F2a := Lib.hid (F1a.out.belowW HB2.out)
  have F2b := Lib.hid (F1b.out.belowW HB2.out)
  have F2x := Lib.hid (F1x.out.belowW HB2.out)
  have HL2 := Lib.hid (HB1.out.trans (HB2.out.mono HB1.out.size))
  go_wp2_with fail
  go_ret
  exact ⟨rfl, HL2⟩
/-- Behind the cut of a shown point. -/
def DnP (d : D) (k : Nat) (w : World) (e : Ending) (w' : World) : Prop :=
  ∃ (X Y : ByteArray) (b : Bool), e = .returned (.tuple #[.string X, .string Y, .bool b]) ∧ Hid (X = ⟨(dnS d k).toArray⟩) ∧ Hid (Below w.heap.size w w')
theorem dncut_any (d : D) (k : Nat) (w : World) (vd : vld d) (hk : k ≤ 51) : Calls Tryz.prog 24 #[.string ⟨(txtI d d k).toArray⟩, .string ⟨#[44]⟩] w (DnP d k w) := by
  have hl := txtI_len vd hk
  have hs : (⟨(txtI d d k).toArray⟩ : ByteArray).size ≤ 100000 := by show (txtI d d k).toArray.size ≤ 100000; simp; omega
  by_cases h : topB d ≤ 1000
  · obtain ⟨h1, h2⟩ := dn_text (k := k) h
    refine (cut_yes ⟨(txtI d d k).toArray⟩ 44 _ _ w hs h1 h2).mono ?_
    rintro e w' ⟨X, Y, rfl, HX, HY, HL⟩
    exact ⟨X, Y, true, rfl, Lib.hid (ba_list HX.out), HL⟩
  · obtain ⟨h1, h2⟩ := dn_none (k := k) h
    refine (cut_no ⟨(txtI d d k).toArray⟩ 44 w hs (by show (44 : UInt8) ∉ txtI d d k; rw [h1]; simp)).mono ?_
    rintro e w' ⟨rfl, rfl⟩
    exact ⟨_, _, false, rfl, Lib.hid (by rw [h1, h2]), Lib.hid (Below.refl _ _)⟩
set_option maxHeartbeats 1000000 in
theorem down_any (d : D) (A : Option Addr) (n c k : Nat) (w : World) (h : Sl w A n c (limbs d.k)) (vd : vld d) (hk : k ≤ 50) (hT : RB w) :
    Calls Tryz.prog 23 #[.agg #[.bool d.neg, .slice A n c, .int .i64 d.e], .int .i64 k] w (Ret (.string ⟨(dnS d k).toArray⟩) w) := by
  have H := Lib.hid h
  have HV := Lib.hid vd
  have HT := Lib.hid hT
  have HC := Lib.hid ((cmp_le vd vd).2 (Int.le_refl _))
  have hk1 : k ≤ 51 := by omega
  clear h vd hT
  go_enter Tryz.func23, Tryz.ntmps23
  go_wp2_with fail
  obtain ⟨w1, hw⟩ : ∃ z9 : World, z9 = (w.alloc (.cells #[.bool d.neg, .slice A n c, .int .i64 d.e] 25)) := ⟨_, rfl⟩
  have HB1 := Lib.hid (show Below w.heap.size w w1 by rw [hw]; exact below_a1 _ _)
  have F1a := Lib.hid (H.out.belowW HB1.out)
  have F1t := Lib.hid (HT.out.belowW HB1.out)
  have F1d := Lib.hid (show Blk w1 (w.heap.size) 25 #[.bool d.neg, .slice A n c, .int .i64 d.e] by rw [hw]; exact Blk.new _ _ _)
  rw [← hw]
  clear hw
  have pd0 : (w1).cell? ⟨w.heap.size, 0, none⟩ = some (.bool d.neg) := F1d.out.cell 0
  have fd0 : (w1).frozen? ⟨w.heap.size, 0, none⟩ = false := F1d.out.frozen 0
  have pd1 : (w1).cell? ⟨w.heap.size, 1, none⟩ = some (.slice A n c) := F1d.out.cell 1
  have fd1 : (w1).frozen? ⟨w.heap.size, 1, none⟩ = false := F1d.out.frozen 1
  have pd2 : (w1).cell? ⟨w.heap.size, 2, none⟩ = some (.int .i64 d.e) := F1d.out.cell 2
  have fd2 : (w1).frozen? ⟨w.heap.size, 2, none⟩ = false := F1d.out.frozen 2
  go_wp2_with fail
  refine (point_any d A n c w1 F1a.out HV.out).mono ?_
  rintro e w2 ⟨rfl, HB2⟩
  have F2a := Lib.hid (F1a.out.belowW HB2.out)
  have F2t := Lib.hid (F1t.out.belowW HB2.out)
  have F2d := Lib.hid (F1d.out.belowW HB2.out)
  have HL2 := Lib.hid (HB1.out.trans (HB2.out.mono HB1.out.size))
  go_wp2_with fail
  refine (dText_any d d A n c A n c k w2 F2a.out F2a.out HV.out HV.out HC.out hk F2t.out).mono ?_
  rintro e w3 ⟨rfl, HB3⟩
  have F3a := Lib.hid (F2a.out.belowW HB3.out)
  have F3t := Lib.hid (F2t.out.belowW HB3.out)
  have F3d := Lib.hid (F2d.out.belowW HB3.out)
  have HL3 := Lib.hid (HL2.out.trans (HB3.out.mono HL2.out.size))
  go_wp2_with fail
  refine (dncut_any d k w3 HV.out hk1).mono ?_
  rintro e w4 ⟨X, Y, b, rfl, HX, HB4⟩
  have F4a := Lib.hid (F3a.out.belowW HB4.out)
  have F4t := Lib.hid (F3t.out.belowW HB4.out)
  have F4d := Lib.hid (F3d.out.belowW HB4.out)
  have HL4 := Lib.hid (HL3.out.trans (HB4.out.mono HL3.out.size))
  go_wp2_with fail
  obtain rfl := HX.out
  go_ret
  exact ⟨rfl, HL4⟩
theorem down_zero (d : D) (A : Option Addr) (n c : Nat) (w : World) (h : Sl w A n c (limbs d.k)) (vd : vld d) (hT : RB w) :
    Calls Tryz.prog 23 #[.agg #[.bool d.neg, .slice A n c, .int .i64 d.e], .int .i64 0] w (Ret (.string ⟨(dnS d 0).toArray⟩) w) := down_any d A n c 0 w h vd (Nat.zero_le _) hT

set_option maxHeartbeats 1000000 in
theorem comm_great (na : Bool) (A : Option Addr) (n c : Nat) (ea : Int) (l : List Nat) (na' : Bool) (A' : Option Addr) (n' c' : Nat) (ea' : Int) (l' : List Nat) (sa : Bool) (w : World) (hT : RB w) (hM : MXL w) (h : Sl w A n c l) (h' : Sl w A' n' c' l') (hg : (decide (40 < n) || decide (40 < n')) = true) : Calls Tryz.prog 7 #[.agg #[.bool na, .slice A n c, .int .i64 ea, .bool na', .slice A' n' c', .int .i64 ea', .bool sa]] w (Awk w) := by
  have H1 := Lib.hid h
  have H2 := Lib.hid h'
  have HT := Lib.hid hT
  have HM := Lib.hid hM
  have hn := h.max
  have hn' := h'.max
  have HG := Lib.hid hg
  clear h h' hT hM hg
  go_enter Tryz.func7, Tryz.ntmps7
  go_wp2_with fail
  obtain ⟨w1, hw⟩ : ∃ z9 : World, z9 = (w.alloc (.cells #[.bool na, .slice A n c, .int .i64 ea, .bool na', .slice A' n' c', .int .i64 ea', .bool sa] 27)) := ⟨_, rfl⟩
  have HB1 := Lib.hid (show Below w.heap.size w w1 by rw [hw]; exact below_a1 _ _)
  have F1a := Lib.hid (H1.out.belowW HB1.out)
  have F1b := Lib.hid (H2.out.belowW HB1.out)
  have F1t := Lib.hid (HT.out.belowW HB1.out)
  have F1m := Lib.hid (HM.out.belowW HB1.out)
  have F1x := Lib.hid (show Blk w1 (w.heap.size) 27 #[.bool na, .slice A n c, .int .i64 ea, .bool na', .slice A' n' c', .int .i64 ea', .bool sa] by rw [hw]; exact Blk.new _ _ _)
  rw [← hw]
  clear hw
  refine (dAwake_any w1 F1t.out F1m.out).mono ?_
  rintro e w2 ⟨rfl, HB2⟩
  have F2a := Lib.hid (F1a.out.belowW HB2.out)
  have F2b := Lib.hid (F1b.out.belowW HB2.out)
  have F2t := Lib.hid (F1t.out.belowW HB2.out)
  have F2m := Lib.hid (F1m.out.belowW HB2.out)
  have F2x := Lib.hid (F1x.out.belowW HB2.out)
  have HL2 := Lib.hid (HB1.out.trans (HB2.out.mono HB1.out.size))
  have px0 : (w2).cell? ⟨w.heap.size, 0, none⟩ = some (.bool na) := F2x.out.cell 0
  have fx0 : (w2).frozen? ⟨w.heap.size, 0, none⟩ = false := F2x.out.frozen 0
  have px1 : (w2).cell? ⟨w.heap.size, 1, none⟩ = some (.slice A n c) := F2x.out.cell 1
  have fx1 : (w2).frozen? ⟨w.heap.size, 1, none⟩ = false := F2x.out.frozen 1
  have px2 : (w2).cell? ⟨w.heap.size, 2, none⟩ = some (.int .i64 ea) := F2x.out.cell 2
  have fx2 : (w2).frozen? ⟨w.heap.size, 2, none⟩ = false := F2x.out.frozen 2
  have px3 : (w2).cell? ⟨w.heap.size, 3, none⟩ = some (.bool na') := F2x.out.cell 3
  have fx3 : (w2).frozen? ⟨w.heap.size, 3, none⟩ = false := F2x.out.frozen 3
  have px4 : (w2).cell? ⟨w.heap.size, 4, none⟩ = some (.slice A' n' c') := F2x.out.cell 4
  have fx4 : (w2).frozen? ⟨w.heap.size, 4, none⟩ = false := F2x.out.frozen 4
  have px5 : (w2).cell? ⟨w.heap.size, 5, none⟩ = some (.int .i64 ea') := F2x.out.cell 5
  have fx5 : (w2).frozen? ⟨w.heap.size, 5, none⟩ = false := F2x.out.frozen 5
  have px6 : (w2).cell? ⟨w.heap.size, 6, none⟩ = some (.bool sa) := F2x.out.cell 6
  have fx6 : (w2).frozen? ⟨w.heap.size, 6, none⟩ = false := F2x.out.frozen 6
  go_wp2_with fail
  refine (great_any na na' sa A A' n c n' c' ea ea' w2 hn hn').mono ?_
  rw [HG.out]
  rintro e w3 ⟨rfl, HB3⟩
  have F3a := Lib.hid (F2a.out.belowW HB3.out)
  have F3b := Lib.hid (F2b.out.belowW HB3.out)
  have F3t := Lib.hid (F2t.out.belowW HB3.out)
  have F3m := Lib.hid (F2m.out.belowW HB3.out)
  have F3x := Lib.hid (F2x.out.belowW HB3.out)
  have HL3 := Lib.hid (HL2.out.trans (HB3.out.mono HL2.out.size))
  go_wp2_with fail
  go_ret
  exact ⟨rfl, HL3⟩

set_option maxHeartbeats 1000000 in
theorem comm_all (na : Bool) (A : Option Addr) (n c : Nat) (ea : Int) (l : List Nat) (na' : Bool) (A' : Option Addr) (n' c' : Nat) (ea' : Int) (l' : List Nat) (w : World) (hT : RB w) (hM : MXL w) (h : Sl w A n c l) (h' : Sl w A' n' c' l') (hg : (decide (40 < n) || decide (40 < n')) = false) (hv : vldIB na l ea na' l' ea' true = true) : Calls Tryz.prog 7 #[.agg #[.bool na, .slice A n c, .int .i64 ea, .bool na', .slice A' n' c', .int .i64 ea', .bool true]] w (Awk w) := by
  have H1 := Lib.hid h
  have H2 := Lib.hid h'
  have HT := Lib.hid hT
  have HM := Lib.hid hM
  have hn := h.max
  have hn' := h'.max
  have HG := Lib.hid hg
  have HV := Lib.hid hv
  clear h h' hT hM hg hv
  go_enter Tryz.func7, Tryz.ntmps7
  go_wp2_with fail
  obtain ⟨w1, hw⟩ : ∃ z9 : World, z9 = (w.alloc (.cells #[.bool na, .slice A n c, .int .i64 ea, .bool na', .slice A' n' c', .int .i64 ea', .bool true] 27)) := ⟨_, rfl⟩
  have HB1 := Lib.hid (show Below w.heap.size w w1 by rw [hw]; exact below_a1 _ _)
  have F1a := Lib.hid (H1.out.belowW HB1.out)
  have F1b := Lib.hid (H2.out.belowW HB1.out)
  have F1t := Lib.hid (HT.out.belowW HB1.out)
  have F1m := Lib.hid (HM.out.belowW HB1.out)
  have F1x := Lib.hid (show Blk w1 (w.heap.size) 27 #[.bool na, .slice A n c, .int .i64 ea, .bool na', .slice A' n' c', .int .i64 ea', .bool true] by rw [hw]; exact Blk.new _ _ _)
  rw [← hw]
  clear hw
  refine (dAwake_any w1 F1t.out F1m.out).mono ?_
  rintro e w2 ⟨rfl, HB2⟩
  have F2a := Lib.hid (F1a.out.belowW HB2.out)
  have F2b := Lib.hid (F1b.out.belowW HB2.out)
  have F2t := Lib.hid (F1t.out.belowW HB2.out)
  have F2m := Lib.hid (F1m.out.belowW HB2.out)
  have F2x := Lib.hid (F1x.out.belowW HB2.out)
  have HL2 := Lib.hid (HB1.out.trans (HB2.out.mono HB1.out.size))
  have px0 : (w2).cell? ⟨w.heap.size, 0, none⟩ = some (.bool na) := F2x.out.cell 0
  have fx0 : (w2).frozen? ⟨w.heap.size, 0, none⟩ = false := F2x.out.frozen 0
  have px1 : (w2).cell? ⟨w.heap.size, 1, none⟩ = some (.slice A n c) := F2x.out.cell 1
  have fx1 : (w2).frozen? ⟨w.heap.size, 1, none⟩ = false := F2x.out.frozen 1
  have px2 : (w2).cell? ⟨w.heap.size, 2, none⟩ = some (.int .i64 ea) := F2x.out.cell 2
  have fx2 : (w2).frozen? ⟨w.heap.size, 2, none⟩ = false := F2x.out.frozen 2
  have px3 : (w2).cell? ⟨w.heap.size, 3, none⟩ = some (.bool na') := F2x.out.cell 3
  have fx3 : (w2).frozen? ⟨w.heap.size, 3, none⟩ = false := F2x.out.frozen 3
  have px4 : (w2).cell? ⟨w.heap.size, 4, none⟩ = some (.slice A' n' c') := F2x.out.cell 4
  have fx4 : (w2).frozen? ⟨w.heap.size, 4, none⟩ = false := F2x.out.frozen 4
  have px5 : (w2).cell? ⟨w.heap.size, 5, none⟩ = some (.int .i64 ea') := F2x.out.cell 5
  have fx5 : (w2).frozen? ⟨w.heap.size, 5, none⟩ = false := F2x.out.frozen 5
  have px6 : (w2).cell? ⟨w.heap.size, 6, none⟩ = some (.bool true) := F2x.out.cell 6
  have fx6 : (w2).frozen? ⟨w.heap.size, 6, none⟩ = false := F2x.out.frozen 6
  go_wp2_with fail
  refine (great_any na na' true A A' n c n' c' ea ea' w2 hn hn').mono ?_
  rw [HG.out]
  rintro e w3 ⟨rfl, HB3⟩
  have F3a := Lib.hid (F2a.out.belowW HB3.out)
  have F3b := Lib.hid (F2b.out.belowW HB3.out)
  have F3t := Lib.hid (F2t.out.belowW HB3.out)
  have F3m := Lib.hid (F2m.out.belowW HB3.out)
  have F3x := Lib.hid (F2x.out.belowW HB3.out)
  have HL3 := Lib.hid (HL2.out.trans (HB3.out.mono HL2.out.size))
  clear px0 fx0 px1 fx1 px2 fx2 px3 fx3 px4 fx4 px5 fx5 px6 fx6
  have px0 : (w3).cell? ⟨w.heap.size, 0, none⟩ = some (.bool na) := F3x.out.cell 0
  have fx0 : (w3).frozen? ⟨w.heap.size, 0, none⟩ = false := F3x.out.frozen 0
  have px1 : (w3).cell? ⟨w.heap.size, 1, none⟩ = some (.slice A n c) := F3x.out.cell 1
  have fx1 : (w3).frozen? ⟨w.heap.size, 1, none⟩ = false := F3x.out.frozen 1
  have px2 : (w3).cell? ⟨w.heap.size, 2, none⟩ = some (.int .i64 ea) := F3x.out.cell 2
  have fx2 : (w3).frozen? ⟨w.heap.size, 2, none⟩ = false := F3x.out.frozen 2
  have px3 : (w3).cell? ⟨w.heap.size, 3, none⟩ = some (.bool na') := F3x.out.cell 3
  have fx3 : (w3).frozen? ⟨w.heap.size, 3, none⟩ = false := F3x.out.frozen 3
  have px4 : (w3).cell? ⟨w.heap.size, 4, none⟩ = some (.slice A' n' c') := F3x.out.cell 4
  have fx4 : (w3).frozen? ⟨w.heap.size, 4, none⟩ = false := F3x.out.frozen 4
  have px5 : (w3).cell? ⟨w.heap.size, 5, none⟩ = some (.int .i64 ea') := F3x.out.cell 5
  have fx5 : (w3).frozen? ⟨w.heap.size, 5, none⟩ = false := F3x.out.frozen 5
  have px6 : (w3).cell? ⟨w.heap.size, 6, none⟩ = some (.bool true) := F3x.out.cell 6
  have fx6 : (w3).frozen? ⟨w.heap.size, 6, none⟩ = false := F3x.out.frozen 6
  go_wp2_with fail
  refine (digits_all na A n c ea na' A' n' c' ea' w3).mono ?_
  rintro e w4 ⟨rfl, HB4⟩
  have F4a := Lib.hid (F3a.out.belowW HB4.out)
  have F4b := Lib.hid (F3b.out.belowW HB4.out)
  have F4t := Lib.hid (F3t.out.belowW HB4.out)
  have F4m := Lib.hid (F3m.out.belowW HB4.out)
  have F4x := Lib.hid (F3x.out.belowW HB4.out)
  have HL4 := Lib.hid (HL3.out.trans (HB4.out.mono HL3.out.size))
  clear px0 fx0 px1 fx1 px2 fx2 px3 fx3 px4 fx4 px5 fx5 px6 fx6
  have px0 : (w4).cell? ⟨w.heap.size, 0, none⟩ = some (.bool na) := F4x.out.cell 0
  have fx0 : (w4).frozen? ⟨w.heap.size, 0, none⟩ = false := F4x.out.frozen 0
  have px1 : (w4).cell? ⟨w.heap.size, 1, none⟩ = some (.slice A n c) := F4x.out.cell 1
  have fx1 : (w4).frozen? ⟨w.heap.size, 1, none⟩ = false := F4x.out.frozen 1
  have px2 : (w4).cell? ⟨w.heap.size, 2, none⟩ = some (.int .i64 ea) := F4x.out.cell 2
  have fx2 : (w4).frozen? ⟨w.heap.size, 2, none⟩ = false := F4x.out.frozen 2
  have px3 : (w4).cell? ⟨w.heap.size, 3, none⟩ = some (.bool na') := F4x.out.cell 3
  have fx3 : (w4).frozen? ⟨w.heap.size, 3, none⟩ = false := F4x.out.frozen 3
  have px4 : (w4).cell? ⟨w.heap.size, 4, none⟩ = some (.slice A' n' c') := F4x.out.cell 4
  have fx4 : (w4).frozen? ⟨w.heap.size, 4, none⟩ = false := F4x.out.frozen 4
  have px5 : (w4).cell? ⟨w.heap.size, 5, none⟩ = some (.int .i64 ea') := F4x.out.cell 5
  have fx5 : (w4).frozen? ⟨w.heap.size, 5, none⟩ = false := F4x.out.frozen 5
  have px6 : (w4).cell? ⟨w.heap.size, 6, none⟩ = some (.bool true) := F4x.out.cell 6
  have fx6 : (w4).frozen? ⟨w.heap.size, 6, none⟩ = false := F4x.out.frozen 6
  go_wp2_with fail
  refine (ivalid_any na A n c ea l na' A' n' c' ea' l' true w4 F4a.out F4b.out).mono ?_
  rw [HV.out]
  rintro e w5 ⟨rfl, HB5⟩
  have F5a := Lib.hid (F4a.out.belowW HB5.out)
  have F5b := Lib.hid (F4b.out.belowW HB5.out)
  have F5t := Lib.hid (F4t.out.belowW HB5.out)
  have F5m := Lib.hid (F4m.out.belowW HB5.out)
  have F5x := Lib.hid (F4x.out.belowW HB5.out)
  have HL5 := Lib.hid (HL4.out.trans (HB5.out.mono HL4.out.size))
  clear px0 fx0 px1 fx1 px2 fx2 px3 fx3 px4 fx4 px5 fx5 px6 fx6
  have px0 : (w5).cell? ⟨w.heap.size, 0, none⟩ = some (.bool na) := F5x.out.cell 0
  have fx0 : (w5).frozen? ⟨w.heap.size, 0, none⟩ = false := F5x.out.frozen 0
  have px1 : (w5).cell? ⟨w.heap.size, 1, none⟩ = some (.slice A n c) := F5x.out.cell 1
  have fx1 : (w5).frozen? ⟨w.heap.size, 1, none⟩ = false := F5x.out.frozen 1
  have px2 : (w5).cell? ⟨w.heap.size, 2, none⟩ = some (.int .i64 ea) := F5x.out.cell 2
  have fx2 : (w5).frozen? ⟨w.heap.size, 2, none⟩ = false := F5x.out.frozen 2
  have px3 : (w5).cell? ⟨w.heap.size, 3, none⟩ = some (.bool na') := F5x.out.cell 3
  have fx3 : (w5).frozen? ⟨w.heap.size, 3, none⟩ = false := F5x.out.frozen 3
  have px4 : (w5).cell? ⟨w.heap.size, 4, none⟩ = some (.slice A' n' c') := F5x.out.cell 4
  have fx4 : (w5).frozen? ⟨w.heap.size, 4, none⟩ = false := F5x.out.frozen 4
  have px5 : (w5).cell? ⟨w.heap.size, 5, none⟩ = some (.int .i64 ea') := F5x.out.cell 5
  have fx5 : (w5).frozen? ⟨w.heap.size, 5, none⟩ = false := F5x.out.frozen 5
  have px6 : (w5).cell? ⟨w.heap.size, 6, none⟩ = some (.bool true) := F5x.out.cell 6
  have fx6 : (w5).frozen? ⟨w.heap.size, 6, none⟩ = false := F5x.out.frozen 6
  go_wp2_with fail
  go_ret
  exact ⟨rfl, HL5⟩

set_option maxHeartbeats 1000000 in
theorem comm_allno (na : Bool) (A : Option Addr) (n c : Nat) (ea : Int) (l : List Nat) (na' : Bool) (A' : Option Addr) (n' c' : Nat) (ea' : Int) (l' : List Nat) (w : World) (hT : RB w) (hM : MXL w) (h : Sl w A n c l) (h' : Sl w A' n' c' l') (hg : (decide (40 < n) || decide (40 < n')) = false) (hv : vldIB na l ea na' l' ea' true = false) : Calls Tryz.prog 7 #[.agg #[.bool na, .slice A n c, .int .i64 ea, .bool na', .slice A' n' c', .int .i64 ea', .bool true]] w (Awk w) := by
  have H1 := Lib.hid h
  have H2 := Lib.hid h'
  have HT := Lib.hid hT
  have HM := Lib.hid hM
  have hn := h.max
  have hn' := h'.max
  have HG := Lib.hid hg
  have HV := Lib.hid hv
  clear h h' hT hM hg hv
  go_enter Tryz.func7, Tryz.ntmps7
  go_wp2_with fail
  obtain ⟨w1, hw⟩ : ∃ z9 : World, z9 = (w.alloc (.cells #[.bool na, .slice A n c, .int .i64 ea, .bool na', .slice A' n' c', .int .i64 ea', .bool true] 27)) := ⟨_, rfl⟩
  have HB1 := Lib.hid (show Below w.heap.size w w1 by rw [hw]; exact below_a1 _ _)
  have F1a := Lib.hid (H1.out.belowW HB1.out)
  have F1b := Lib.hid (H2.out.belowW HB1.out)
  have F1t := Lib.hid (HT.out.belowW HB1.out)
  have F1m := Lib.hid (HM.out.belowW HB1.out)
  have F1x := Lib.hid (show Blk w1 (w.heap.size) 27 #[.bool na, .slice A n c, .int .i64 ea, .bool na', .slice A' n' c', .int .i64 ea', .bool true] by rw [hw]; exact Blk.new _ _ _)
  rw [← hw]
  clear hw
  refine (dAwake_any w1 F1t.out F1m.out).mono ?_
  rintro e w2 ⟨rfl, HB2⟩
  have F2a := Lib.hid (F1a.out.belowW HB2.out)
  have F2b := Lib.hid (F1b.out.belowW HB2.out)
  have F2t := Lib.hid (F1t.out.belowW HB2.out)
  have F2m := Lib.hid (F1m.out.belowW HB2.out)
  have F2x := Lib.hid (F1x.out.belowW HB2.out)
  have HL2 := Lib.hid (HB1.out.trans (HB2.out.mono HB1.out.size))
  have px0 : (w2).cell? ⟨w.heap.size, 0, none⟩ = some (.bool na) := F2x.out.cell 0
  have fx0 : (w2).frozen? ⟨w.heap.size, 0, none⟩ = false := F2x.out.frozen 0
  have px1 : (w2).cell? ⟨w.heap.size, 1, none⟩ = some (.slice A n c) := F2x.out.cell 1
  have fx1 : (w2).frozen? ⟨w.heap.size, 1, none⟩ = false := F2x.out.frozen 1
  have px2 : (w2).cell? ⟨w.heap.size, 2, none⟩ = some (.int .i64 ea) := F2x.out.cell 2
  have fx2 : (w2).frozen? ⟨w.heap.size, 2, none⟩ = false := F2x.out.frozen 2
  have px3 : (w2).cell? ⟨w.heap.size, 3, none⟩ = some (.bool na') := F2x.out.cell 3
  have fx3 : (w2).frozen? ⟨w.heap.size, 3, none⟩ = false := F2x.out.frozen 3
  have px4 : (w2).cell? ⟨w.heap.size, 4, none⟩ = some (.slice A' n' c') := F2x.out.cell 4
  have fx4 : (w2).frozen? ⟨w.heap.size, 4, none⟩ = false := F2x.out.frozen 4
  have px5 : (w2).cell? ⟨w.heap.size, 5, none⟩ = some (.int .i64 ea') := F2x.out.cell 5
  have fx5 : (w2).frozen? ⟨w.heap.size, 5, none⟩ = false := F2x.out.frozen 5
  have px6 : (w2).cell? ⟨w.heap.size, 6, none⟩ = some (.bool true) := F2x.out.cell 6
  have fx6 : (w2).frozen? ⟨w.heap.size, 6, none⟩ = false := F2x.out.frozen 6
  go_wp2_with fail
  refine (great_any na na' true A A' n c n' c' ea ea' w2 hn hn').mono ?_
  rw [HG.out]
  rintro e w3 ⟨rfl, HB3⟩
  have F3a := Lib.hid (F2a.out.belowW HB3.out)
  have F3b := Lib.hid (F2b.out.belowW HB3.out)
  have F3t := Lib.hid (F2t.out.belowW HB3.out)
  have F3m := Lib.hid (F2m.out.belowW HB3.out)
  have F3x := Lib.hid (F2x.out.belowW HB3.out)
  have HL3 := Lib.hid (HL2.out.trans (HB3.out.mono HL2.out.size))
  clear px0 fx0 px1 fx1 px2 fx2 px3 fx3 px4 fx4 px5 fx5 px6 fx6
  have px0 : (w3).cell? ⟨w.heap.size, 0, none⟩ = some (.bool na) := F3x.out.cell 0
  have fx0 : (w3).frozen? ⟨w.heap.size, 0, none⟩ = false := F3x.out.frozen 0
  have px1 : (w3).cell? ⟨w.heap.size, 1, none⟩ = some (.slice A n c) := F3x.out.cell 1
  have fx1 : (w3).frozen? ⟨w.heap.size, 1, none⟩ = false := F3x.out.frozen 1
  have px2 : (w3).cell? ⟨w.heap.size, 2, none⟩ = some (.int .i64 ea) := F3x.out.cell 2
  have fx2 : (w3).frozen? ⟨w.heap.size, 2, none⟩ = false := F3x.out.frozen 2
  have px3 : (w3).cell? ⟨w.heap.size, 3, none⟩ = some (.bool na') := F3x.out.cell 3
  have fx3 : (w3).frozen? ⟨w.heap.size, 3, none⟩ = false := F3x.out.frozen 3
  have px4 : (w3).cell? ⟨w.heap.size, 4, none⟩ = some (.slice A' n' c') := F3x.out.cell 4
  have fx4 : (w3).frozen? ⟨w.heap.size, 4, none⟩ = false := F3x.out.frozen 4
  have px5 : (w3).cell? ⟨w.heap.size, 5, none⟩ = some (.int .i64 ea') := F3x.out.cell 5
  have fx5 : (w3).frozen? ⟨w.heap.size, 5, none⟩ = false := F3x.out.frozen 5
  have px6 : (w3).cell? ⟨w.heap.size, 6, none⟩ = some (.bool true) := F3x.out.cell 6
  have fx6 : (w3).frozen? ⟨w.heap.size, 6, none⟩ = false := F3x.out.frozen 6
  go_wp2_with fail
  refine (digits_all na A n c ea na' A' n' c' ea' w3).mono ?_
  rintro e w4 ⟨rfl, HB4⟩
  have F4a := Lib.hid (F3a.out.belowW HB4.out)
  have F4b := Lib.hid (F3b.out.belowW HB4.out)
  have F4t := Lib.hid (F3t.out.belowW HB4.out)
  have F4m := Lib.hid (F3m.out.belowW HB4.out)
  have F4x := Lib.hid (F3x.out.belowW HB4.out)
  have HL4 := Lib.hid (HL3.out.trans (HB4.out.mono HL3.out.size))
  clear px0 fx0 px1 fx1 px2 fx2 px3 fx3 px4 fx4 px5 fx5 px6 fx6
  have px0 : (w4).cell? ⟨w.heap.size, 0, none⟩ = some (.bool na) := F4x.out.cell 0
  have fx0 : (w4).frozen? ⟨w.heap.size, 0, none⟩ = false := F4x.out.frozen 0
  have px1 : (w4).cell? ⟨w.heap.size, 1, none⟩ = some (.slice A n c) := F4x.out.cell 1
  have fx1 : (w4).frozen? ⟨w.heap.size, 1, none⟩ = false := F4x.out.frozen 1
  have px2 : (w4).cell? ⟨w.heap.size, 2, none⟩ = some (.int .i64 ea) := F4x.out.cell 2
  have fx2 : (w4).frozen? ⟨w.heap.size, 2, none⟩ = false := F4x.out.frozen 2
  have px3 : (w4).cell? ⟨w.heap.size, 3, none⟩ = some (.bool na') := F4x.out.cell 3
  have fx3 : (w4).frozen? ⟨w.heap.size, 3, none⟩ = false := F4x.out.frozen 3
  have px4 : (w4).cell? ⟨w.heap.size, 4, none⟩ = some (.slice A' n' c') := F4x.out.cell 4
  have fx4 : (w4).frozen? ⟨w.heap.size, 4, none⟩ = false := F4x.out.frozen 4
  have px5 : (w4).cell? ⟨w.heap.size, 5, none⟩ = some (.int .i64 ea') := F4x.out.cell 5
  have fx5 : (w4).frozen? ⟨w.heap.size, 5, none⟩ = false := F4x.out.frozen 5
  have px6 : (w4).cell? ⟨w.heap.size, 6, none⟩ = some (.bool true) := F4x.out.cell 6
  have fx6 : (w4).frozen? ⟨w.heap.size, 6, none⟩ = false := F4x.out.frozen 6
  go_wp2_with fail
  refine (ivalid_any na A n c ea l na' A' n' c' ea' l' true w4 F4a.out F4b.out).mono ?_
  rw [HV.out]
  rintro e w5 ⟨rfl, HB5⟩
  have F5a := Lib.hid (F4a.out.belowW HB5.out)
  have F5b := Lib.hid (F4b.out.belowW HB5.out)
  have F5t := Lib.hid (F4t.out.belowW HB5.out)
  have F5m := Lib.hid (F4m.out.belowW HB5.out)
  have F5x := Lib.hid (F4x.out.belowW HB5.out)
  have HL5 := Lib.hid (HL4.out.trans (HB5.out.mono HL4.out.size))
  clear px0 fx0 px1 fx1 px2 fx2 px3 fx3 px4 fx4 px5 fx5 px6 fx6
  have px0 : (w5).cell? ⟨w.heap.size, 0, none⟩ = some (.bool na) := F5x.out.cell 0
  have fx0 : (w5).frozen? ⟨w.heap.size, 0, none⟩ = false := F5x.out.frozen 0
  have px1 : (w5).cell? ⟨w.heap.size, 1, none⟩ = some (.slice A n c) := F5x.out.cell 1
  have fx1 : (w5).frozen? ⟨w.heap.size, 1, none⟩ = false := F5x.out.frozen 1
  have px2 : (w5).cell? ⟨w.heap.size, 2, none⟩ = some (.int .i64 ea) := F5x.out.cell 2
  have fx2 : (w5).frozen? ⟨w.heap.size, 2, none⟩ = false := F5x.out.frozen 2
  have px3 : (w5).cell? ⟨w.heap.size, 3, none⟩ = some (.bool na') := F5x.out.cell 3
  have fx3 : (w5).frozen? ⟨w.heap.size, 3, none⟩ = false := F5x.out.frozen 3
  have px4 : (w5).cell? ⟨w.heap.size, 4, none⟩ = some (.slice A' n' c') := F5x.out.cell 4
  have fx4 : (w5).frozen? ⟨w.heap.size, 4, none⟩ = false := F5x.out.frozen 4
  have px5 : (w5).cell? ⟨w.heap.size, 5, none⟩ = some (.int .i64 ea') := F5x.out.cell 5
  have fx5 : (w5).frozen? ⟨w.heap.size, 5, none⟩ = false := F5x.out.frozen 5
  have px6 : (w5).cell? ⟨w.heap.size, 6, none⟩ = some (.bool true) := F5x.out.cell 6
  have fx6 : (w5).frozen? ⟨w.heap.size, 6, none⟩ = false := F5x.out.frozen 6
  go_wp2_with fail
  go_ret
  exact ⟨rfl, HL5⟩

set_option maxHeartbeats 1000000 in
theorem comm_inv (na : Bool) (A : Option Addr) (n c : Nat) (ea : Int) (l : List Nat) (na' : Bool) (A' : Option Addr) (n' c' : Nat) (ea' : Int) (l' : List Nat) (w : World) (hT : RB w) (hM : MXL w) (h : Sl w A n c l) (h' : Sl w A' n' c' l') (hg : (decide (40 < n) || decide (40 < n')) = false) (hv : vldIB na l ea na' l' ea' false = false) : Calls Tryz.prog 7 #[.agg #[.bool na, .slice A n c, .int .i64 ea, .bool na', .slice A' n' c', .int .i64 ea', .bool false]] w (Awk w) := by
  have H1 := Lib.hid h
  have H2 := Lib.hid h'
  have HT := Lib.hid hT
  have HM := Lib.hid hM
  have hn := h.max
  have hn' := h'.max
  have HG := Lib.hid hg
  have HV := Lib.hid hv
  clear h h' hT hM hg hv
  go_enter Tryz.func7, Tryz.ntmps7
  go_wp2_with fail
  obtain ⟨w1, hw⟩ : ∃ z9 : World, z9 = (w.alloc (.cells #[.bool na, .slice A n c, .int .i64 ea, .bool na', .slice A' n' c', .int .i64 ea', .bool false] 27)) := ⟨_, rfl⟩
  have HB1 := Lib.hid (show Below w.heap.size w w1 by rw [hw]; exact below_a1 _ _)
  have F1a := Lib.hid (H1.out.belowW HB1.out)
  have F1b := Lib.hid (H2.out.belowW HB1.out)
  have F1t := Lib.hid (HT.out.belowW HB1.out)
  have F1m := Lib.hid (HM.out.belowW HB1.out)
  have F1x := Lib.hid (show Blk w1 (w.heap.size) 27 #[.bool na, .slice A n c, .int .i64 ea, .bool na', .slice A' n' c', .int .i64 ea', .bool false] by rw [hw]; exact Blk.new _ _ _)
  rw [← hw]
  clear hw
  refine (dAwake_any w1 F1t.out F1m.out).mono ?_
  rintro e w2 ⟨rfl, HB2⟩
  have F2a := Lib.hid (F1a.out.belowW HB2.out)
  have F2b := Lib.hid (F1b.out.belowW HB2.out)
  have F2t := Lib.hid (F1t.out.belowW HB2.out)
  have F2m := Lib.hid (F1m.out.belowW HB2.out)
  have F2x := Lib.hid (F1x.out.belowW HB2.out)
  have HL2 := Lib.hid (HB1.out.trans (HB2.out.mono HB1.out.size))
  have px0 : (w2).cell? ⟨w.heap.size, 0, none⟩ = some (.bool na) := F2x.out.cell 0
  have fx0 : (w2).frozen? ⟨w.heap.size, 0, none⟩ = false := F2x.out.frozen 0
  have px1 : (w2).cell? ⟨w.heap.size, 1, none⟩ = some (.slice A n c) := F2x.out.cell 1
  have fx1 : (w2).frozen? ⟨w.heap.size, 1, none⟩ = false := F2x.out.frozen 1
  have px2 : (w2).cell? ⟨w.heap.size, 2, none⟩ = some (.int .i64 ea) := F2x.out.cell 2
  have fx2 : (w2).frozen? ⟨w.heap.size, 2, none⟩ = false := F2x.out.frozen 2
  have px3 : (w2).cell? ⟨w.heap.size, 3, none⟩ = some (.bool na') := F2x.out.cell 3
  have fx3 : (w2).frozen? ⟨w.heap.size, 3, none⟩ = false := F2x.out.frozen 3
  have px4 : (w2).cell? ⟨w.heap.size, 4, none⟩ = some (.slice A' n' c') := F2x.out.cell 4
  have fx4 : (w2).frozen? ⟨w.heap.size, 4, none⟩ = false := F2x.out.frozen 4
  have px5 : (w2).cell? ⟨w.heap.size, 5, none⟩ = some (.int .i64 ea') := F2x.out.cell 5
  have fx5 : (w2).frozen? ⟨w.heap.size, 5, none⟩ = false := F2x.out.frozen 5
  have px6 : (w2).cell? ⟨w.heap.size, 6, none⟩ = some (.bool false) := F2x.out.cell 6
  have fx6 : (w2).frozen? ⟨w.heap.size, 6, none⟩ = false := F2x.out.frozen 6
  go_wp2_with fail
  refine (great_any na na' false A A' n c n' c' ea ea' w2 hn hn').mono ?_
  rw [HG.out]
  rintro e w3 ⟨rfl, HB3⟩
  have F3a := Lib.hid (F2a.out.belowW HB3.out)
  have F3b := Lib.hid (F2b.out.belowW HB3.out)
  have F3t := Lib.hid (F2t.out.belowW HB3.out)
  have F3m := Lib.hid (F2m.out.belowW HB3.out)
  have F3x := Lib.hid (F2x.out.belowW HB3.out)
  have HL3 := Lib.hid (HL2.out.trans (HB3.out.mono HL2.out.size))
  clear px0 fx0 px1 fx1 px2 fx2 px3 fx3 px4 fx4 px5 fx5 px6 fx6
  have px0 : (w3).cell? ⟨w.heap.size, 0, none⟩ = some (.bool na) := F3x.out.cell 0
  have fx0 : (w3).frozen? ⟨w.heap.size, 0, none⟩ = false := F3x.out.frozen 0
  have px1 : (w3).cell? ⟨w.heap.size, 1, none⟩ = some (.slice A n c) := F3x.out.cell 1
  have fx1 : (w3).frozen? ⟨w.heap.size, 1, none⟩ = false := F3x.out.frozen 1
  have px2 : (w3).cell? ⟨w.heap.size, 2, none⟩ = some (.int .i64 ea) := F3x.out.cell 2
  have fx2 : (w3).frozen? ⟨w.heap.size, 2, none⟩ = false := F3x.out.frozen 2
  have px3 : (w3).cell? ⟨w.heap.size, 3, none⟩ = some (.bool na') := F3x.out.cell 3
  have fx3 : (w3).frozen? ⟨w.heap.size, 3, none⟩ = false := F3x.out.frozen 3
  have px4 : (w3).cell? ⟨w.heap.size, 4, none⟩ = some (.slice A' n' c') := F3x.out.cell 4
  have fx4 : (w3).frozen? ⟨w.heap.size, 4, none⟩ = false := F3x.out.frozen 4
  have px5 : (w3).cell? ⟨w.heap.size, 5, none⟩ = some (.int .i64 ea') := F3x.out.cell 5
  have fx5 : (w3).frozen? ⟨w.heap.size, 5, none⟩ = false := F3x.out.frozen 5
  have px6 : (w3).cell? ⟨w.heap.size, 6, none⟩ = some (.bool false) := F3x.out.cell 6
  have fx6 : (w3).frozen? ⟨w.heap.size, 6, none⟩ = false := F3x.out.frozen 6
  go_wp2_with fail
  refine (digits_inv na A n c ea l na' A' n' c' ea' l' w3 F3a.out F3b.out HV.out).mono ?_
  rintro e w4 ⟨rfl, HB4⟩
  have F4a := Lib.hid (F3a.out.belowW HB4.out)
  have F4b := Lib.hid (F3b.out.belowW HB4.out)
  have F4t := Lib.hid (F3t.out.belowW HB4.out)
  have F4m := Lib.hid (F3m.out.belowW HB4.out)
  have F4x := Lib.hid (F3x.out.belowW HB4.out)
  have HL4 := Lib.hid (HL3.out.trans (HB4.out.mono HL3.out.size))
  clear px0 fx0 px1 fx1 px2 fx2 px3 fx3 px4 fx4 px5 fx5 px6 fx6
  have px0 : (w4).cell? ⟨w.heap.size, 0, none⟩ = some (.bool na) := F4x.out.cell 0
  have fx0 : (w4).frozen? ⟨w.heap.size, 0, none⟩ = false := F4x.out.frozen 0
  have px1 : (w4).cell? ⟨w.heap.size, 1, none⟩ = some (.slice A n c) := F4x.out.cell 1
  have fx1 : (w4).frozen? ⟨w.heap.size, 1, none⟩ = false := F4x.out.frozen 1
  have px2 : (w4).cell? ⟨w.heap.size, 2, none⟩ = some (.int .i64 ea) := F4x.out.cell 2
  have fx2 : (w4).frozen? ⟨w.heap.size, 2, none⟩ = false := F4x.out.frozen 2
  have px3 : (w4).cell? ⟨w.heap.size, 3, none⟩ = some (.bool na') := F4x.out.cell 3
  have fx3 : (w4).frozen? ⟨w.heap.size, 3, none⟩ = false := F4x.out.frozen 3
  have px4 : (w4).cell? ⟨w.heap.size, 4, none⟩ = some (.slice A' n' c') := F4x.out.cell 4
  have fx4 : (w4).frozen? ⟨w.heap.size, 4, none⟩ = false := F4x.out.frozen 4
  have px5 : (w4).cell? ⟨w.heap.size, 5, none⟩ = some (.int .i64 ea') := F4x.out.cell 5
  have fx5 : (w4).frozen? ⟨w.heap.size, 5, none⟩ = false := F4x.out.frozen 5
  have px6 : (w4).cell? ⟨w.heap.size, 6, none⟩ = some (.bool false) := F4x.out.cell 6
  have fx6 : (w4).frozen? ⟨w.heap.size, 6, none⟩ = false := F4x.out.frozen 6
  go_wp2_with fail
  refine (ivalid_any na A n c ea l na' A' n' c' ea' l' false w4 F4a.out F4b.out).mono ?_
  rw [HV.out]
  rintro e w5 ⟨rfl, HB5⟩
  have F5a := Lib.hid (F4a.out.belowW HB5.out)
  have F5b := Lib.hid (F4b.out.belowW HB5.out)
  have F5t := Lib.hid (F4t.out.belowW HB5.out)
  have F5m := Lib.hid (F4m.out.belowW HB5.out)
  have F5x := Lib.hid (F4x.out.belowW HB5.out)
  have HL5 := Lib.hid (HL4.out.trans (HB5.out.mono HL4.out.size))
  clear px0 fx0 px1 fx1 px2 fx2 px3 fx3 px4 fx4 px5 fx5 px6 fx6
  have px0 : (w5).cell? ⟨w.heap.size, 0, none⟩ = some (.bool na) := F5x.out.cell 0
  have fx0 : (w5).frozen? ⟨w.heap.size, 0, none⟩ = false := F5x.out.frozen 0
  have px1 : (w5).cell? ⟨w.heap.size, 1, none⟩ = some (.slice A n c) := F5x.out.cell 1
  have fx1 : (w5).frozen? ⟨w.heap.size, 1, none⟩ = false := F5x.out.frozen 1
  have px2 : (w5).cell? ⟨w.heap.size, 2, none⟩ = some (.int .i64 ea) := F5x.out.cell 2
  have fx2 : (w5).frozen? ⟨w.heap.size, 2, none⟩ = false := F5x.out.frozen 2
  have px3 : (w5).cell? ⟨w.heap.size, 3, none⟩ = some (.bool na') := F5x.out.cell 3
  have fx3 : (w5).frozen? ⟨w.heap.size, 3, none⟩ = false := F5x.out.frozen 3
  have px4 : (w5).cell? ⟨w.heap.size, 4, none⟩ = some (.slice A' n' c') := F5x.out.cell 4
  have fx4 : (w5).frozen? ⟨w.heap.size, 4, none⟩ = false := F5x.out.frozen 4
  have px5 : (w5).cell? ⟨w.heap.size, 5, none⟩ = some (.int .i64 ea') := F5x.out.cell 5
  have fx5 : (w5).frozen? ⟨w.heap.size, 5, none⟩ = false := F5x.out.frozen 5
  have px6 : (w5).cell? ⟨w.heap.size, 6, none⟩ = some (.bool false) := F5x.out.cell 6
  have fx6 : (w5).frozen? ⟨w.heap.size, 6, none⟩ = false := F5x.out.frozen 6
  go_wp2_with fail
  go_ret
  exact ⟨rfl, HL5⟩
def CmRel (m : Nat) (W : World) (k : Nat) (iv : Value) (wr : World) : Prop :=
  ∃ j : Nat, iv = .int .i64 (j : Int) ∧ m - j = k ∧ j ≤ m ∧ Hid (Below W.heap.size W wr)
set_option maxHeartbeats 16000000 in
set_option maxRecDepth 100000 in
theorem comm_main (x y : D) (A : Option Addr) (n c : Nat) (A' : Option Addr) (n' c' : Nat) (w : World) (hT : RB w) (hM : MXL w) (h : Sl w A n c (limbs x.k)) (h' : Sl w A' n' c' (limbs y.k)) (hg : (decide (40 < n) || decide (40 < n')) = false) (vx : vld x) (vy : vld y) (hc : cmpD x y ≤ 0) : Calls Tryz.prog 7 #[.agg #[.bool x.neg, .slice A n c, .int .i64 x.e, .bool y.neg, .slice A' n' c', .int .i64 y.e, .bool false]] w (Awk w) := by
  have H1 := Lib.hid h
  have H2 := Lib.hid h'
  have HT := Lib.hid hT
  have HM := Lib.hid hM
  have hn := h.max
  have hn' := h'.max
  have HG := Lib.hid hg
  have VX := Lib.hid vx
  have VY := Lib.hid vy
  have HC := Lib.hid hc
  have HVI := Lib.hid (vldIB_of vx vy hc)
  obtain ⟨m, hm⟩ : ∃ m, digM x y = m := ⟨_, rfl⟩
  have HMM := Lib.hid hm
  have HDR := Lib.hid (show digR x y = (m : Int) - 1 by rw [digR_eq, hm])
  have hm51 : m ≤ 51 := by rw [← hm]; exact digM_le x y
  have e1 : decide ((m : Int) - 1 < -1) = false := decide_eq_false (by omega)
  have e2 : decide ((50 : Int) < (m : Int) - 1) = false := decide_eq_false (by omega)
  have e3 : (m : Int) - 1 + 1 = (m : Int) := by omega
  have e4 : IntKind.i64.wrap ((m : Int) - 1 + 1) = (m : Int) := by rw [e3]; exact IntWalk.i64_in _ (by omega)
  have e5 : IntKind.i64.wrap (m : Int) = (m : Int) := IntWalk.i64_in _ (by omega)
  have z50 : (0 : Nat) ≤ 50 := by omega
  clear h h' hT hM hg vx vy hc hm
  go_enter Tryz.func7, Tryz.ntmps7
  go_wp2_with fail
  obtain ⟨w1, hw⟩ : ∃ z9 : World, z9 = (w.alloc (.cells #[.bool x.neg, .slice A n c, .int .i64 x.e, .bool y.neg, .slice A' n' c', .int .i64 y.e, .bool false] 27)) := ⟨_, rfl⟩
  have HB1 := Lib.hid (show Below w.heap.size w w1 by rw [hw]; exact below_a1 _ _)
  have F1a := Lib.hid (H1.out.belowW HB1.out)
  have F1b := Lib.hid (H2.out.belowW HB1.out)
  have F1t := Lib.hid (HT.out.belowW HB1.out)
  have F1m := Lib.hid (HM.out.belowW HB1.out)
  have F1x := Lib.hid (show Blk w1 (w.heap.size) 27 #[.bool x.neg, .slice A n c, .int .i64 x.e, .bool y.neg, .slice A' n' c', .int .i64 y.e, .bool false] by rw [hw]; exact Blk.new _ _ _)
  rw [← hw]
  clear hw
  refine (dAwake_any w1 F1t.out F1m.out).mono ?_
  rintro e w2 ⟨rfl, HB2⟩
  have F2a := Lib.hid (F1a.out.belowW HB2.out)
  have F2b := Lib.hid (F1b.out.belowW HB2.out)
  have F2t := Lib.hid (F1t.out.belowW HB2.out)
  have F2m := Lib.hid (F1m.out.belowW HB2.out)
  have F2x := Lib.hid (F1x.out.belowW HB2.out)
  have HL2 := Lib.hid (HB1.out.trans (HB2.out.mono HB1.out.size))
  have px0 : (w2).cell? ⟨w.heap.size, 0, none⟩ = some (.bool x.neg) := F2x.out.cell 0
  have fx0 : (w2).frozen? ⟨w.heap.size, 0, none⟩ = false := F2x.out.frozen 0
  have px1 : (w2).cell? ⟨w.heap.size, 1, none⟩ = some (.slice A n c) := F2x.out.cell 1
  have fx1 : (w2).frozen? ⟨w.heap.size, 1, none⟩ = false := F2x.out.frozen 1
  have px2 : (w2).cell? ⟨w.heap.size, 2, none⟩ = some (.int .i64 x.e) := F2x.out.cell 2
  have fx2 : (w2).frozen? ⟨w.heap.size, 2, none⟩ = false := F2x.out.frozen 2
  have px3 : (w2).cell? ⟨w.heap.size, 3, none⟩ = some (.bool y.neg) := F2x.out.cell 3
  have fx3 : (w2).frozen? ⟨w.heap.size, 3, none⟩ = false := F2x.out.frozen 3
  have px4 : (w2).cell? ⟨w.heap.size, 4, none⟩ = some (.slice A' n' c') := F2x.out.cell 4
  have fx4 : (w2).frozen? ⟨w.heap.size, 4, none⟩ = false := F2x.out.frozen 4
  have px5 : (w2).cell? ⟨w.heap.size, 5, none⟩ = some (.int .i64 y.e) := F2x.out.cell 5
  have fx5 : (w2).frozen? ⟨w.heap.size, 5, none⟩ = false := F2x.out.frozen 5
  have px6 : (w2).cell? ⟨w.heap.size, 6, none⟩ = some (.bool false) := F2x.out.cell 6
  have fx6 : (w2).frozen? ⟨w.heap.size, 6, none⟩ = false := F2x.out.frozen 6
  go_wp2_with fail
  refine (great_any x.neg y.neg false A A' n c n' c' x.e y.e w2 hn hn').mono ?_
  rw [HG.out]
  rintro e w3 ⟨rfl, HB3⟩
  have F3a := Lib.hid (F2a.out.belowW HB3.out)
  have F3b := Lib.hid (F2b.out.belowW HB3.out)
  have F3t := Lib.hid (F2t.out.belowW HB3.out)
  have F3m := Lib.hid (F2m.out.belowW HB3.out)
  have F3x := Lib.hid (F2x.out.belowW HB3.out)
  have HL3 := Lib.hid (HL2.out.trans (HB3.out.mono HL2.out.size))
  clear px0 fx0 px1 fx1 px2 fx2 px3 fx3 px4 fx4 px5 fx5 px6 fx6
  have px0 : (w3).cell? ⟨w.heap.size, 0, none⟩ = some (.bool x.neg) := F3x.out.cell 0
  have fx0 : (w3).frozen? ⟨w.heap.size, 0, none⟩ = false := F3x.out.frozen 0
  have px1 : (w3).cell? ⟨w.heap.size, 1, none⟩ = some (.slice A n c) := F3x.out.cell 1
  have fx1 : (w3).frozen? ⟨w.heap.size, 1, none⟩ = false := F3x.out.frozen 1
  have px2 : (w3).cell? ⟨w.heap.size, 2, none⟩ = some (.int .i64 x.e) := F3x.out.cell 2
  have fx2 : (w3).frozen? ⟨w.heap.size, 2, none⟩ = false := F3x.out.frozen 2
  have px3 : (w3).cell? ⟨w.heap.size, 3, none⟩ = some (.bool y.neg) := F3x.out.cell 3
  have fx3 : (w3).frozen? ⟨w.heap.size, 3, none⟩ = false := F3x.out.frozen 3
  have px4 : (w3).cell? ⟨w.heap.size, 4, none⟩ = some (.slice A' n' c') := F3x.out.cell 4
  have fx4 : (w3).frozen? ⟨w.heap.size, 4, none⟩ = false := F3x.out.frozen 4
  have px5 : (w3).cell? ⟨w.heap.size, 5, none⟩ = some (.int .i64 y.e) := F3x.out.cell 5
  have fx5 : (w3).frozen? ⟨w.heap.size, 5, none⟩ = false := F3x.out.frozen 5
  have px6 : (w3).cell? ⟨w.heap.size, 6, none⟩ = some (.bool false) := F3x.out.cell 6
  have fx6 : (w3).frozen? ⟨w.heap.size, 6, none⟩ = false := F3x.out.frozen 6
  go_wp2_with fail
  refine (digits_yes x y A n c A' n' c' w3 F3a.out F3b.out VX.out VY.out HC.out F3t.out).mono ?_
  rw [HDR.out]
  rintro e w4 ⟨rfl, HB4⟩
  have F4a := Lib.hid (F3a.out.belowW HB4.out)
  have F4b := Lib.hid (F3b.out.belowW HB4.out)
  have F4t := Lib.hid (F3t.out.belowW HB4.out)
  have F4m := Lib.hid (F3m.out.belowW HB4.out)
  have F4x := Lib.hid (F3x.out.belowW HB4.out)
  have HL4 := Lib.hid (HL3.out.trans (HB4.out.mono HL3.out.size))
  clear px0 fx0 px1 fx1 px2 fx2 px3 fx3 px4 fx4 px5 fx5 px6 fx6
  have px0 : (w4).cell? ⟨w.heap.size, 0, none⟩ = some (.bool x.neg) := F4x.out.cell 0
  have fx0 : (w4).frozen? ⟨w.heap.size, 0, none⟩ = false := F4x.out.frozen 0
  have px1 : (w4).cell? ⟨w.heap.size, 1, none⟩ = some (.slice A n c) := F4x.out.cell 1
  have fx1 : (w4).frozen? ⟨w.heap.size, 1, none⟩ = false := F4x.out.frozen 1
  have px2 : (w4).cell? ⟨w.heap.size, 2, none⟩ = some (.int .i64 x.e) := F4x.out.cell 2
  have fx2 : (w4).frozen? ⟨w.heap.size, 2, none⟩ = false := F4x.out.frozen 2
  have px3 : (w4).cell? ⟨w.heap.size, 3, none⟩ = some (.bool y.neg) := F4x.out.cell 3
  have fx3 : (w4).frozen? ⟨w.heap.size, 3, none⟩ = false := F4x.out.frozen 3
  have px4 : (w4).cell? ⟨w.heap.size, 4, none⟩ = some (.slice A' n' c') := F4x.out.cell 4
  have fx4 : (w4).frozen? ⟨w.heap.size, 4, none⟩ = false := F4x.out.frozen 4
  have px5 : (w4).cell? ⟨w.heap.size, 5, none⟩ = some (.int .i64 y.e) := F4x.out.cell 5
  have fx5 : (w4).frozen? ⟨w.heap.size, 5, none⟩ = false := F4x.out.frozen 5
  have px6 : (w4).cell? ⟨w.heap.size, 6, none⟩ = some (.bool false) := F4x.out.cell 6
  have fx6 : (w4).frozen? ⟨w.heap.size, 6, none⟩ = false := F4x.out.frozen 6
  go_wp2_with fail
  refine (ivalid_any x.neg A n c x.e (limbs x.k) y.neg A' n' c' y.e (limbs y.k) false w4 F4a.out F4b.out).mono ?_
  rw [HVI.out]
  rintro e w5 ⟨rfl, HB5⟩
  have F5a := Lib.hid (F4a.out.belowW HB5.out)
  have F5b := Lib.hid (F4b.out.belowW HB5.out)
  have F5t := Lib.hid (F4t.out.belowW HB5.out)
  have F5m := Lib.hid (F4m.out.belowW HB5.out)
  have F5x := Lib.hid (F4x.out.belowW HB5.out)
  have HL5 := Lib.hid (HL4.out.trans (HB5.out.mono HL4.out.size))
  clear px0 fx0 px1 fx1 px2 fx2 px3 fx3 px4 fx4 px5 fx5 px6 fx6
  have px0 : (w5).cell? ⟨w.heap.size, 0, none⟩ = some (.bool x.neg) := F5x.out.cell 0
  have fx0 : (w5).frozen? ⟨w.heap.size, 0, none⟩ = false := F5x.out.frozen 0
  have px1 : (w5).cell? ⟨w.heap.size, 1, none⟩ = some (.slice A n c) := F5x.out.cell 1
  have fx1 : (w5).frozen? ⟨w.heap.size, 1, none⟩ = false := F5x.out.frozen 1
  have px2 : (w5).cell? ⟨w.heap.size, 2, none⟩ = some (.int .i64 x.e) := F5x.out.cell 2
  have fx2 : (w5).frozen? ⟨w.heap.size, 2, none⟩ = false := F5x.out.frozen 2
  have px3 : (w5).cell? ⟨w.heap.size, 3, none⟩ = some (.bool y.neg) := F5x.out.cell 3
  have fx3 : (w5).frozen? ⟨w.heap.size, 3, none⟩ = false := F5x.out.frozen 3
  have px4 : (w5).cell? ⟨w.heap.size, 4, none⟩ = some (.slice A' n' c') := F5x.out.cell 4
  have fx4 : (w5).frozen? ⟨w.heap.size, 4, none⟩ = false := F5x.out.frozen 4
  have px5 : (w5).cell? ⟨w.heap.size, 5, none⟩ = some (.int .i64 y.e) := F5x.out.cell 5
  have fx5 : (w5).frozen? ⟨w.heap.size, 5, none⟩ = false := F5x.out.frozen 5
  have px6 : (w5).cell? ⟨w.heap.size, 6, none⟩ = some (.bool false) := F5x.out.cell 6
  have fx6 : (w5).frozen? ⟨w.heap.size, 6, none⟩ = false := F5x.out.frozen 6
  go_wp2_with fail
  go_loopg [29] m (CmRel m w5)
  case atStart => exact ⟨0, rfl, rfl, Nat.zero_le _, Lib.hid (Below.refl _ _)⟩
  case round =>
    obtain ⟨j, rfl, hk, hj, HW⟩ := hrel
    have Ga := Lib.hid (F5a.out.belowW HW.out)
    have Gb := Lib.hid (F5b.out.belowW HW.out)
    have Gt := Lib.hid (F5t.out.belowW HW.out)
    have Gm := Lib.hid (F5m.out.belowW HW.out)
    have Gx := Lib.hid (F5x.out.belowW HW.out)
    have GL := Lib.hid (HL5.out.trans (HW.out.mono HL5.out.size))
    clear px0 fx0 px1 fx1 px2 fx2 px3 fx3 px4 fx4 px5 fx5 px6 fx6
    by_cases hjm : j < m
    case pos =>
      have d1 : decide ((j : Int) < (m : Int)) = true := decide_eq_true (by omega)
      have d1' : decide (j < m) = true := decide_eq_true hjm
      have hj50 : j ≤ 50 := by omega
      have hj1 : IntKind.i64.wrap ((j : Int) + 1) = ((j + 1 : Nat) : Int) := by rw [show (j : Int) + 1 = ((j + 1 : Nat) : Int) by omega]; exact IntWalk.i64_in _ (by omega)
      obtain ⟨D1, hD1⟩ : ∃ D1, dnS x j = D1 := ⟨_, rfl⟩
      have HD1 := Lib.hid hD1
      have HD2 := Lib.hid (show dnS y j = D1 by rw [← hD1]; exact (dn_same (by rw [HMM.out]; exact hjm)).symm)
      clear hD1
      go_wp2_with fail
      have HR6 := Lib.hid (below_dr wr)
      have R6a := Lib.hid (Ga.out.belowW HR6.out)
      have R6b := Lib.hid (Gb.out.belowW HR6.out)
      have R6t := Lib.hid (Gt.out.belowW HR6.out)
      have R6m := Lib.hid (Gm.out.belowW HR6.out)
      have R6x := Lib.hid (Gx.out.belowW HR6.out)
      have c6x0 : wr.drew.cell? ⟨w.heap.size, 0, none⟩ = some (.bool x.neg) := R6x.out.cell 0
      have c6x1 : wr.drew.cell? ⟨w.heap.size, 1, none⟩ = some (.slice A n c) := R6x.out.cell 1
      have c6x2 : wr.drew.cell? ⟨w.heap.size, 2, none⟩ = some (.int .i64 x.e) := R6x.out.cell 2
      have c6x3 : wr.drew.cell? ⟨w.heap.size, 3, none⟩ = some (.bool y.neg) := R6x.out.cell 3
      have c6x4 : wr.drew.cell? ⟨w.heap.size, 4, none⟩ = some (.slice A' n' c') := R6x.out.cell 4
      have c6x5 : wr.drew.cell? ⟨w.heap.size, 5, none⟩ = some (.int .i64 y.e) := R6x.out.cell 5
      go_region_held3 (fun w' => w'.cell? ⟨w.heap.size, 0, none⟩ = some (.bool x.neg) ∧ w'.cell? ⟨w.heap.size, 1, none⟩ = some (.slice A n c) ∧ w'.cell? ⟨w.heap.size, 2, none⟩ = some (.int .i64 x.e) ∧ w'.cell? ⟨w.heap.size, 3, none⟩ = some (.bool y.neg) ∧ w'.cell? ⟨w.heap.size, 4, none⟩ = some (.slice A' n' c') ∧ w'.cell? ⟨w.heap.size, 5, none⟩ = some (.int .i64 y.e)) ((with_reducible refine ⟨?_, ?_, ?_, ?_, ?_, ?_⟩) <;> (with_reducible assumption)) (first
        | (go_at_call_of 23 (Value.agg #[.bool x.neg, .slice A n c, .int .i64 x.e])
           (with_reducible refine (down_any x A n c j _ R6a.out VX.out hj50 R6t.out).mono ?_)
           rw [HD1.out]
           rintro e w7 ⟨rfl, HC7⟩
           have R7a := Lib.hid (R6a.out.belowW HC7.out)
           have R7b := Lib.hid (R6b.out.belowW HC7.out)
           have R7t := Lib.hid (R6t.out.belowW HC7.out)
           have R7m := Lib.hid (R6m.out.belowW HC7.out)
           have R7x := Lib.hid (R6x.out.belowW HC7.out)
           have HR7 := Lib.hid (HR6.out.trans (HC7.out.mono HR6.out.size))
           have c7x0 : w7.cell? ⟨w.heap.size, 0, none⟩ = some (.bool x.neg) := R7x.out.cell 0
           have c7x1 : w7.cell? ⟨w.heap.size, 1, none⟩ = some (.slice A n c) := R7x.out.cell 1
           have c7x2 : w7.cell? ⟨w.heap.size, 2, none⟩ = some (.int .i64 x.e) := R7x.out.cell 2
           have c7x3 : w7.cell? ⟨w.heap.size, 3, none⟩ = some (.bool y.neg) := R7x.out.cell 3
           have c7x4 : w7.cell? ⟨w.heap.size, 4, none⟩ = some (.slice A' n' c') := R7x.out.cell 4
           have c7x5 : w7.cell? ⟨w.heap.size, 5, none⟩ = some (.int .i64 y.e) := R7x.out.cell 5)
        | (go_at_call_of 23 (Value.agg #[.bool y.neg, .slice A' n' c', .int .i64 y.e])
           (with_reducible refine (down_any y A' n' c' j _ R7b.out VY.out hj50 R7t.out).mono ?_)
           rw [HD2.out]
           rintro e w8 ⟨rfl, HC8⟩
           have R8a := Lib.hid (R7a.out.belowW HC8.out)
           have R8b := Lib.hid (R7b.out.belowW HC8.out)
           have R8t := Lib.hid (R7t.out.belowW HC8.out)
           have R8m := Lib.hid (R7m.out.belowW HC8.out)
           have R8x := Lib.hid (R7x.out.belowW HC8.out)
           have HR8 := Lib.hid (HR7.out.trans (HC8.out.mono HR7.out.size))
           have c8x0 : w8.cell? ⟨w.heap.size, 0, none⟩ = some (.bool x.neg) := R8x.out.cell 0
           have c8x1 : w8.cell? ⟨w.heap.size, 1, none⟩ = some (.slice A n c) := R8x.out.cell 1
           have c8x2 : w8.cell? ⟨w.heap.size, 2, none⟩ = some (.int .i64 x.e) := R8x.out.cell 2
           have c8x3 : w8.cell? ⟨w.heap.size, 3, none⟩ = some (.bool y.neg) := R8x.out.cell 3
           have c8x4 : w8.cell? ⟨w.heap.size, 4, none⟩ = some (.slice A' n' c') := R8x.out.cell 4
           have c8x5 : w8.cell? ⟨w.heap.size, 5, none⟩ = some (.int .i64 y.e) := R8x.out.cell 5))
      have HL8 := Lib.hid (GL.out.trans (HR8.out.mono GL.out.size))
      have HWN := Lib.hid (show Below w5.heap.size w5 w8 from HW.out.trans (HR8.out.mono HW.out.size))
      go_wp2_with fail
      go_roundg (m - (j + 1))
      case measure => omega
      case rel => exact ⟨j + 1, by go_num, rfl, by omega, HWN⟩
    case neg =>
      obtain rfl : j = m := by omega
      have d1 : decide ((j : Int) < (j : Int)) = false := decide_eq_false (by omega)
      have d1' : decide (j < j) = false := decide_eq_false (by omega)
      by_cases h51 : j = 51
      case pos =>
        have e6 : ((j : Int) - 1 == 50) = true := by rw [beq_iff_eq]; omega
        go_wp2_with fail
        go_quiet (fail)
        go_wp2_with fail
        go_ret
        exact ⟨rfl, Lib.hid (below_drewN GL.out _)⟩
      have e6 : ((j : Int) - 1 == 50) = false := by rw [beq_eq_false_iff_ne]; omega
      have hj50 : j ≤ 50 := by omega
      by_cases tx : topB x ≤ 1000
      case neg =>
        have HX0 := Lib.hid (dn_none (k := 0) tx).2
        go_wp2_with fail
        have HR6 := Lib.hid (below_dr wr)
        have R6a := Lib.hid (Ga.out.belowW HR6.out)
        have R6b := Lib.hid (Gb.out.belowW HR6.out)
        have R6t := Lib.hid (Gt.out.belowW HR6.out)
        have R6m := Lib.hid (Gm.out.belowW HR6.out)
        have R6x := Lib.hid (Gx.out.belowW HR6.out)
        refine wp_region_held_drew (S := fun w' => w'.cell? ⟨w.heap.size, 0, none⟩ = some (.bool x.neg) ∧ w'.cell? ⟨w.heap.size, 1, none⟩ = some (.slice A n c) ∧ w'.cell? ⟨w.heap.size, 2, none⟩ = some (.int .i64 x.e) ∧ w'.cell? ⟨w.heap.size, 3, none⟩ = some (.bool y.neg) ∧ w'.cell? ⟨w.heap.size, 4, none⟩ = some (.slice A' n' c') ∧ w'.cell? ⟨w.heap.size, 5, none⟩ = some (.int .i64 y.e)) (by kernel_rfl) ?_ (fun hHeld => ?_)
        case refine_1 => exact ⟨R6x.out.cell 0, R6x.out.cell 1, R6x.out.cell 2, R6x.out.cell 3, R6x.out.cell 4, R6x.out.cell 5⟩
        refine wpAnyH_take (i := 0) (oi := _) (v := ?_) rfl (by kernel_rfl) (by kernel_rfl) (by kernel_rfl) (fun _ _ _ h => h) (Or.inl ⟨by rfl, ?_⟩) (by assumption) ?_
        case refine_2 =>
          intro w9 hSw
          (try dsimp only at hSw)
          go_simp
          (try with_reducible rfl)
        try simp only [Act.put, List.setIfInBounds_toArray, List.set_cons_zero, List.set_cons_succ, List.getElem_toArray, List.getElem_cons_zero, List.getElem_cons_succ]
        refine wpAnyH_take (i := 1) (oi := _) (v := ?_) rfl (by kernel_rfl) (by kernel_rfl) (by kernel_rfl) (fun _ _ _ h => h) (Or.inl ⟨by rfl, ?_⟩) (by assumption) ?_
        case refine_2 =>
          intro w9 hSw
          (try dsimp only at hSw)
          go_simp
          (try with_reducible rfl)
        try simp only [Act.put, List.setIfInBounds_toArray, List.set_cons_zero, List.set_cons_succ, List.getElem_toArray, List.getElem_cons_zero, List.getElem_cons_succ]
        refine wpAnyH_take (i := 2) (oi := _) (v := ?_) rfl (by kernel_rfl) (by kernel_rfl) (by kernel_rfl) (fun _ _ _ h => h) (Or.inl ⟨by rfl, ?_⟩) (by assumption) ?_
        case refine_2 =>
          intro w9 hSw
          (try dsimp only at hSw)
          go_simp
          (try with_reducible rfl)
        try simp only [Act.put, List.setIfInBounds_toArray, List.set_cons_zero, List.set_cons_succ, List.getElem_toArray, List.getElem_cons_zero, List.getElem_cons_succ]
        refine wpAnyH_take (i := 3) (oi := _) (v := ?_) rfl (by kernel_rfl) (by kernel_rfl) (by kernel_rfl) (fun _ _ _ h => h) (Or.inl ⟨by rfl, ?_⟩) (by assumption) ?_
        case refine_2 =>
          intro w9 hSw
          (try dsimp only at hSw)
          go_simp
          (try with_reducible rfl)
        try simp only [Act.put, List.setIfInBounds_toArray, List.set_cons_zero, List.set_cons_succ, List.getElem_toArray, List.getElem_cons_zero, List.getElem_cons_succ]
        refine wpAnyH_take (i := 4) (oi := _) (v := ?_) rfl (by kernel_rfl) (by kernel_rfl) (by kernel_rfl) (fun _ _ _ h => h) (Or.inl ⟨by rfl, ?_⟩) (by assumption) ?_
        case refine_2 =>
          intro w9 hSw
          (try dsimp only at hSw)
          go_simp
          (try with_reducible rfl)
        try simp only [Act.put, List.setIfInBounds_toArray, List.set_cons_zero, List.set_cons_succ, List.getElem_toArray, List.getElem_cons_zero, List.getElem_cons_succ]
        refine wpAnyH_take (i := 5) (oi := _) (v := ?_) rfl (by kernel_rfl) (by kernel_rfl) (by kernel_rfl) (fun _ _ _ h => h) (Or.inl ⟨by rfl, ?_⟩) (by assumption) ?_
        case refine_2 =>
          intro w9 hSw
          (try dsimp only at hSw)
          go_simp
          (try with_reducible rfl)
        try simp only [Act.put, List.setIfInBounds_toArray, List.set_cons_zero, List.set_cons_succ, List.getElem_toArray, List.getElem_cons_zero, List.getElem_cons_succ]
        refine wpAnyH_ready (rs := [6]) (by kernel_rfl) (by simp) ?_
        refine AllReadyH.cons rfl (fun K hK => ?_) AllReadyH.nil
        go_simp
        refine (down_zero x A n c _ R6a.out VX.out R6t.out).mono ?_
        rw [HX0.out]
        rintro e w7 ⟨rfl, HC7⟩
        have R7a := Lib.hid (R6a.out.belowW HC7.out)
        have R7b := Lib.hid (R6b.out.belowW HC7.out)
        have R7t := Lib.hid (R6t.out.belowW HC7.out)
        have R7m := Lib.hid (R6m.out.belowW HC7.out)
        have R7x := Lib.hid (R6x.out.belowW HC7.out)
        have HR7 := Lib.hid (HR6.out.trans (HC7.out.mono HR6.out.size))
        go_wp2_with fail
        clear hHeld
        refine hK.out _ _ ?_ (fun hHeld => ?_)
        case refine_1 => exact ⟨R7x.out.cell 0, R7x.out.cell 1, R7x.out.cell 2, R7x.out.cell 3, R7x.out.cell 4, R7x.out.cell 5⟩
        clear hK K
        try simp only [List.setIfInBounds_toArray, List.set_cons_zero, List.set_cons_succ]
        refine wpAnyH_take (i := 7) (oi := _) (v := ?_) rfl (by kernel_rfl) (by kernel_rfl) (by kernel_rfl) (fun _ _ _ h => h) (Or.inl ⟨by rfl, ?_⟩) (by assumption) ?_
        case refine_2 =>
          intro w9 hSw
          (try dsimp only at hSw)
          go_simp
          (try with_reducible rfl)
        try simp only [Act.put, List.setIfInBounds_toArray, List.set_cons_zero, List.set_cons_succ, List.getElem_toArray, List.getElem_cons_zero, List.getElem_cons_succ]
        refine wpAnyH_take (i := 8) (oi := _) (v := ?_) rfl (by kernel_rfl) (by kernel_rfl) (by kernel_rfl) (fun _ _ _ h => h) (Or.inl ⟨by rfl, ?_⟩) (by assumption) ?_
        case refine_2 =>
          intro w9 hSw
          (try dsimp only at hSw)
          go_simp
          (try with_reducible rfl)
        try simp only [Act.put, List.setIfInBounds_toArray, List.set_cons_zero, List.set_cons_succ, List.getElem_toArray, List.getElem_cons_zero, List.getElem_cons_succ]
        refine wpAnyH_take (i := 9) (oi := _) (v := ?_) rfl (by kernel_rfl) (by kernel_rfl) (by kernel_rfl) (fun _ _ _ h => h) (Or.inl ⟨by rfl, ?_⟩) (by assumption) ?_
        case refine_2 =>
          intro w9 hSw
          (try dsimp only at hSw)
          go_simp
          (try with_reducible rfl)
        try simp only [Act.put, List.setIfInBounds_toArray, List.set_cons_zero, List.set_cons_succ, List.getElem_toArray, List.getElem_cons_zero, List.getElem_cons_succ]
        refine wpAnyH_take (i := 10) (oi := _) (v := _) rfl (by kernel_rfl) (by kernel_rfl) (by kernel_rfl) (fun _ _ _ h => h) (Or.inr ⟨by rfl, rfl⟩) (by assumption) ?_
        try simp only [Act.put, List.setIfInBounds_toArray, List.set_cons_zero, List.set_cons_succ, List.getElem_toArray, List.getElem_cons_zero, List.getElem_cons_succ]
        refine wpAnyH_take (i := 11) (oi := _) (v := _) rfl (by kernel_rfl) (by kernel_rfl) (by kernel_rfl) (fun _ _ _ h => h) (Or.inr ⟨by rfl, rfl⟩) (by assumption) ?_
        try simp only [Act.put, List.setIfInBounds_toArray, List.set_cons_zero, List.set_cons_succ, List.getElem_toArray, List.getElem_cons_zero, List.getElem_cons_succ]
        refine wpAnyH_take (i := 12) (oi := _) (v := _) rfl (by kernel_rfl) (by kernel_rfl) (by kernel_rfl) (fun _ _ _ h => h) (Or.inr ⟨by rfl, rfl⟩) (by assumption) ?_
        try simp only [Act.put, List.setIfInBounds_toArray, List.set_cons_zero, List.set_cons_succ, List.getElem_toArray, List.getElem_cons_zero, List.getElem_cons_succ]
        refine wpAnyH_take (i := 13) (oi := _) (v := _) rfl (by kernel_rfl) (by kernel_rfl) (by kernel_rfl) (fun _ _ _ h => h) (Or.inr ⟨by rfl, rfl⟩) (by assumption) ?_
        try simp only [Act.put, List.setIfInBounds_toArray, List.set_cons_zero, List.set_cons_succ, List.getElem_toArray, List.getElem_cons_zero, List.getElem_cons_succ]
        refine wpAnyH_take (i := 14) (oi := _) (v := _) rfl (by kernel_rfl) (by kernel_rfl) (by kernel_rfl) (fun _ _ _ h => h) (Or.inr ⟨by rfl, rfl⟩) (by assumption) ?_
        try simp only [Act.put, List.setIfInBounds_toArray, List.set_cons_zero, List.set_cons_succ, List.getElem_toArray, List.getElem_cons_zero, List.getElem_cons_succ]
        refine wpAnyH_take (i := 15) (oi := _) (v := ?_) rfl (by kernel_rfl) (by kernel_rfl) (by kernel_rfl) (fun _ _ _ h => h) (Or.inl ⟨by rfl, ?_⟩) (by assumption) ?_
        case refine_2 =>
          intro w9 hSw
          (try dsimp only at hSw)
          go_simp
          (try with_reducible rfl)
        try simp only [Act.put, List.setIfInBounds_toArray, List.set_cons_zero, List.set_cons_succ, List.getElem_toArray, List.getElem_cons_zero, List.getElem_cons_succ]
        refine wpAnyH_take (i := 16) (oi := _) (v := ?_) rfl (by kernel_rfl) (by kernel_rfl) (by kernel_rfl) (fun _ _ _ h => h) (Or.inl ⟨by rfl, ?_⟩) (by assumption) ?_
        case refine_2 =>
          intro w9 hSw
          (try dsimp only at hSw)
          go_simp
          (try with_reducible rfl)
        try simp only [Act.put, List.setIfInBounds_toArray, List.set_cons_zero, List.set_cons_succ, List.getElem_toArray, List.getElem_cons_zero, List.getElem_cons_succ]
        refine wpAnyH_take (i := 17) (oi := _) (v := _) rfl (by kernel_rfl) (by kernel_rfl) (by kernel_rfl) (fun _ _ _ h => h) (Or.inr ⟨by rfl, rfl⟩) (by assumption) ?_
        try simp only [Act.put, List.setIfInBounds_toArray, List.set_cons_zero, List.set_cons_succ, List.getElem_toArray, List.getElem_cons_zero, List.getElem_cons_succ]
        refine wpAnyH_take (i := 18) (oi := _) (v := _) rfl (by kernel_rfl) (by kernel_rfl) (by kernel_rfl) (fun _ _ _ h => h) (Or.inr ⟨by rfl, rfl⟩) (by assumption) ?_
        try simp only [Act.put, List.setIfInBounds_toArray, List.set_cons_zero, List.set_cons_succ, List.getElem_toArray, List.getElem_cons_zero, List.getElem_cons_succ]
        refine wpAnyH_take (i := 19) (oi := _) (v := _) rfl (by kernel_rfl) (by kernel_rfl) (by kernel_rfl) (fun _ _ _ h => h) (Or.inr ⟨by rfl, rfl⟩) (by assumption) ?_
        try simp only [Act.put, List.setIfInBounds_toArray, List.set_cons_zero, List.set_cons_succ, List.getElem_toArray, List.getElem_cons_zero, List.getElem_cons_succ]
        refine wpAnyH_take (i := 20) (oi := _) (v := _) rfl (by kernel_rfl) (by kernel_rfl) (by kernel_rfl) (fun _ _ _ h => h) (Or.inr ⟨by rfl, rfl⟩) (by assumption) ?_
        try simp only [Act.put, List.setIfInBounds_toArray, List.set_cons_zero, List.set_cons_succ, List.getElem_toArray, List.getElem_cons_zero, List.getElem_cons_succ]
        refine wpAnyH_take (i := 21) (oi := _) (v := _) rfl (by kernel_rfl) (by kernel_rfl) (by kernel_rfl) (fun _ _ _ h => h) (Or.inr ⟨by rfl, rfl⟩) (by assumption) ?_
        try simp only [Act.put, List.setIfInBounds_toArray, List.set_cons_zero, List.set_cons_succ, List.getElem_toArray, List.getElem_cons_zero, List.getElem_cons_succ]
        refine wpAnyH_take (i := 22) (oi := _) (v := _) rfl (by kernel_rfl) (by kernel_rfl) (by kernel_rfl) (fun _ _ _ h => h) (Or.inr ⟨by rfl, rfl⟩) (by assumption) ?_
        try simp only [Act.put, List.setIfInBounds_toArray, List.set_cons_zero, List.set_cons_succ, List.getElem_toArray, List.getElem_cons_zero, List.getElem_cons_succ]
        refine wpAnyH_take (i := 23) (oi := _) (v := _) rfl (by kernel_rfl) (by kernel_rfl) (by kernel_rfl) (fun _ _ _ h => h) (Or.inr ⟨by rfl, rfl⟩) (by assumption) ?_
        try simp only [Act.put, List.setIfInBounds_toArray, List.set_cons_zero, List.set_cons_succ, List.getElem_toArray, List.getElem_cons_zero, List.getElem_cons_succ]
        refine wpAnyH_take (i := 24) (oi := _) (v := _) rfl (by kernel_rfl) (by kernel_rfl) (by kernel_rfl) (fun _ _ _ h => h) (Or.inr ⟨by rfl, rfl⟩) (by assumption) ?_
        try simp only [Act.put, List.setIfInBounds_toArray, List.set_cons_zero, List.set_cons_succ, List.getElem_toArray, List.getElem_cons_zero, List.getElem_cons_succ]
        refine wpAnyH_take (i := 25) (oi := _) (v := _) rfl (by kernel_rfl) (by kernel_rfl) (by kernel_rfl) (fun _ _ _ h => h) (Or.inr ⟨by rfl, rfl⟩) (by assumption) ?_
        try simp only [Act.put, List.setIfInBounds_toArray, List.set_cons_zero, List.set_cons_succ, List.getElem_toArray, List.getElem_cons_zero, List.getElem_cons_succ]
        refine wpAnyH_take (i := 26) (oi := _) (v := _) rfl (by kernel_rfl) (by kernel_rfl) (by kernel_rfl) (fun _ _ _ h => h) (Or.inr ⟨by rfl, rfl⟩) (by assumption) ?_
        try simp only [Act.put, List.setIfInBounds_toArray, List.set_cons_zero, List.set_cons_succ, List.getElem_toArray, List.getElem_cons_zero, List.getElem_cons_succ]
        refine wpAnyH_take (i := 27) (oi := _) (v := _) rfl (by kernel_rfl) (by kernel_rfl) (by kernel_rfl) (fun _ _ _ h => h) (Or.inr ⟨by rfl, rfl⟩) (by assumption) ?_
        try simp only [Act.put, List.setIfInBounds_toArray, List.set_cons_zero, List.set_cons_succ, List.getElem_toArray, List.getElem_cons_zero, List.getElem_cons_succ]
        refine wpAnyH_take (i := 28) (oi := _) (v := _) rfl (by kernel_rfl) (by kernel_rfl) (by kernel_rfl) (fun _ _ _ h => h) (Or.inr ⟨by rfl, rfl⟩) (by assumption) ?_
        try simp only [Act.put, List.setIfInBounds_toArray, List.set_cons_zero, List.set_cons_succ, List.getElem_toArray, List.getElem_cons_zero, List.getElem_cons_succ]
        refine wpAnyH_take (i := 29) (oi := _) (v := _) rfl (by kernel_rfl) (by kernel_rfl) (by kernel_rfl) (fun _ _ _ h => h) (Or.inr ⟨by rfl, rfl⟩) (by assumption) ?_
        try simp only [Act.put, List.setIfInBounds_toArray, List.set_cons_zero, List.set_cons_succ, List.getElem_toArray, List.getElem_cons_zero, List.getElem_cons_succ]
        refine wpAnyH_take (i := 30) (oi := _) (v := ?_) rfl (by kernel_rfl) (by kernel_rfl) (by kernel_rfl) (fun _ _ _ h => h) (Or.inl ⟨by rfl, ?_⟩) (by assumption) ?_
        case refine_2 =>
          intro w9 hSw
          (try dsimp only at hSw)
          go_simp
          (try with_reducible rfl)
        try simp only [Act.put, List.setIfInBounds_toArray, List.set_cons_zero, List.set_cons_succ, List.getElem_toArray, List.getElem_cons_zero, List.getElem_cons_succ]
        refine wpAnyH_take (i := 31) (oi := _) (v := ?_) rfl (by kernel_rfl) (by kernel_rfl) (by kernel_rfl) (fun _ _ _ h => h) (Or.inl ⟨by rfl, ?_⟩) (by assumption) ?_
        case refine_2 =>
          intro w9 hSw
          (try dsimp only at hSw)
          go_simp
          (try with_reducible rfl)
        try simp only [Act.put, List.setIfInBounds_toArray, List.set_cons_zero, List.set_cons_succ, List.getElem_toArray, List.getElem_cons_zero, List.getElem_cons_succ]
        refine wpAnyH_done (by kernel_rfl) ?_ _
        have HL7 := Lib.hid (GL.out.trans (HR7.out.mono GL.out.size))
        go_wp2_with fail
        go_ret
        exact ⟨rfl, HL7⟩
      obtain ⟨X0, hX0⟩ : ∃ X, dnS x 0 = 91 :: X := ⟨_, by unfold dnS; rw [if_pos tx]⟩
      have HX0 := Lib.hid hX0
      by_cases ty : topB y ≤ 1000
      case neg =>
        have HY0 := Lib.hid (dn_none (k := 0) ty).2
        go_wp2_with fail
        have HR6 := Lib.hid (below_dr wr)
        have R6a := Lib.hid (Ga.out.belowW HR6.out)
        have R6b := Lib.hid (Gb.out.belowW HR6.out)
        have R6t := Lib.hid (Gt.out.belowW HR6.out)
        have R6m := Lib.hid (Gm.out.belowW HR6.out)
        have R6x := Lib.hid (Gx.out.belowW HR6.out)
        refine wp_region_held_drew (S := fun w' => w'.cell? ⟨w.heap.size, 0, none⟩ = some (.bool x.neg) ∧ w'.cell? ⟨w.heap.size, 1, none⟩ = some (.slice A n c) ∧ w'.cell? ⟨w.heap.size, 2, none⟩ = some (.int .i64 x.e) ∧ w'.cell? ⟨w.heap.size, 3, none⟩ = some (.bool y.neg) ∧ w'.cell? ⟨w.heap.size, 4, none⟩ = some (.slice A' n' c') ∧ w'.cell? ⟨w.heap.size, 5, none⟩ = some (.int .i64 y.e)) (by kernel_rfl) ?_ (fun hHeld => ?_)
        case refine_1 => exact ⟨R6x.out.cell 0, R6x.out.cell 1, R6x.out.cell 2, R6x.out.cell 3, R6x.out.cell 4, R6x.out.cell 5⟩
        refine wpAnyH_take (i := 0) (oi := _) (v := ?_) rfl (by kernel_rfl) (by kernel_rfl) (by kernel_rfl) (fun _ _ _ h => h) (Or.inl ⟨by rfl, ?_⟩) (by assumption) ?_
        case refine_2 =>
          intro w9 hSw
          (try dsimp only at hSw)
          go_simp
          (try with_reducible rfl)
        try simp only [Act.put, List.setIfInBounds_toArray, List.set_cons_zero, List.set_cons_succ, List.getElem_toArray, List.getElem_cons_zero, List.getElem_cons_succ]
        refine wpAnyH_take (i := 1) (oi := _) (v := ?_) rfl (by kernel_rfl) (by kernel_rfl) (by kernel_rfl) (fun _ _ _ h => h) (Or.inl ⟨by rfl, ?_⟩) (by assumption) ?_
        case refine_2 =>
          intro w9 hSw
          (try dsimp only at hSw)
          go_simp
          (try with_reducible rfl)
        try simp only [Act.put, List.setIfInBounds_toArray, List.set_cons_zero, List.set_cons_succ, List.getElem_toArray, List.getElem_cons_zero, List.getElem_cons_succ]
        refine wpAnyH_take (i := 2) (oi := _) (v := ?_) rfl (by kernel_rfl) (by kernel_rfl) (by kernel_rfl) (fun _ _ _ h => h) (Or.inl ⟨by rfl, ?_⟩) (by assumption) ?_
        case refine_2 =>
          intro w9 hSw
          (try dsimp only at hSw)
          go_simp
          (try with_reducible rfl)
        try simp only [Act.put, List.setIfInBounds_toArray, List.set_cons_zero, List.set_cons_succ, List.getElem_toArray, List.getElem_cons_zero, List.getElem_cons_succ]
        refine wpAnyH_take (i := 3) (oi := _) (v := ?_) rfl (by kernel_rfl) (by kernel_rfl) (by kernel_rfl) (fun _ _ _ h => h) (Or.inl ⟨by rfl, ?_⟩) (by assumption) ?_
        case refine_2 =>
          intro w9 hSw
          (try dsimp only at hSw)
          go_simp
          (try with_reducible rfl)
        try simp only [Act.put, List.setIfInBounds_toArray, List.set_cons_zero, List.set_cons_succ, List.getElem_toArray, List.getElem_cons_zero, List.getElem_cons_succ]
        refine wpAnyH_take (i := 4) (oi := _) (v := ?_) rfl (by kernel_rfl) (by kernel_rfl) (by kernel_rfl) (fun _ _ _ h => h) (Or.inl ⟨by rfl, ?_⟩) (by assumption) ?_
        case refine_2 =>
          intro w9 hSw
          (try dsimp only at hSw)
          go_simp
          (try with_reducible rfl)
        try simp only [Act.put, List.setIfInBounds_toArray, List.set_cons_zero, List.set_cons_succ, List.getElem_toArray, List.getElem_cons_zero, List.getElem_cons_succ]
        refine wpAnyH_take (i := 5) (oi := _) (v := ?_) rfl (by kernel_rfl) (by kernel_rfl) (by kernel_rfl) (fun _ _ _ h => h) (Or.inl ⟨by rfl, ?_⟩) (by assumption) ?_
        case refine_2 =>
          intro w9 hSw
          (try dsimp only at hSw)
          go_simp
          (try with_reducible rfl)
        try simp only [Act.put, List.setIfInBounds_toArray, List.set_cons_zero, List.set_cons_succ, List.getElem_toArray, List.getElem_cons_zero, List.getElem_cons_succ]
        refine wpAnyH_ready (rs := [6]) (by kernel_rfl) (by simp) ?_
        refine AllReadyH.cons rfl (fun K hK => ?_) AllReadyH.nil
        go_simp
        refine (down_zero x A n c _ R6a.out VX.out R6t.out).mono ?_
        rw [HX0.out]
        rintro e w7 ⟨rfl, HC7⟩
        have R7a := Lib.hid (R6a.out.belowW HC7.out)
        have R7b := Lib.hid (R6b.out.belowW HC7.out)
        have R7t := Lib.hid (R6t.out.belowW HC7.out)
        have R7m := Lib.hid (R6m.out.belowW HC7.out)
        have R7x := Lib.hid (R6x.out.belowW HC7.out)
        have HR7 := Lib.hid (HR6.out.trans (HC7.out.mono HR6.out.size))
        go_wp2_with fail
        clear hHeld
        refine hK.out _ _ ?_ (fun hHeld => ?_)
        case refine_1 => exact ⟨R7x.out.cell 0, R7x.out.cell 1, R7x.out.cell 2, R7x.out.cell 3, R7x.out.cell 4, R7x.out.cell 5⟩
        clear hK K
        try simp only [List.setIfInBounds_toArray, List.set_cons_zero, List.set_cons_succ]
        refine wpAnyH_take (i := 7) (oi := _) (v := ?_) rfl (by kernel_rfl) (by kernel_rfl) (by kernel_rfl) (fun _ _ _ h => h) (Or.inl ⟨by rfl, ?_⟩) (by assumption) ?_
        case refine_2 =>
          intro w9 hSw
          (try dsimp only at hSw)
          go_simp
          (try with_reducible rfl)
        try simp only [Act.put, List.setIfInBounds_toArray, List.set_cons_zero, List.set_cons_succ, List.getElem_toArray, List.getElem_cons_zero, List.getElem_cons_succ]
        refine wpAnyH_take (i := 8) (oi := _) (v := ?_) rfl (by kernel_rfl) (by kernel_rfl) (by kernel_rfl) (fun _ _ _ h => h) (Or.inl ⟨by rfl, ?_⟩) (by assumption) ?_
        case refine_2 =>
          intro w9 hSw
          (try dsimp only at hSw)
          go_simp
          (try with_reducible rfl)
        try simp only [Act.put, List.setIfInBounds_toArray, List.set_cons_zero, List.set_cons_succ, List.getElem_toArray, List.getElem_cons_zero, List.getElem_cons_succ]
        refine wpAnyH_take (i := 9) (oi := _) (v := ?_) rfl (by kernel_rfl) (by kernel_rfl) (by kernel_rfl) (fun _ _ _ h => h) (Or.inl ⟨by rfl, ?_⟩) (by assumption) ?_
        case refine_2 =>
          intro w9 hSw
          (try dsimp only at hSw)
          go_simp
          (try with_reducible rfl)
        try simp only [Act.put, List.setIfInBounds_toArray, List.set_cons_zero, List.set_cons_succ, List.getElem_toArray, List.getElem_cons_zero, List.getElem_cons_succ]
        refine wpAnyH_take (i := 10) (oi := _) (v := ?_) rfl (by kernel_rfl) (by kernel_rfl) (by kernel_rfl) (fun _ _ _ h => h) (Or.inl ⟨by rfl, ?_⟩) (by assumption) ?_
        case refine_2 =>
          intro w9 hSw
          (try dsimp only at hSw)
          go_simp
          (try with_reducible rfl)
        try simp only [Act.put, List.setIfInBounds_toArray, List.set_cons_zero, List.set_cons_succ, List.getElem_toArray, List.getElem_cons_zero, List.getElem_cons_succ]
        refine wpAnyH_take (i := 11) (oi := _) (v := ?_) rfl (by kernel_rfl) (by kernel_rfl) (by kernel_rfl) (fun _ _ _ h => h) (Or.inl ⟨by rfl, ?_⟩) (by assumption) ?_
        case refine_2 =>
          intro w9 hSw
          (try dsimp only at hSw)
          go_simp
          (try with_reducible rfl)
        try simp only [Act.put, List.setIfInBounds_toArray, List.set_cons_zero, List.set_cons_succ, List.getElem_toArray, List.getElem_cons_zero, List.getElem_cons_succ]
        refine wpAnyH_take (i := 12) (oi := _) (v := ?_) rfl (by kernel_rfl) (by kernel_rfl) (by kernel_rfl) (fun _ _ _ h => h) (Or.inl ⟨by rfl, ?_⟩) (by assumption) ?_
        case refine_2 =>
          intro w9 hSw
          (try dsimp only at hSw)
          go_simp
          (try with_reducible rfl)
        try simp only [Act.put, List.setIfInBounds_toArray, List.set_cons_zero, List.set_cons_succ, List.getElem_toArray, List.getElem_cons_zero, List.getElem_cons_succ]
        refine wpAnyH_ready (rs := [13]) (by kernel_rfl) (by simp) ?_
        refine AllReadyH.cons rfl (fun K hK => ?_) AllReadyH.nil
        go_simp
        refine (down_zero y A' n' c' _ R7b.out VY.out R7t.out).mono ?_
        rw [HY0.out]
        rintro e w8 ⟨rfl, HC8⟩
        have R8a := Lib.hid (R7a.out.belowW HC8.out)
        have R8b := Lib.hid (R7b.out.belowW HC8.out)
        have R8t := Lib.hid (R7t.out.belowW HC8.out)
        have R8m := Lib.hid (R7m.out.belowW HC8.out)
        have R8x := Lib.hid (R7x.out.belowW HC8.out)
        have HR8 := Lib.hid (HR7.out.trans (HC8.out.mono HR7.out.size))
        go_wp2_with fail
        clear hHeld
        refine hK.out _ _ ?_ (fun hHeld => ?_)
        case refine_1 => exact ⟨R8x.out.cell 0, R8x.out.cell 1, R8x.out.cell 2, R8x.out.cell 3, R8x.out.cell 4, R8x.out.cell 5⟩
        clear hK K
        try simp only [List.setIfInBounds_toArray, List.set_cons_zero, List.set_cons_succ]
        refine wpAnyH_take (i := 14) (oi := _) (v := ?_) rfl (by kernel_rfl) (by kernel_rfl) (by kernel_rfl) (fun _ _ _ h => h) (Or.inl ⟨by rfl, ?_⟩) (by assumption) ?_
        case refine_2 =>
          intro w9 hSw
          (try dsimp only at hSw)
          go_simp
          (try with_reducible rfl)
        try simp only [Act.put, List.setIfInBounds_toArray, List.set_cons_zero, List.set_cons_succ, List.getElem_toArray, List.getElem_cons_zero, List.getElem_cons_succ]
        refine wpAnyH_take (i := 15) (oi := _) (v := ?_) rfl (by kernel_rfl) (by kernel_rfl) (by kernel_rfl) (fun _ _ _ h => h) (Or.inl ⟨by rfl, ?_⟩) (by assumption) ?_
        case refine_2 =>
          intro w9 hSw
          (try dsimp only at hSw)
          go_simp
          (try with_reducible rfl)
        try simp only [Act.put, List.setIfInBounds_toArray, List.set_cons_zero, List.set_cons_succ, List.getElem_toArray, List.getElem_cons_zero, List.getElem_cons_succ]
        refine wpAnyH_take (i := 16) (oi := _) (v := ?_) rfl (by kernel_rfl) (by kernel_rfl) (by kernel_rfl) (fun _ _ _ h => h) (Or.inl ⟨by rfl, ?_⟩) (by assumption) ?_
        case refine_2 =>
          intro w9 hSw
          (try dsimp only at hSw)
          go_simp
          (try with_reducible rfl)
        try simp only [Act.put, List.setIfInBounds_toArray, List.set_cons_zero, List.set_cons_succ, List.getElem_toArray, List.getElem_cons_zero, List.getElem_cons_succ]
        refine wpAnyH_take (i := 17) (oi := _) (v := _) rfl (by kernel_rfl) (by kernel_rfl) (by kernel_rfl) (fun _ _ _ h => h) (Or.inr ⟨by rfl, rfl⟩) (by assumption) ?_
        try simp only [Act.put, List.setIfInBounds_toArray, List.set_cons_zero, List.set_cons_succ, List.getElem_toArray, List.getElem_cons_zero, List.getElem_cons_succ]
        refine wpAnyH_take (i := 18) (oi := _) (v := _) rfl (by kernel_rfl) (by kernel_rfl) (by kernel_rfl) (fun _ _ _ h => h) (Or.inr ⟨by rfl, rfl⟩) (by assumption) ?_
        try simp only [Act.put, List.setIfInBounds_toArray, List.set_cons_zero, List.set_cons_succ, List.getElem_toArray, List.getElem_cons_zero, List.getElem_cons_succ]
        refine wpAnyH_take (i := 19) (oi := _) (v := _) rfl (by kernel_rfl) (by kernel_rfl) (by kernel_rfl) (fun _ _ _ h => h) (Or.inr ⟨by rfl, rfl⟩) (by assumption) ?_
        try simp only [Act.put, List.setIfInBounds_toArray, List.set_cons_zero, List.set_cons_succ, List.getElem_toArray, List.getElem_cons_zero, List.getElem_cons_succ]
        refine wpAnyH_take (i := 20) (oi := _) (v := _) rfl (by kernel_rfl) (by kernel_rfl) (by kernel_rfl) (fun _ _ _ h => h) (Or.inr ⟨by rfl, rfl⟩) (by assumption) ?_
        try simp only [Act.put, List.setIfInBounds_toArray, List.set_cons_zero, List.set_cons_succ, List.getElem_toArray, List.getElem_cons_zero, List.getElem_cons_succ]
        refine wpAnyH_take (i := 21) (oi := _) (v := _) rfl (by kernel_rfl) (by kernel_rfl) (by kernel_rfl) (fun _ _ _ h => h) (Or.inr ⟨by rfl, rfl⟩) (by assumption) ?_
        try simp only [Act.put, List.setIfInBounds_toArray, List.set_cons_zero, List.set_cons_succ, List.getElem_toArray, List.getElem_cons_zero, List.getElem_cons_succ]
        refine wpAnyH_take (i := 22) (oi := _) (v := _) rfl (by kernel_rfl) (by kernel_rfl) (by kernel_rfl) (fun _ _ _ h => h) (Or.inr ⟨by rfl, rfl⟩) (by assumption) ?_
        try simp only [Act.put, List.setIfInBounds_toArray, List.set_cons_zero, List.set_cons_succ, List.getElem_toArray, List.getElem_cons_zero, List.getElem_cons_succ]
        refine wpAnyH_take (i := 23) (oi := _) (v := _) rfl (by kernel_rfl) (by kernel_rfl) (by kernel_rfl) (fun _ _ _ h => h) (Or.inr ⟨by rfl, rfl⟩) (by assumption) ?_
        try simp only [Act.put, List.setIfInBounds_toArray, List.set_cons_zero, List.set_cons_succ, List.getElem_toArray, List.getElem_cons_zero, List.getElem_cons_succ]
        refine wpAnyH_take (i := 24) (oi := _) (v := _) rfl (by kernel_rfl) (by kernel_rfl) (by kernel_rfl) (fun _ _ _ h => h) (Or.inr ⟨by rfl, rfl⟩) (by assumption) ?_
        try simp only [Act.put, List.setIfInBounds_toArray, List.set_cons_zero, List.set_cons_succ, List.getElem_toArray, List.getElem_cons_zero, List.getElem_cons_succ]
        refine wpAnyH_take (i := 25) (oi := _) (v := _) rfl (by kernel_rfl) (by kernel_rfl) (by kernel_rfl) (fun _ _ _ h => h) (Or.inr ⟨by rfl, rfl⟩) (by assumption) ?_
        try simp only [Act.put, List.setIfInBounds_toArray, List.set_cons_zero, List.set_cons_succ, List.getElem_toArray, List.getElem_cons_zero, List.getElem_cons_succ]
        refine wpAnyH_take (i := 26) (oi := _) (v := _) rfl (by kernel_rfl) (by kernel_rfl) (by kernel_rfl) (fun _ _ _ h => h) (Or.inr ⟨by rfl, rfl⟩) (by assumption) ?_
        try simp only [Act.put, List.setIfInBounds_toArray, List.set_cons_zero, List.set_cons_succ, List.getElem_toArray, List.getElem_cons_zero, List.getElem_cons_succ]
        refine wpAnyH_take (i := 27) (oi := _) (v := _) rfl (by kernel_rfl) (by kernel_rfl) (by kernel_rfl) (fun _ _ _ h => h) (Or.inr ⟨by rfl, rfl⟩) (by assumption) ?_
        try simp only [Act.put, List.setIfInBounds_toArray, List.set_cons_zero, List.set_cons_succ, List.getElem_toArray, List.getElem_cons_zero, List.getElem_cons_succ]
        refine wpAnyH_take (i := 28) (oi := _) (v := _) rfl (by kernel_rfl) (by kernel_rfl) (by kernel_rfl) (fun _ _ _ h => h) (Or.inr ⟨by rfl, rfl⟩) (by assumption) ?_
        try simp only [Act.put, List.setIfInBounds_toArray, List.set_cons_zero, List.set_cons_succ, List.getElem_toArray, List.getElem_cons_zero, List.getElem_cons_succ]
        refine wpAnyH_take (i := 29) (oi := _) (v := _) rfl (by kernel_rfl) (by kernel_rfl) (by kernel_rfl) (fun _ _ _ h => h) (Or.inr ⟨by rfl, rfl⟩) (by assumption) ?_
        try simp only [Act.put, List.setIfInBounds_toArray, List.set_cons_zero, List.set_cons_succ, List.getElem_toArray, List.getElem_cons_zero, List.getElem_cons_succ]
        refine wpAnyH_take (i := 30) (oi := _) (v := ?_) rfl (by kernel_rfl) (by kernel_rfl) (by kernel_rfl) (fun _ _ _ h => h) (Or.inl ⟨by rfl, ?_⟩) (by assumption) ?_
        case refine_2 =>
          intro w9 hSw
          (try dsimp only at hSw)
          go_simp
          (try with_reducible rfl)
        try simp only [Act.put, List.setIfInBounds_toArray, List.set_cons_zero, List.set_cons_succ, List.getElem_toArray, List.getElem_cons_zero, List.getElem_cons_succ]
        refine wpAnyH_take (i := 31) (oi := _) (v := ?_) rfl (by kernel_rfl) (by kernel_rfl) (by kernel_rfl) (fun _ _ _ h => h) (Or.inl ⟨by rfl, ?_⟩) (by assumption) ?_
        case refine_2 =>
          intro w9 hSw
          (try dsimp only at hSw)
          go_simp
          (try with_reducible rfl)
        try simp only [Act.put, List.setIfInBounds_toArray, List.set_cons_zero, List.set_cons_succ, List.getElem_toArray, List.getElem_cons_zero, List.getElem_cons_succ]
        refine wpAnyH_done (by kernel_rfl) ?_ _
        have HL8 := Lib.hid (GL.out.trans (HR8.out.mono GL.out.size))
        go_wp2_with fail
        go_ret
        exact ⟨rfl, HL8⟩
      obtain ⟨Y0, hY0⟩ : ∃ X, dnS y 0 = 91 :: X := ⟨_, by unfold dnS; rw [if_pos ty]⟩
      have HY0 := Lib.hid hY0
      obtain ⟨X1, hX1⟩ : ∃ X, dnS x j = 91 :: X := ⟨_, by unfold dnS; rw [if_pos tx]⟩
      have HX1 := Lib.hid hX1
      obtain ⟨Y1, hY1⟩ : ∃ X, dnS y j = 91 :: X := ⟨_, by unfold dnS; rw [if_pos ty]⟩
      have HY1 := Lib.hid hY1
      have hne : X1 ≠ Y1 := by
        have h1 := dn_other tx ty (by rw [HMM.out]; exact h51)
        rw [HMM.out, hX1, hY1] at h1
        exact fun e => h1 (by rw [e])
      have hnb : (X1 == Y1) = false := by rw [beq_eq_false_iff_ne]; exact hne
      clear hX0 hY0 hX1 hY1
      go_wp2_with fail
      have HR6 := Lib.hid (below_dr wr)
      have R6a := Lib.hid (Ga.out.belowW HR6.out)
      have R6b := Lib.hid (Gb.out.belowW HR6.out)
      have R6t := Lib.hid (Gt.out.belowW HR6.out)
      have R6m := Lib.hid (Gm.out.belowW HR6.out)
      have R6x := Lib.hid (Gx.out.belowW HR6.out)
      refine wp_region_held_drew (S := fun w' => w'.cell? ⟨w.heap.size, 0, none⟩ = some (.bool x.neg) ∧ w'.cell? ⟨w.heap.size, 1, none⟩ = some (.slice A n c) ∧ w'.cell? ⟨w.heap.size, 2, none⟩ = some (.int .i64 x.e) ∧ w'.cell? ⟨w.heap.size, 3, none⟩ = some (.bool y.neg) ∧ w'.cell? ⟨w.heap.size, 4, none⟩ = some (.slice A' n' c') ∧ w'.cell? ⟨w.heap.size, 5, none⟩ = some (.int .i64 y.e)) (by kernel_rfl) ?_ (fun hHeld => ?_)
      case refine_1 => exact ⟨R6x.out.cell 0, R6x.out.cell 1, R6x.out.cell 2, R6x.out.cell 3, R6x.out.cell 4, R6x.out.cell 5⟩
      refine wpAnyH_take (i := 0) (oi := _) (v := ?_) rfl (by kernel_rfl) (by kernel_rfl) (by kernel_rfl) (fun _ _ _ h => h) (Or.inl ⟨by rfl, ?_⟩) (by assumption) ?_
      case refine_2 =>
        intro w9 hSw
        (try dsimp only at hSw)
        go_simp
        (try with_reducible rfl)
      try simp only [Act.put, List.setIfInBounds_toArray, List.set_cons_zero, List.set_cons_succ, List.getElem_toArray, List.getElem_cons_zero, List.getElem_cons_succ]
      refine wpAnyH_take (i := 1) (oi := _) (v := ?_) rfl (by kernel_rfl) (by kernel_rfl) (by kernel_rfl) (fun _ _ _ h => h) (Or.inl ⟨by rfl, ?_⟩) (by assumption) ?_
      case refine_2 =>
        intro w9 hSw
        (try dsimp only at hSw)
        go_simp
        (try with_reducible rfl)
      try simp only [Act.put, List.setIfInBounds_toArray, List.set_cons_zero, List.set_cons_succ, List.getElem_toArray, List.getElem_cons_zero, List.getElem_cons_succ]
      refine wpAnyH_take (i := 2) (oi := _) (v := ?_) rfl (by kernel_rfl) (by kernel_rfl) (by kernel_rfl) (fun _ _ _ h => h) (Or.inl ⟨by rfl, ?_⟩) (by assumption) ?_
      case refine_2 =>
        intro w9 hSw
        (try dsimp only at hSw)
        go_simp
        (try with_reducible rfl)
      try simp only [Act.put, List.setIfInBounds_toArray, List.set_cons_zero, List.set_cons_succ, List.getElem_toArray, List.getElem_cons_zero, List.getElem_cons_succ]
      refine wpAnyH_take (i := 3) (oi := _) (v := ?_) rfl (by kernel_rfl) (by kernel_rfl) (by kernel_rfl) (fun _ _ _ h => h) (Or.inl ⟨by rfl, ?_⟩) (by assumption) ?_
      case refine_2 =>
        intro w9 hSw
        (try dsimp only at hSw)
        go_simp
        (try with_reducible rfl)
      try simp only [Act.put, List.setIfInBounds_toArray, List.set_cons_zero, List.set_cons_succ, List.getElem_toArray, List.getElem_cons_zero, List.getElem_cons_succ]
      refine wpAnyH_take (i := 4) (oi := _) (v := ?_) rfl (by kernel_rfl) (by kernel_rfl) (by kernel_rfl) (fun _ _ _ h => h) (Or.inl ⟨by rfl, ?_⟩) (by assumption) ?_
      case refine_2 =>
        intro w9 hSw
        (try dsimp only at hSw)
        go_simp
        (try with_reducible rfl)
      try simp only [Act.put, List.setIfInBounds_toArray, List.set_cons_zero, List.set_cons_succ, List.getElem_toArray, List.getElem_cons_zero, List.getElem_cons_succ]
      refine wpAnyH_take (i := 5) (oi := _) (v := ?_) rfl (by kernel_rfl) (by kernel_rfl) (by kernel_rfl) (fun _ _ _ h => h) (Or.inl ⟨by rfl, ?_⟩) (by assumption) ?_
      case refine_2 =>
        intro w9 hSw
        (try dsimp only at hSw)
        go_simp
        (try with_reducible rfl)
      try simp only [Act.put, List.setIfInBounds_toArray, List.set_cons_zero, List.set_cons_succ, List.getElem_toArray, List.getElem_cons_zero, List.getElem_cons_succ]
      refine wpAnyH_ready (rs := [6]) (by kernel_rfl) (by simp) ?_
      refine AllReadyH.cons rfl (fun K hK => ?_) AllReadyH.nil
      go_simp
      refine (down_zero x A n c _ R6a.out VX.out R6t.out).mono ?_
      rw [HX0.out]
      rintro e w7 ⟨rfl, HC7⟩
      have R7a := Lib.hid (R6a.out.belowW HC7.out)
      have R7b := Lib.hid (R6b.out.belowW HC7.out)
      have R7t := Lib.hid (R6t.out.belowW HC7.out)
      have R7m := Lib.hid (R6m.out.belowW HC7.out)
      have R7x := Lib.hid (R6x.out.belowW HC7.out)
      have HR7 := Lib.hid (HR6.out.trans (HC7.out.mono HR6.out.size))
      go_wp2_with fail
      clear hHeld
      refine hK.out _ _ ?_ (fun hHeld => ?_)
      case refine_1 => exact ⟨R7x.out.cell 0, R7x.out.cell 1, R7x.out.cell 2, R7x.out.cell 3, R7x.out.cell 4, R7x.out.cell 5⟩
      clear hK K
      try simp only [List.setIfInBounds_toArray, List.set_cons_zero, List.set_cons_succ]
      refine wpAnyH_take (i := 7) (oi := _) (v := ?_) rfl (by kernel_rfl) (by kernel_rfl) (by kernel_rfl) (fun _ _ _ h => h) (Or.inl ⟨by rfl, ?_⟩) (by assumption) ?_
      case refine_2 =>
        intro w9 hSw
        (try dsimp only at hSw)
        go_simp
        (try with_reducible rfl)
      try simp only [Act.put, List.setIfInBounds_toArray, List.set_cons_zero, List.set_cons_succ, List.getElem_toArray, List.getElem_cons_zero, List.getElem_cons_succ]
      refine wpAnyH_take (i := 8) (oi := _) (v := ?_) rfl (by kernel_rfl) (by kernel_rfl) (by kernel_rfl) (fun _ _ _ h => h) (Or.inl ⟨by rfl, ?_⟩) (by assumption) ?_
      case refine_2 =>
        intro w9 hSw
        (try dsimp only at hSw)
        go_simp
        (try with_reducible rfl)
      try simp only [Act.put, List.setIfInBounds_toArray, List.set_cons_zero, List.set_cons_succ, List.getElem_toArray, List.getElem_cons_zero, List.getElem_cons_succ]
      refine wpAnyH_take (i := 9) (oi := _) (v := ?_) rfl (by kernel_rfl) (by kernel_rfl) (by kernel_rfl) (fun _ _ _ h => h) (Or.inl ⟨by rfl, ?_⟩) (by assumption) ?_
      case refine_2 =>
        intro w9 hSw
        (try dsimp only at hSw)
        go_simp
        (try with_reducible rfl)
      try simp only [Act.put, List.setIfInBounds_toArray, List.set_cons_zero, List.set_cons_succ, List.getElem_toArray, List.getElem_cons_zero, List.getElem_cons_succ]
      refine wpAnyH_take (i := 10) (oi := _) (v := ?_) rfl (by kernel_rfl) (by kernel_rfl) (by kernel_rfl) (fun _ _ _ h => h) (Or.inl ⟨by rfl, ?_⟩) (by assumption) ?_
      case refine_2 =>
        intro w9 hSw
        (try dsimp only at hSw)
        go_simp
        (try with_reducible rfl)
      try simp only [Act.put, List.setIfInBounds_toArray, List.set_cons_zero, List.set_cons_succ, List.getElem_toArray, List.getElem_cons_zero, List.getElem_cons_succ]
      refine wpAnyH_take (i := 11) (oi := _) (v := ?_) rfl (by kernel_rfl) (by kernel_rfl) (by kernel_rfl) (fun _ _ _ h => h) (Or.inl ⟨by rfl, ?_⟩) (by assumption) ?_
      case refine_2 =>
        intro w9 hSw
        (try dsimp only at hSw)
        go_simp
        (try with_reducible rfl)
      try simp only [Act.put, List.setIfInBounds_toArray, List.set_cons_zero, List.set_cons_succ, List.getElem_toArray, List.getElem_cons_zero, List.getElem_cons_succ]
      refine wpAnyH_take (i := 12) (oi := _) (v := ?_) rfl (by kernel_rfl) (by kernel_rfl) (by kernel_rfl) (fun _ _ _ h => h) (Or.inl ⟨by rfl, ?_⟩) (by assumption) ?_
      case refine_2 =>
        intro w9 hSw
        (try dsimp only at hSw)
        go_simp
        (try with_reducible rfl)
      try simp only [Act.put, List.setIfInBounds_toArray, List.set_cons_zero, List.set_cons_succ, List.getElem_toArray, List.getElem_cons_zero, List.getElem_cons_succ]
      refine wpAnyH_ready (rs := [13]) (by kernel_rfl) (by simp) ?_
      refine AllReadyH.cons rfl (fun K hK => ?_) AllReadyH.nil
      go_simp
      refine (down_zero y A' n' c' _ R7b.out VY.out R7t.out).mono ?_
      rw [HY0.out]
      rintro e w8 ⟨rfl, HC8⟩
      have R8a := Lib.hid (R7a.out.belowW HC8.out)
      have R8b := Lib.hid (R7b.out.belowW HC8.out)
      have R8t := Lib.hid (R7t.out.belowW HC8.out)
      have R8m := Lib.hid (R7m.out.belowW HC8.out)
      have R8x := Lib.hid (R7x.out.belowW HC8.out)
      have HR8 := Lib.hid (HR7.out.trans (HC8.out.mono HR7.out.size))
      go_wp2_with fail
      clear hHeld
      refine hK.out _ _ ?_ (fun hHeld => ?_)
      case refine_1 => exact ⟨R8x.out.cell 0, R8x.out.cell 1, R8x.out.cell 2, R8x.out.cell 3, R8x.out.cell 4, R8x.out.cell 5⟩
      clear hK K
      try simp only [List.setIfInBounds_toArray, List.set_cons_zero, List.set_cons_succ]
      refine wpAnyH_take (i := 14) (oi := _) (v := ?_) rfl (by kernel_rfl) (by kernel_rfl) (by kernel_rfl) (fun _ _ _ h => h) (Or.inl ⟨by rfl, ?_⟩) (by assumption) ?_
      case refine_2 =>
        intro w9 hSw
        (try dsimp only at hSw)
        go_simp
        (try with_reducible rfl)
      try simp only [Act.put, List.setIfInBounds_toArray, List.set_cons_zero, List.set_cons_succ, List.getElem_toArray, List.getElem_cons_zero, List.getElem_cons_succ]
      refine wpAnyH_take (i := 15) (oi := _) (v := ?_) rfl (by kernel_rfl) (by kernel_rfl) (by kernel_rfl) (fun _ _ _ h => h) (Or.inl ⟨by rfl, ?_⟩) (by assumption) ?_
      case refine_2 =>
        intro w9 hSw
        (try dsimp only at hSw)
        go_simp
        (try with_reducible rfl)
      try simp only [Act.put, List.setIfInBounds_toArray, List.set_cons_zero, List.set_cons_succ, List.getElem_toArray, List.getElem_cons_zero, List.getElem_cons_succ]
      refine wpAnyH_take (i := 16) (oi := _) (v := ?_) rfl (by kernel_rfl) (by kernel_rfl) (by kernel_rfl) (fun _ _ _ h => h) (Or.inl ⟨by rfl, ?_⟩) (by assumption) ?_
      case refine_2 =>
        intro w9 hSw
        (try dsimp only at hSw)
        go_simp
        (try with_reducible rfl)
      try simp only [Act.put, List.setIfInBounds_toArray, List.set_cons_zero, List.set_cons_succ, List.getElem_toArray, List.getElem_cons_zero, List.getElem_cons_succ]
      refine wpAnyH_take (i := 17) (oi := _) (v := ?_) rfl (by kernel_rfl) (by kernel_rfl) (by kernel_rfl) (fun _ _ _ h => h) (Or.inl ⟨by rfl, ?_⟩) (by assumption) ?_
      case refine_2 =>
        intro w9 hSw
        (try dsimp only at hSw)
        go_simp
        (try with_reducible rfl)
      try simp only [Act.put, List.setIfInBounds_toArray, List.set_cons_zero, List.set_cons_succ, List.getElem_toArray, List.getElem_cons_zero, List.getElem_cons_succ]
      refine wpAnyH_take (i := 18) (oi := _) (v := ?_) rfl (by kernel_rfl) (by kernel_rfl) (by kernel_rfl) (fun _ _ _ h => h) (Or.inl ⟨by rfl, ?_⟩) (by assumption) ?_
      case refine_2 =>
        intro w9 hSw
        (try dsimp only at hSw)
        go_simp
        (try with_reducible rfl)
      try simp only [Act.put, List.setIfInBounds_toArray, List.set_cons_zero, List.set_cons_succ, List.getElem_toArray, List.getElem_cons_zero, List.getElem_cons_succ]
      refine wpAnyH_take (i := 19) (oi := _) (v := ?_) rfl (by kernel_rfl) (by kernel_rfl) (by kernel_rfl) (fun _ _ _ h => h) (Or.inl ⟨by rfl, ?_⟩) (by assumption) ?_
      case refine_2 =>
        intro w9 hSw
        (try dsimp only at hSw)
        go_simp
        (try with_reducible rfl)
      try simp only [Act.put, List.setIfInBounds_toArray, List.set_cons_zero, List.set_cons_succ, List.getElem_toArray, List.getElem_cons_zero, List.getElem_cons_succ]
      refine wpAnyH_take (i := 20) (oi := _) (v := ?_) rfl (by kernel_rfl) (by kernel_rfl) (by kernel_rfl) (fun _ _ _ h => h) (Or.inl ⟨by rfl, ?_⟩) (by assumption) ?_
      case refine_2 =>
        intro w9 hSw
        (try dsimp only at hSw)
        go_simp
        (try with_reducible rfl)
      try simp only [Act.put, List.setIfInBounds_toArray, List.set_cons_zero, List.set_cons_succ, List.getElem_toArray, List.getElem_cons_zero, List.getElem_cons_succ]
      refine wpAnyH_take (i := 21) (oi := _) (v := ?_) rfl (by kernel_rfl) (by kernel_rfl) (by kernel_rfl) (fun _ _ _ h => h) (Or.inl ⟨by rfl, ?_⟩) (by assumption) ?_
      case refine_2 =>
        intro w9 hSw
        (try dsimp only at hSw)
        go_simp
        (try with_reducible rfl)
      try simp only [Act.put, List.setIfInBounds_toArray, List.set_cons_zero, List.set_cons_succ, List.getElem_toArray, List.getElem_cons_zero, List.getElem_cons_succ]
      refine wpAnyH_take (i := 23) (oi := _) (v := ?_) rfl (by kernel_rfl) (by kernel_rfl) (by kernel_rfl) (fun _ _ _ h => h) (Or.inl ⟨by rfl, ?_⟩) (by assumption) ?_
      case refine_2 =>
        intro w9 hSw
        (try dsimp only at hSw)
        go_simp
        (try with_reducible rfl)
      try simp only [Act.put, List.setIfInBounds_toArray, List.set_cons_zero, List.set_cons_succ, List.getElem_toArray, List.getElem_cons_zero, List.getElem_cons_succ]
      refine wpAnyH_take (i := 24) (oi := _) (v := ?_) rfl (by kernel_rfl) (by kernel_rfl) (by kernel_rfl) (fun _ _ _ h => h) (Or.inl ⟨by rfl, ?_⟩) (by assumption) ?_
      case refine_2 =>
        intro w9 hSw
        (try dsimp only at hSw)
        go_simp
        (try with_reducible rfl)
      try simp only [Act.put, List.setIfInBounds_toArray, List.set_cons_zero, List.set_cons_succ, List.getElem_toArray, List.getElem_cons_zero, List.getElem_cons_succ]
      refine wpAnyH_take (i := 25) (oi := _) (v := ?_) rfl (by kernel_rfl) (by kernel_rfl) (by kernel_rfl) (fun _ _ _ h => h) (Or.inl ⟨by rfl, ?_⟩) (by assumption) ?_
      case refine_2 =>
        intro w9 hSw
        (try dsimp only at hSw)
        go_simp
        (try with_reducible rfl)
      try simp only [Act.put, List.setIfInBounds_toArray, List.set_cons_zero, List.set_cons_succ, List.getElem_toArray, List.getElem_cons_zero, List.getElem_cons_succ]
      refine wpAnyH_take (i := 26) (oi := _) (v := ?_) rfl (by kernel_rfl) (by kernel_rfl) (by kernel_rfl) (fun _ _ _ h => h) (Or.inl ⟨by rfl, ?_⟩) (by assumption) ?_
      case refine_2 =>
        intro w9 hSw
        (try dsimp only at hSw)
        go_simp
        (try with_reducible rfl)
      try simp only [Act.put, List.setIfInBounds_toArray, List.set_cons_zero, List.set_cons_succ, List.getElem_toArray, List.getElem_cons_zero, List.getElem_cons_succ]
      refine wpAnyH_take (i := 27) (oi := _) (v := ?_) rfl (by kernel_rfl) (by kernel_rfl) (by kernel_rfl) (fun _ _ _ h => h) (Or.inl ⟨by rfl, ?_⟩) (by assumption) ?_
      case refine_2 =>
        intro w9 hSw
        (try dsimp only at hSw)
        go_simp
        (try with_reducible rfl)
      try simp only [Act.put, List.setIfInBounds_toArray, List.set_cons_zero, List.set_cons_succ, List.getElem_toArray, List.getElem_cons_zero, List.getElem_cons_succ]
      refine wpAnyH_ready (rs := [22]) (by kernel_rfl) (by simp) ?_
      refine AllReadyH.cons rfl (fun K hK => ?_) AllReadyH.nil
      go_simp
      refine (down_any x A n c j _ R8a.out VX.out hj50 R8t.out).mono ?_
      rw [HX1.out]
      rintro e w9 ⟨rfl, HC9⟩
      have R9a := Lib.hid (R8a.out.belowW HC9.out)
      have R9b := Lib.hid (R8b.out.belowW HC9.out)
      have R9t := Lib.hid (R8t.out.belowW HC9.out)
      have R9m := Lib.hid (R8m.out.belowW HC9.out)
      have R9x := Lib.hid (R8x.out.belowW HC9.out)
      have HR9 := Lib.hid (HR8.out.trans (HC9.out.mono HR8.out.size))
      go_wp2_with fail
      clear hHeld
      refine hK.out _ _ ?_ (fun hHeld => ?_)
      case refine_1 => exact ⟨R9x.out.cell 0, R9x.out.cell 1, R9x.out.cell 2, R9x.out.cell 3, R9x.out.cell 4, R9x.out.cell 5⟩
      clear hK K
      try simp only [List.setIfInBounds_toArray, List.set_cons_zero, List.set_cons_succ]
      refine wpAnyH_ready (rs := [28]) (by kernel_rfl) (by simp) ?_
      refine AllReadyH.cons rfl (fun K hK => ?_) AllReadyH.nil
      go_simp
      refine (down_any y A' n' c' j _ R9b.out VY.out hj50 R9t.out).mono ?_
      rw [HY1.out]
      rintro e w10 ⟨rfl, HC10⟩
      have R10a := Lib.hid (R9a.out.belowW HC10.out)
      have R10b := Lib.hid (R9b.out.belowW HC10.out)
      have R10t := Lib.hid (R9t.out.belowW HC10.out)
      have R10m := Lib.hid (R9m.out.belowW HC10.out)
      have R10x := Lib.hid (R9x.out.belowW HC10.out)
      have HR10 := Lib.hid (HR9.out.trans (HC10.out.mono HR9.out.size))
      go_wp2_with fail
      clear hHeld
      refine hK.out _ _ ?_ (fun hHeld => ?_)
      case refine_1 => exact ⟨R10x.out.cell 0, R10x.out.cell 1, R10x.out.cell 2, R10x.out.cell 3, R10x.out.cell 4, R10x.out.cell 5⟩
      clear hK K
      try simp only [List.setIfInBounds_toArray, List.set_cons_zero, List.set_cons_succ]
      refine wpAnyH_take (i := 29) (oi := _) (v := ?_) rfl (by kernel_rfl) (by kernel_rfl) (by kernel_rfl) (fun _ _ _ h => h) (Or.inl ⟨by rfl, ?_⟩) (by assumption) ?_
      case refine_2 =>
        intro w9 hSw
        (try dsimp only at hSw)
        go_simp
        (try with_reducible rfl)
      try simp only [Act.put, List.setIfInBounds_toArray, List.set_cons_zero, List.set_cons_succ, List.getElem_toArray, List.getElem_cons_zero, List.getElem_cons_succ]
      refine wpAnyH_take (i := 30) (oi := _) (v := ?_) rfl (by kernel_rfl) (by kernel_rfl) (by kernel_rfl) (fun _ _ _ h => h) (Or.inl ⟨by rfl, ?_⟩) (by assumption) ?_
      case refine_2 =>
        intro w9 hSw
        (try dsimp only at hSw)
        go_simp
        (try with_reducible rfl)
      try simp only [Act.put, List.setIfInBounds_toArray, List.set_cons_zero, List.set_cons_succ, List.getElem_toArray, List.getElem_cons_zero, List.getElem_cons_succ]
      refine wpAnyH_take (i := 31) (oi := _) (v := ?_) rfl (by kernel_rfl) (by kernel_rfl) (by kernel_rfl) (fun _ _ _ h => h) (Or.inl ⟨by rfl, ?_⟩) (by assumption) ?_
      case refine_2 =>
        intro w9 hSw
        (try dsimp only at hSw)
        go_simp
        (try with_reducible rfl)
      try simp only [Act.put, List.setIfInBounds_toArray, List.set_cons_zero, List.set_cons_succ, List.getElem_toArray, List.getElem_cons_zero, List.getElem_cons_succ]
      refine wpAnyH_done (by kernel_rfl) ?_ _
      have HL10 := Lib.hid (GL.out.trans (HR10.out.mono GL.out.size))
      go_wp2_with fail
      go_ret
      exact ⟨rfl, HL10⟩
theorem decimalCommon_any (na : Bool) (A : Option Addr) (n c : Nat) (ea : Int) (l : List Nat) (na' : Bool) (A' : Option Addr) (n' c' : Nat) (ea' : Int) (l' : List Nat) (sa : Bool) (w : World) (hT : RB w) (hM : MXL w) (h : Sl w A n c l) (h' : Sl w A' n' c' l') (i1 : -9223372036854775808 ≤ ea) (i2 : ea ≤ 9223372036854775807) (i3 : -9223372036854775808 ≤ ea') (i4 : ea' ≤ 9223372036854775807) : Calls Tryz.prog 7 #[.agg #[.bool na, .slice A n c, .int .i64 ea, .bool na', .slice A' n' c', .int .i64 ea', .bool sa]] w (Awk w) := by
  cases hg : (decide (40 < n) || decide (40 < n')) with
  | true => exact comm_great na A n c ea l na' A' n' c' ea' l' sa w hT hM h h' hg
  | false =>
    cases sa with
    | true =>
      cases hv : vldIB na l ea na' l' ea' true with
      | false => exact comm_allno na A n c ea l na' A' n' c' ea' l' w hT hM h h' hg hv
      | true => exact comm_all na A n c ea l na' A' n' c' ea' l' w hT hM h h' hg hv
    | false =>
      cases hv : vldIB na l ea na' l' ea' false with
      | false => exact comm_inv na A n c ea l na' A' n' c' ea' l' w hT hM h h' hg hv
      | true =>
        obtain ⟨e1, e2, v1, v2, hc, _⟩ := vldIB_cases hv
        obtain ⟨x, hx⟩ : ∃ x : D, x = ⟨na, val l, ea⟩ := ⟨_, rfl⟩
        obtain ⟨y, hy⟩ : ∃ x : D, x = ⟨na', val l', ea'⟩ := ⟨_, rfl⟩
        rw [← hx] at v1 hc
        rw [← hy] at v2 hc
        obtain rfl : na = x.neg := by rw [hx]
        obtain rfl : ea = x.e := by rw [hx]
        obtain rfl : na' = y.neg := by rw [hy]
        obtain rfl : ea' = y.e := by rw [hy]
        rw [e1, show val l = x.k by rw [hx]] at h
        rw [e2, show val l' = y.k by rw [hy]] at h'
        exact comm_main x y A n c A' n' c' w hT hM h h' hg v1 v2 hc
end Go.Proofs.YtffdkakogeofmaaGreatDoor
