/-
  The walk of the law DecimalEncloses.
-/
import Derived.Test.YtffdkakogeofmaaGreatDoorDecK
import Derived.Test.YtffdkakogeofmaaGreatDoorDecV
set_option linter.unusedVariables false
namespace Go.Proofs.YtffdkakogeofmaaGreatDoor
open Go.RowKit Go.Fl Go.Fl.Nm Go.Fl.Dy
theorem parse_list (l : List UInt8) (p : Int) (r : (D × D × Bool) × Int) (w : World) (h : parR l p = r) (hl : l.length ≤ 3000) (hT : RB w) (hM : MXL w) :
    Calls Tryz.prog 10 #[.string ⟨l.toArray⟩, .int .i64 p] w (IvE r w) := by
  have := parse_at ⟨l.toArray⟩ p w (by show l.toArray.size ≤ 3000; simpa using hl) hT hM
  rw [← h]
  exact this
/-- Everything, read. -/
theorem parse_whole (p : Nat) (w : World) (hp : 8 ≤ p) (hp2 : p ≤ 512) : Calls Tryz.prog 10 #[.string ⟨#[97, 108, 108]⟩, .int .i64 p] w (fun e w' => ∃ (U U' : Option Addr) (u u' : Nat),
    e = .returned (.tuple #[.agg #[.bool false, .slice U 0 u, .int .i64 0, .bool false, .slice U' 0 u', .int .i64 0, .bool true], .int .i64 0]) ∧ Hid (Sl w' U 0 u []) ∧ Hid (Sl w' U' 0 u' []) ∧ Hid (Below w.heap.size w w')) := by
  have hr : parR [97, 108, 108] (p : Int) = ((zD, zD, true), 0) := by unfold parR; rw [if_pos rfl, if_neg (by omega)]
  refine (parse_all p w).mono ?_
  rw [hr]
  rintro e w' ⟨A, B, n, c, m, d, rfl, HA, HB, HL⟩
  have ez : limbs zD.k = [] := limbs_zero
  have h1 := HA.out
  have h2 := HB.out
  rw [show ((zD, zD, true), (0 : Int)).1.1.k = zD.k from rfl, ez] at h1
  rw [show ((zD, zD, true), (0 : Int)).1.2.1.k = zD.k from rfl, ez] at h2
  have l1 : n = 0 := h1.len.symm
  have l2 : m = 0 := h2.len.symm
  subst l1 l2
  exact ⟨A, B, c, d, rfl, Lib.hid h1, Lib.hid h2, HL⟩
theorem vldIB_zero : vldIB false [] 0 false [] 0 true = true := by decide
set_option maxHeartbeats 1000000 in
theorem dText_all (A A' : Option Addr) (c c' q : Nat) (w : World) (h : Sl w A 0 c []) (h' : Sl w A' 0 c' []) (hq : q ≤ 50) :
    Calls Tryz.prog 18 #[.agg #[.bool false, .slice A 0 c, .int .i64 0, .bool false, .slice A' 0 c', .int .i64 0, .bool true], .int .i64 q] w (Ret (.string ⟨#[97, 108, 108]⟩) w) := by
  have H1 := Lib.hid h
  have H2 := Lib.hid h'
  have HV := Lib.hid vldIB_zero
  have dq1 : decide ((q : Int) < 0) = false := decide_eq_false (by omega)
  have dq2 : decide ((50 : Int) < (q : Int)) = false := decide_eq_false (by omega)
  clear h h'
  go_enter Tryz.func18, Tryz.ntmps18
  go_wp2_with fail
  obtain ⟨w1, hw⟩ : ∃ z9 : World, z9 = (w.alloc (.cells #[.bool false, .slice A 0 c, .int .i64 0, .bool false, .slice A' 0 c', .int .i64 0, .bool true] 27)) := ⟨_, rfl⟩
  have HB1 := Lib.hid (show Below w.heap.size w w1 by rw [hw]; exact below_a1 _ _)
  have F1a := Lib.hid (H1.out.belowW HB1.out)
  have F1b := Lib.hid (H2.out.belowW HB1.out)
  have F1x := Lib.hid (show Blk w1 (w.heap.size) 27 #[.bool false, .slice A 0 c, .int .i64 0, .bool false, .slice A' 0 c', .int .i64 0, .bool true] by rw [hw]; exact Blk.new _ _ _)
  rw [← hw]
  clear hw
  have px0 : (w1).cell? ⟨w.heap.size, 0, none⟩ = some (.bool false) := F1x.out.cell 0
  have fx0 : (w1).frozen? ⟨w.heap.size, 0, none⟩ = false := F1x.out.frozen 0
  have px1 : (w1).cell? ⟨w.heap.size, 1, none⟩ = some (.slice A 0 c) := F1x.out.cell 1
  have fx1 : (w1).frozen? ⟨w.heap.size, 1, none⟩ = false := F1x.out.frozen 1
  have px2 : (w1).cell? ⟨w.heap.size, 2, none⟩ = some (.int .i64 0) := F1x.out.cell 2
  have fx2 : (w1).frozen? ⟨w.heap.size, 2, none⟩ = false := F1x.out.frozen 2
  have px3 : (w1).cell? ⟨w.heap.size, 3, none⟩ = some (.bool false) := F1x.out.cell 3
  have fx3 : (w1).frozen? ⟨w.heap.size, 3, none⟩ = false := F1x.out.frozen 3
  have px4 : (w1).cell? ⟨w.heap.size, 4, none⟩ = some (.slice A' 0 c') := F1x.out.cell 4
  have fx4 : (w1).frozen? ⟨w.heap.size, 4, none⟩ = false := F1x.out.frozen 4
  have px5 : (w1).cell? ⟨w.heap.size, 5, none⟩ = some (.int .i64 0) := F1x.out.cell 5
  have fx5 : (w1).frozen? ⟨w.heap.size, 5, none⟩ = false := F1x.out.frozen 5
  have px6 : (w1).cell? ⟨w.heap.size, 6, none⟩ = some (.bool true) := F1x.out.cell 6
  have fx6 : (w1).frozen? ⟨w.heap.size, 6, none⟩ = false := F1x.out.frozen 6
  go_wp2_with fail
  refine (ivalid_any false A 0 c 0 [] false A' 0 c' 0 [] true w1 F1a.out F1b.out).mono ?_
  rw [HV.out]
  rintro e w2 ⟨rfl, HB2⟩
  have F2a := Lib.hid (F1a.out.belowW HB2.out)
  have F2b := Lib.hid (F1b.out.belowW HB2.out)
  have F2x := Lib.hid (F1x.out.belowW HB2.out)
  have HL2 := Lib.hid (HB1.out.trans (HB2.out.mono HB1.out.size))
  clear px0 fx0 px1 fx1 px2 fx2 px3 fx3 px4 fx4 px5 fx5 px6 fx6
  have px0 : (w2).cell? ⟨w.heap.size, 0, none⟩ = some (.bool false) := F2x.out.cell 0
  have fx0 : (w2).frozen? ⟨w.heap.size, 0, none⟩ = false := F2x.out.frozen 0
  have px1 : (w2).cell? ⟨w.heap.size, 1, none⟩ = some (.slice A 0 c) := F2x.out.cell 1
  have fx1 : (w2).frozen? ⟨w.heap.size, 1, none⟩ = false := F2x.out.frozen 1
  have px2 : (w2).cell? ⟨w.heap.size, 2, none⟩ = some (.int .i64 0) := F2x.out.cell 2
  have fx2 : (w2).frozen? ⟨w.heap.size, 2, none⟩ = false := F2x.out.frozen 2
  have px3 : (w2).cell? ⟨w.heap.size, 3, none⟩ = some (.bool false) := F2x.out.cell 3
  have fx3 : (w2).frozen? ⟨w.heap.size, 3, none⟩ = false := F2x.out.frozen 3
  have px4 : (w2).cell? ⟨w.heap.size, 4, none⟩ = some (.slice A' 0 c') := F2x.out.cell 4
  have fx4 : (w2).frozen? ⟨w.heap.size, 4, none⟩ = false := F2x.out.frozen 4
  have px5 : (w2).cell? ⟨w.heap.size, 5, none⟩ = some (.int .i64 0) := F2x.out.cell 5
  have fx5 : (w2).frozen? ⟨w.heap.size, 5, none⟩ = false := F2x.out.frozen 5
  have px6 : (w2).cell? ⟨w.heap.size, 6, none⟩ = some (.bool true) := F2x.out.cell 6
  have fx6 : (w2).frozen? ⟨w.heap.size, 6, none⟩ = false := F2x.out.frozen 6
  go_wp2_with fail
  go_ret
  exact ⟨rfl, HL2⟩

set_option maxHeartbeats 1000000 in
theorem inside_all (A A' B B' : Option Addr) (c c' m m' : Nat) (w : World) (h1 : Sl w A 0 c []) (h2 : Sl w A' 0 c' []) (h3 : Sl w B 0 m []) (h4 : Sl w B' 0 m' []) :
    Calls Tryz.prog 19 #[.agg #[.bool false, .slice A 0 c, .int .i64 0, .bool false, .slice A' 0 c', .int .i64 0, .bool true], .agg #[.bool false, .slice B 0 m, .int .i64 0, .bool false, .slice B' 0 m', .int .i64 0, .bool true]] w (Ret (.bool true) w) := by
  have H1 := Lib.hid h1
  have H2 := Lib.hid h2
  have H3 := Lib.hid h3
  have H4 := Lib.hid h4
  have HV := Lib.hid vldIB_zero
  clear h1 h2 h3 h4
  go_enter Tryz.func19, Tryz.ntmps19
  go_wp2_with fail
  obtain ⟨w1, hw⟩ : ∃ z9 : World, z9 = ((w.alloc (.cells #[.bool false, .slice A 0 c, .int .i64 0, .bool false, .slice A' 0 c', .int .i64 0, .bool true] 27)).alloc (.cells #[.bool false, .slice B 0 m, .int .i64 0, .bool false, .slice B' 0 m', .int .i64 0, .bool true] 27)) := ⟨_, rfl⟩
  have HB1 := Lib.hid (show Below w.heap.size w w1 by rw [hw]; exact below_a2 _ _ _)
  have F1a := Lib.hid (H1.out.belowW HB1.out)
  have F1b := Lib.hid (H2.out.belowW HB1.out)
  have F1c := Lib.hid (H3.out.belowW HB1.out)
  have F1d := Lib.hid (H4.out.belowW HB1.out)
  have F1x := Lib.hid (show Blk w1 (w.heap.size) 27 #[.bool false, .slice A 0 c, .int .i64 0, .bool false, .slice A' 0 c', .int .i64 0, .bool true] by rw [hw]; exact (Blk.new _ _ _).alloc _)
  have F1y := Lib.hid (show Blk w1 (w.heap.size + 1) 27 #[.bool false, .slice B 0 m, .int .i64 0, .bool false, .slice B' 0 m', .int .i64 0, .bool true] by rw [hw]; exact Blk.new1 _ _ _ _)
  rw [← hw]
  clear hw
  have px0 : (w1).cell? ⟨w.heap.size, 0, none⟩ = some (.bool false) := F1x.out.cell 0
  have fx0 : (w1).frozen? ⟨w.heap.size, 0, none⟩ = false := F1x.out.frozen 0
  have px1 : (w1).cell? ⟨w.heap.size, 1, none⟩ = some (.slice A 0 c) := F1x.out.cell 1
  have fx1 : (w1).frozen? ⟨w.heap.size, 1, none⟩ = false := F1x.out.frozen 1
  have px2 : (w1).cell? ⟨w.heap.size, 2, none⟩ = some (.int .i64 0) := F1x.out.cell 2
  have fx2 : (w1).frozen? ⟨w.heap.size, 2, none⟩ = false := F1x.out.frozen 2
  have px3 : (w1).cell? ⟨w.heap.size, 3, none⟩ = some (.bool false) := F1x.out.cell 3
  have fx3 : (w1).frozen? ⟨w.heap.size, 3, none⟩ = false := F1x.out.frozen 3
  have px4 : (w1).cell? ⟨w.heap.size, 4, none⟩ = some (.slice A' 0 c') := F1x.out.cell 4
  have fx4 : (w1).frozen? ⟨w.heap.size, 4, none⟩ = false := F1x.out.frozen 4
  have px5 : (w1).cell? ⟨w.heap.size, 5, none⟩ = some (.int .i64 0) := F1x.out.cell 5
  have fx5 : (w1).frozen? ⟨w.heap.size, 5, none⟩ = false := F1x.out.frozen 5
  have px6 : (w1).cell? ⟨w.heap.size, 6, none⟩ = some (.bool true) := F1x.out.cell 6
  have fx6 : (w1).frozen? ⟨w.heap.size, 6, none⟩ = false := F1x.out.frozen 6
  go_wp2_with fail
  refine (ivalid_any false A 0 c 0 [] false A' 0 c' 0 [] true w1 F1a.out F1b.out).mono ?_
  rw [HV.out]
  rintro e w2 ⟨rfl, HB2⟩
  have F2a := Lib.hid (F1a.out.belowW HB2.out)
  have F2b := Lib.hid (F1b.out.belowW HB2.out)
  have F2c := Lib.hid (F1c.out.belowW HB2.out)
  have F2d := Lib.hid (F1d.out.belowW HB2.out)
  have F2x := Lib.hid (F1x.out.belowW HB2.out)
  have F2y := Lib.hid (F1y.out.belowW HB2.out)
  have HL2 := Lib.hid (HB1.out.trans (HB2.out.mono HB1.out.size))
  clear px0 fx0 px1 fx1 px2 fx2 px3 fx3 px4 fx4 px5 fx5 px6 fx6
  have py0 : (w2).cell? ⟨w.heap.size + 1, 0, none⟩ = some (.bool false) := F2y.out.cell 0
  have fy0 : (w2).frozen? ⟨w.heap.size + 1, 0, none⟩ = false := F2y.out.frozen 0
  have py1 : (w2).cell? ⟨w.heap.size + 1, 1, none⟩ = some (.slice B 0 m) := F2y.out.cell 1
  have fy1 : (w2).frozen? ⟨w.heap.size + 1, 1, none⟩ = false := F2y.out.frozen 1
  have py2 : (w2).cell? ⟨w.heap.size + 1, 2, none⟩ = some (.int .i64 0) := F2y.out.cell 2
  have fy2 : (w2).frozen? ⟨w.heap.size + 1, 2, none⟩ = false := F2y.out.frozen 2
  have py3 : (w2).cell? ⟨w.heap.size + 1, 3, none⟩ = some (.bool false) := F2y.out.cell 3
  have fy3 : (w2).frozen? ⟨w.heap.size + 1, 3, none⟩ = false := F2y.out.frozen 3
  have py4 : (w2).cell? ⟨w.heap.size + 1, 4, none⟩ = some (.slice B' 0 m') := F2y.out.cell 4
  have fy4 : (w2).frozen? ⟨w.heap.size + 1, 4, none⟩ = false := F2y.out.frozen 4
  have py5 : (w2).cell? ⟨w.heap.size + 1, 5, none⟩ = some (.int .i64 0) := F2y.out.cell 5
  have fy5 : (w2).frozen? ⟨w.heap.size + 1, 5, none⟩ = false := F2y.out.frozen 5
  have py6 : (w2).cell? ⟨w.heap.size + 1, 6, none⟩ = some (.bool true) := F2y.out.cell 6
  have fy6 : (w2).frozen? ⟨w.heap.size + 1, 6, none⟩ = false := F2y.out.frozen 6
  go_wp2_with fail
  refine (ivalid_any false B 0 m 0 [] false B' 0 m' 0 [] true w2 F2c.out F2d.out).mono ?_
  rw [HV.out]
  rintro e w3 ⟨rfl, HB3⟩
  have F3a := Lib.hid (F2a.out.belowW HB3.out)
  have F3b := Lib.hid (F2b.out.belowW HB3.out)
  have F3c := Lib.hid (F2c.out.belowW HB3.out)
  have F3d := Lib.hid (F2d.out.belowW HB3.out)
  have F3x := Lib.hid (F2x.out.belowW HB3.out)
  have F3y := Lib.hid (F2y.out.belowW HB3.out)
  have HL3 := Lib.hid (HL2.out.trans (HB3.out.mono HL2.out.size))
  clear py0 fy0 py1 fy1 py2 fy2 py3 fy3 py4 fy4 py5 fy5 py6 fy6
  have px0 : (w3).cell? ⟨w.heap.size, 0, none⟩ = some (.bool false) := F3x.out.cell 0
  have fx0 : (w3).frozen? ⟨w.heap.size, 0, none⟩ = false := F3x.out.frozen 0
  have px1 : (w3).cell? ⟨w.heap.size, 1, none⟩ = some (.slice A 0 c) := F3x.out.cell 1
  have fx1 : (w3).frozen? ⟨w.heap.size, 1, none⟩ = false := F3x.out.frozen 1
  have px2 : (w3).cell? ⟨w.heap.size, 2, none⟩ = some (.int .i64 0) := F3x.out.cell 2
  have fx2 : (w3).frozen? ⟨w.heap.size, 2, none⟩ = false := F3x.out.frozen 2
  have px3 : (w3).cell? ⟨w.heap.size, 3, none⟩ = some (.bool false) := F3x.out.cell 3
  have fx3 : (w3).frozen? ⟨w.heap.size, 3, none⟩ = false := F3x.out.frozen 3
  have px4 : (w3).cell? ⟨w.heap.size, 4, none⟩ = some (.slice A' 0 c') := F3x.out.cell 4
  have fx4 : (w3).frozen? ⟨w.heap.size, 4, none⟩ = false := F3x.out.frozen 4
  have px5 : (w3).cell? ⟨w.heap.size, 5, none⟩ = some (.int .i64 0) := F3x.out.cell 5
  have fx5 : (w3).frozen? ⟨w.heap.size, 5, none⟩ = false := F3x.out.frozen 5
  have px6 : (w3).cell? ⟨w.heap.size, 6, none⟩ = some (.bool true) := F3x.out.cell 6
  have fx6 : (w3).frozen? ⟨w.heap.size, 6, none⟩ = false := F3x.out.frozen 6
  have py0 : (w3).cell? ⟨w.heap.size + 1, 0, none⟩ = some (.bool false) := F3y.out.cell 0
  have fy0 : (w3).frozen? ⟨w.heap.size + 1, 0, none⟩ = false := F3y.out.frozen 0
  have py1 : (w3).cell? ⟨w.heap.size + 1, 1, none⟩ = some (.slice B 0 m) := F3y.out.cell 1
  have fy1 : (w3).frozen? ⟨w.heap.size + 1, 1, none⟩ = false := F3y.out.frozen 1
  have py2 : (w3).cell? ⟨w.heap.size + 1, 2, none⟩ = some (.int .i64 0) := F3y.out.cell 2
  have fy2 : (w3).frozen? ⟨w.heap.size + 1, 2, none⟩ = false := F3y.out.frozen 2
  have py3 : (w3).cell? ⟨w.heap.size + 1, 3, none⟩ = some (.bool false) := F3y.out.cell 3
  have fy3 : (w3).frozen? ⟨w.heap.size + 1, 3, none⟩ = false := F3y.out.frozen 3
  have py4 : (w3).cell? ⟨w.heap.size + 1, 4, none⟩ = some (.slice B' 0 m') := F3y.out.cell 4
  have fy4 : (w3).frozen? ⟨w.heap.size + 1, 4, none⟩ = false := F3y.out.frozen 4
  have py5 : (w3).cell? ⟨w.heap.size + 1, 5, none⟩ = some (.int .i64 0) := F3y.out.cell 5
  have fy5 : (w3).frozen? ⟨w.heap.size + 1, 5, none⟩ = false := F3y.out.frozen 5
  have py6 : (w3).cell? ⟨w.heap.size + 1, 6, none⟩ = some (.bool true) := F3y.out.cell 6
  have fy6 : (w3).frozen? ⟨w.heap.size + 1, 6, none⟩ = false := F3y.out.frozen 6
  go_wp2_with fail
  go_ret
  exact ⟨rfl, HL3⟩

set_option maxHeartbeats 1000000 in
theorem encl_great (na : Bool) (A : Option Addr) (n c : Nat) (ea : Int) (l : List Nat) (na' : Bool) (A' : Option Addr) (n' c' : Nat) (ea' : Int) (l' : List Nat) (sa : Bool) (dg p : Int) (w : World) (h : Sl w A n c l) (h' : Sl w A' n' c' l') (hT : RB w) (hM : MXL w) (hg : (decide (40 < n) || decide (40 < n')) = true) : Calls Tryz.prog 5 #[.agg #[.bool na, .slice A n c, .int .i64 ea, .bool na', .slice A' n' c', .int .i64 ea', .bool sa], .int .i64 dg, .int .i64 p] w (Awk w) := by
  have H1 := Lib.hid h
  have H2 := Lib.hid h'
  have HT := Lib.hid hT
  have HM := Lib.hid hM
  have hn := h.max
  have hn' := h'.max
  have HG := Lib.hid hg
  clear h h' hT hM hg
  go_enter Tryz.func5, Tryz.ntmps5
  go_wp2_with fail
  obtain ⟨w1, hw⟩ : ∃ z9 : World, z9 = (w.alloc (.cells #[.bool na, .slice A n c, .int .i64 ea, .bool na', .slice A' n' c', .int .i64 ea', .bool sa] 27)) := ⟨_, rfl⟩
  have HB1 := Lib.hid (show Below w.heap.size w w1 by rw [hw]; exact below_a1 _ _)
  have F1a := Lib.hid (H1.out.belowW HB1.out)
  have F1b := Lib.hid (H2.out.belowW HB1.out)
  have F1t := Lib.hid (HT.out.belowW HB1.out)
  have F1m := Lib.hid (HM.out.belowW HB1.out)
  have F1x := Lib.hid (show Blk w1 (w.heap.size) 27 #[.bool na, .slice A n c, .int .i64 ea, .bool na', .slice A' n' c', .int .i64 ea', .bool sa] by rw [hw]; exact Blk.new _ _ _)
  rw [← hw]
  clear hw
  refine (dAwake_any w1 F1t.out F1m.out).mono ?_
  rintro e w2 ⟨rfl, HB2⟩
  have F2a := Lib.hid (F1a.out.belowW HB2.out)
  have F2b := Lib.hid (F1b.out.belowW HB2.out)
  have F2t := Lib.hid (F1t.out.belowW HB2.out)
  have F2m := Lib.hid (F1m.out.belowW HB2.out)
  have F2x := Lib.hid (F1x.out.belowW HB2.out)
  have HL2 := Lib.hid (HB1.out.trans (HB2.out.mono HB1.out.size))
  have px0 : (w2).cell? ⟨w.heap.size, 0, none⟩ = some (.bool na) := F2x.out.cell 0
  have fx0 : (w2).frozen? ⟨w.heap.size, 0, none⟩ = false := F2x.out.frozen 0
  have px1 : (w2).cell? ⟨w.heap.size, 1, none⟩ = some (.slice A n c) := F2x.out.cell 1
  have fx1 : (w2).frozen? ⟨w.heap.size, 1, none⟩ = false := F2x.out.frozen 1
  have px2 : (w2).cell? ⟨w.heap.size, 2, none⟩ = some (.int .i64 ea) := F2x.out.cell 2
  have fx2 : (w2).frozen? ⟨w.heap.size, 2, none⟩ = false := F2x.out.frozen 2
  have px3 : (w2).cell? ⟨w.heap.size, 3, none⟩ = some (.bool na') := F2x.out.cell 3
  have fx3 : (w2).frozen? ⟨w.heap.size, 3, none⟩ = false := F2x.out.frozen 3
  have px4 : (w2).cell? ⟨w.heap.size, 4, none⟩ = some (.slice A' n' c') := F2x.out.cell 4
  have fx4 : (w2).frozen? ⟨w.heap.size, 4, none⟩ = false := F2x.out.frozen 4
  have px5 : (w2).cell? ⟨w.heap.size, 5, none⟩ = some (.int .i64 ea') := F2x.out.cell 5
  have fx5 : (w2).frozen? ⟨w.heap.size, 5, none⟩ = false := F2x.out.frozen 5
  have px6 : (w2).cell? ⟨w.heap.size, 6, none⟩ = some (.bool sa) := F2x.out.cell 6
  have fx6 : (w2).frozen? ⟨w.heap.size, 6, none⟩ = false := F2x.out.frozen 6
  go_wp2_with fail
  refine (great_any na na' sa A A' n c n' c' ea ea' w2 hn hn').mono ?_
  rw [HG.out]
  rintro e w3 ⟨rfl, HB3⟩
  have F3a := Lib.hid (F2a.out.belowW HB3.out)
  have F3b := Lib.hid (F2b.out.belowW HB3.out)
  have F3t := Lib.hid (F2t.out.belowW HB3.out)
  have F3m := Lib.hid (F2m.out.belowW HB3.out)
  have F3x := Lib.hid (F2x.out.belowW HB3.out)
  have HL3 := Lib.hid (HL2.out.trans (HB3.out.mono HL2.out.size))
  go_wp2_with fail
  go_ret
  exact ⟨rfl, HL3⟩

set_option maxHeartbeats 1000000 in
theorem encl_inv (na : Bool) (A : Option Addr) (n c : Nat) (ea : Int) (l : List Nat) (na' : Bool) (A' : Option Addr) (n' c' : Nat) (ea' : Int) (l' : List Nat) (sa : Bool) (dg p : Int) (w : World) (h : Sl w A n c l) (h' : Sl w A' n' c' l') (hT : RB w) (hM : MXL w) (hg : (decide (40 < n) || decide (40 < n')) = false) (hv : vldIB na l ea na' l' ea' sa = false) : Calls Tryz.prog 5 #[.agg #[.bool na, .slice A n c, .int .i64 ea, .bool na', .slice A' n' c', .int .i64 ea', .bool sa], .int .i64 dg, .int .i64 p] w (Awk w) := by
  have H1 := Lib.hid h
  have H2 := Lib.hid h'
  have HT := Lib.hid hT
  have HM := Lib.hid hM
  have hn := h.max
  have hn' := h'.max
  have HG := Lib.hid hg
  have HV := Lib.hid hv
  clear h h' hT hM hg hv
  go_enter Tryz.func5, Tryz.ntmps5
  go_wp2_with fail
  obtain ⟨w1, hw⟩ : ∃ z9 : World, z9 = (w.alloc (.cells #[.bool na, .slice A n c, .int .i64 ea, .bool na', .slice A' n' c', .int .i64 ea', .bool sa] 27)) := ⟨_, rfl⟩
  have HB1 := Lib.hid (show Below w.heap.size w w1 by rw [hw]; exact below_a1 _ _)
  have F1a := Lib.hid (H1.out.belowW HB1.out)
  have F1b := Lib.hid (H2.out.belowW HB1.out)
  have F1t := Lib.hid (HT.out.belowW HB1.out)
  have F1m := Lib.hid (HM.out.belowW HB1.out)
  have F1x := Lib.hid (show Blk w1 (w.heap.size) 27 #[.bool na, .slice A n c, .int .i64 ea, .bool na', .slice A' n' c', .int .i64 ea', .bool sa] by rw [hw]; exact Blk.new _ _ _)
  rw [← hw]
  clear hw
  refine (dAwake_any w1 F1t.out F1m.out).mono ?_
  rintro e w2 ⟨rfl, HB2⟩
  have F2a := Lib.hid (F1a.out.belowW HB2.out)
  have F2b := Lib.hid (F1b.out.belowW HB2.out)
  have F2t := Lib.hid (F1t.out.belowW HB2.out)
  have F2m := Lib.hid (F1m.out.belowW HB2.out)
  have F2x := Lib.hid (F1x.out.belowW HB2.out)
  have HL2 := Lib.hid (HB1.out.trans (HB2.out.mono HB1.out.size))
  have px0 : (w2).cell? ⟨w.heap.size, 0, none⟩ = some (.bool na) := F2x.out.cell 0
  have fx0 : (w2).frozen? ⟨w.heap.size, 0, none⟩ = false := F2x.out.frozen 0
  have px1 : (w2).cell? ⟨w.heap.size, 1, none⟩ = some (.slice A n c) := F2x.out.cell 1
  have fx1 : (w2).frozen? ⟨w.heap.size, 1, none⟩ = false := F2x.out.frozen 1
  have px2 : (w2).cell? ⟨w.heap.size, 2, none⟩ = some (.int .i64 ea) := F2x.out.cell 2
  have fx2 : (w2).frozen? ⟨w.heap.size, 2, none⟩ = false := F2x.out.frozen 2
  have px3 : (w2).cell? ⟨w.heap.size, 3, none⟩ = some (.bool na') := F2x.out.cell 3
  have fx3 : (w2).frozen? ⟨w.heap.size, 3, none⟩ = false := F2x.out.frozen 3
  have px4 : (w2).cell? ⟨w.heap.size, 4, none⟩ = some (.slice A' n' c') := F2x.out.cell 4
  have fx4 : (w2).frozen? ⟨w.heap.size, 4, none⟩ = false := F2x.out.frozen 4
  have px5 : (w2).cell? ⟨w.heap.size, 5, none⟩ = some (.int .i64 ea') := F2x.out.cell 5
  have fx5 : (w2).frozen? ⟨w.heap.size, 5, none⟩ = false := F2x.out.frozen 5
  have px6 : (w2).cell? ⟨w.heap.size, 6, none⟩ = some (.bool sa) := F2x.out.cell 6
  have fx6 : (w2).frozen? ⟨w.heap.size, 6, none⟩ = false := F2x.out.frozen 6
  go_wp2_with fail
  refine (great_any na na' sa A A' n c n' c' ea ea' w2 hn hn').mono ?_
  rw [HG.out]
  rintro e w3 ⟨rfl, HB3⟩
  have F3a := Lib.hid (F2a.out.belowW HB3.out)
  have F3b := Lib.hid (F2b.out.belowW HB3.out)
  have F3t := Lib.hid (F2t.out.belowW HB3.out)
  have F3m := Lib.hid (F2m.out.belowW HB3.out)
  have F3x := Lib.hid (F2x.out.belowW HB3.out)
  have HL3 := Lib.hid (HL2.out.trans (HB3.out.mono HL2.out.size))
  clear px0 fx0 px1 fx1 px2 fx2 px3 fx3 px4 fx4 px5 fx5 px6 fx6
  have px0 : (w3).cell? ⟨w.heap.size, 0, none⟩ = some (.bool na) := F3x.out.cell 0
  have fx0 : (w3).frozen? ⟨w.heap.size, 0, none⟩ = false := F3x.out.frozen 0
  have px1 : (w3).cell? ⟨w.heap.size, 1, none⟩ = some (.slice A n c) := F3x.out.cell 1
  have fx1 : (w3).frozen? ⟨w.heap.size, 1, none⟩ = false := F3x.out.frozen 1
  have px2 : (w3).cell? ⟨w.heap.size, 2, none⟩ = some (.int .i64 ea) := F3x.out.cell 2
  have fx2 : (w3).frozen? ⟨w.heap.size, 2, none⟩ = false := F3x.out.frozen 2
  have px3 : (w3).cell? ⟨w.heap.size, 3, none⟩ = some (.bool na') := F3x.out.cell 3
  have fx3 : (w3).frozen? ⟨w.heap.size, 3, none⟩ = false := F3x.out.frozen 3
  have px4 : (w3).cell? ⟨w.heap.size, 4, none⟩ = some (.slice A' n' c') := F3x.out.cell 4
  have fx4 : (w3).frozen? ⟨w.heap.size, 4, none⟩ = false := F3x.out.frozen 4
  have px5 : (w3).cell? ⟨w.heap.size, 5, none⟩ = some (.int .i64 ea') := F3x.out.cell 5
  have fx5 : (w3).frozen? ⟨w.heap.size, 5, none⟩ = false := F3x.out.frozen 5
  have px6 : (w3).cell? ⟨w.heap.size, 6, none⟩ = some (.bool sa) := F3x.out.cell 6
  have fx6 : (w3).frozen? ⟨w.heap.size, 6, none⟩ = false := F3x.out.frozen 6
  go_wp2_with fail
  refine (ivalid_any na A n c ea l na' A' n' c' ea' l' sa w3 F3a.out F3b.out).mono ?_
  rw [HV.out]
  rintro e w4 ⟨rfl, HB4⟩
  have F4a := Lib.hid (F3a.out.belowW HB4.out)
  have F4b := Lib.hid (F3b.out.belowW HB4.out)
  have F4t := Lib.hid (F3t.out.belowW HB4.out)
  have F4m := Lib.hid (F3m.out.belowW HB4.out)
  have F4x := Lib.hid (F3x.out.belowW HB4.out)
  have HL4 := Lib.hid (HL3.out.trans (HB4.out.mono HL3.out.size))
  clear px0 fx0 px1 fx1 px2 fx2 px3 fx3 px4 fx4 px5 fx5 px6 fx6
  have px0 : (w4).cell? ⟨w.heap.size, 0, none⟩ = some (.bool na) := F4x.out.cell 0
  have fx0 : (w4).frozen? ⟨w.heap.size, 0, none⟩ = false := F4x.out.frozen 0
  have px1 : (w4).cell? ⟨w.heap.size, 1, none⟩ = some (.slice A n c) := F4x.out.cell 1
  have fx1 : (w4).frozen? ⟨w.heap.size, 1, none⟩ = false := F4x.out.frozen 1
  have px2 : (w4).cell? ⟨w.heap.size, 2, none⟩ = some (.int .i64 ea) := F4x.out.cell 2
  have fx2 : (w4).frozen? ⟨w.heap.size, 2, none⟩ = false := F4x.out.frozen 2
  have px3 : (w4).cell? ⟨w.heap.size, 3, none⟩ = some (.bool na') := F4x.out.cell 3
  have fx3 : (w4).frozen? ⟨w.heap.size, 3, none⟩ = false := F4x.out.frozen 3
  have px4 : (w4).cell? ⟨w.heap.size, 4, none⟩ = some (.slice A' n' c') := F4x.out.cell 4
  have fx4 : (w4).frozen? ⟨w.heap.size, 4, none⟩ = false := F4x.out.frozen 4
  have px5 : (w4).cell? ⟨w.heap.size, 5, none⟩ = some (.int .i64 ea') := F4x.out.cell 5
  have fx5 : (w4).frozen? ⟨w.heap.size, 5, none⟩ = false := F4x.out.frozen 5
  have px6 : (w4).cell? ⟨w.heap.size, 6, none⟩ = some (.bool sa) := F4x.out.cell 6
  have fx6 : (w4).frozen? ⟨w.heap.size, 6, none⟩ = false := F4x.out.frozen 6
  go_wp2_with fail
  go_ret
  exact ⟨rfl, HL4⟩

set_option maxHeartbeats 2000000 in
theorem encl_range (na : Bool) (A : Option Addr) (n c : Nat) (ea : Int) (l : List Nat) (na' : Bool) (A' : Option Addr) (n' c' : Nat) (ea' : Int) (l' : List Nat) (sa : Bool) (dg p : Int) (w : World) (h : Sl w A n c l) (h' : Sl w A' n' c' l') (hT : RB w) (hM : MXL w) (hg : (decide (40 < n) || decide (40 < n')) = false) (hv : vldIB na l ea na' l' ea' sa = true) (hr : dg < 0 ∨ 50 ≤ dg ∨ p < 8 ∨ 512 < p) : Calls Tryz.prog 5 #[.agg #[.bool na, .slice A n c, .int .i64 ea, .bool na', .slice A' n' c', .int .i64 ea', .bool sa], .int .i64 dg, .int .i64 p] w (Awk w) := by
  have H1 := Lib.hid h
  have H2 := Lib.hid h'
  have HT := Lib.hid hT
  have HM := Lib.hid hM
  have hn := h.max
  have hn' := h'.max
  have HG := Lib.hid hg
  have HV := Lib.hid hv
  clear h h' hT hM hg hv
  go_enter Tryz.func5, Tryz.ntmps5
  go_wp2_with fail
  obtain ⟨w1, hw⟩ : ∃ z9 : World, z9 = (w.alloc (.cells #[.bool na, .slice A n c, .int .i64 ea, .bool na', .slice A' n' c', .int .i64 ea', .bool sa] 27)) := ⟨_, rfl⟩
  have HB1 := Lib.hid (show Below w.heap.size w w1 by rw [hw]; exact below_a1 _ _)
  have F1a := Lib.hid (H1.out.belowW HB1.out)
  have F1b := Lib.hid (H2.out.belowW HB1.out)
  have F1t := Lib.hid (HT.out.belowW HB1.out)
  have F1m := Lib.hid (HM.out.belowW HB1.out)
  have F1x := Lib.hid (show Blk w1 (w.heap.size) 27 #[.bool na, .slice A n c, .int .i64 ea, .bool na', .slice A' n' c', .int .i64 ea', .bool sa] by rw [hw]; exact Blk.new _ _ _)
  rw [← hw]
  clear hw
  refine (dAwake_any w1 F1t.out F1m.out).mono ?_
  rintro e w2 ⟨rfl, HB2⟩
  have F2a := Lib.hid (F1a.out.belowW HB2.out)
  have F2b := Lib.hid (F1b.out.belowW HB2.out)
  have F2t := Lib.hid (F1t.out.belowW HB2.out)
  have F2m := Lib.hid (F1m.out.belowW HB2.out)
  have F2x := Lib.hid (F1x.out.belowW HB2.out)
  have HL2 := Lib.hid (HB1.out.trans (HB2.out.mono HB1.out.size))
  have px0 : (w2).cell? ⟨w.heap.size, 0, none⟩ = some (.bool na) := F2x.out.cell 0
  have fx0 : (w2).frozen? ⟨w.heap.size, 0, none⟩ = false := F2x.out.frozen 0
  have px1 : (w2).cell? ⟨w.heap.size, 1, none⟩ = some (.slice A n c) := F2x.out.cell 1
  have fx1 : (w2).frozen? ⟨w.heap.size, 1, none⟩ = false := F2x.out.frozen 1
  have px2 : (w2).cell? ⟨w.heap.size, 2, none⟩ = some (.int .i64 ea) := F2x.out.cell 2
  have fx2 : (w2).frozen? ⟨w.heap.size, 2, none⟩ = false := F2x.out.frozen 2
  have px3 : (w2).cell? ⟨w.heap.size, 3, none⟩ = some (.bool na') := F2x.out.cell 3
  have fx3 : (w2).frozen? ⟨w.heap.size, 3, none⟩ = false := F2x.out.frozen 3
  have px4 : (w2).cell? ⟨w.heap.size, 4, none⟩ = some (.slice A' n' c') := F2x.out.cell 4
  have fx4 : (w2).frozen? ⟨w.heap.size, 4, none⟩ = false := F2x.out.frozen 4
  have px5 : (w2).cell? ⟨w.heap.size, 5, none⟩ = some (.int .i64 ea') := F2x.out.cell 5
  have fx5 : (w2).frozen? ⟨w.heap.size, 5, none⟩ = false := F2x.out.frozen 5
  have px6 : (w2).cell? ⟨w.heap.size, 6, none⟩ = some (.bool sa) := F2x.out.cell 6
  have fx6 : (w2).frozen? ⟨w.heap.size, 6, none⟩ = false := F2x.out.frozen 6
  go_wp2_with fail
  refine (great_any na na' sa A A' n c n' c' ea ea' w2 hn hn').mono ?_
  rw [HG.out]
  rintro e w3 ⟨rfl, HB3⟩
  have F3a := Lib.hid (F2a.out.belowW HB3.out)
  have F3b := Lib.hid (F2b.out.belowW HB3.out)
  have F3t := Lib.hid (F2t.out.belowW HB3.out)
  have F3m := Lib.hid (F2m.out.belowW HB3.out)
  have F3x := Lib.hid (F2x.out.belowW HB3.out)
  have HL3 := Lib.hid (HL2.out.trans (HB3.out.mono HL2.out.size))
  clear px0 fx0 px1 fx1 px2 fx2 px3 fx3 px4 fx4 px5 fx5 px6 fx6
  have px0 : (w3).cell? ⟨w.heap.size, 0, none⟩ = some (.bool na) := F3x.out.cell 0
  have fx0 : (w3).frozen? ⟨w.heap.size, 0, none⟩ = false := F3x.out.frozen 0
  have px1 : (w3).cell? ⟨w.heap.size, 1, none⟩ = some (.slice A n c) := F3x.out.cell 1
  have fx1 : (w3).frozen? ⟨w.heap.size, 1, none⟩ = false := F3x.out.frozen 1
  have px2 : (w3).cell? ⟨w.heap.size, 2, none⟩ = some (.int .i64 ea) := F3x.out.cell 2
  have fx2 : (w3).frozen? ⟨w.heap.size, 2, none⟩ = false := F3x.out.frozen 2
  have px3 : (w3).cell? ⟨w.heap.size, 3, none⟩ = some (.bool na') := F3x.out.cell 3
  have fx3 : (w3).frozen? ⟨w.heap.size, 3, none⟩ = false := F3x.out.frozen 3
  have px4 : (w3).cell? ⟨w.heap.size, 4, none⟩ = some (.slice A' n' c') := F3x.out.cell 4
  have fx4 : (w3).frozen? ⟨w.heap.size, 4, none⟩ = false := F3x.out.frozen 4
  have px5 : (w3).cell? ⟨w.heap.size, 5, none⟩ = some (.int .i64 ea') := F3x.out.cell 5
  have fx5 : (w3).frozen? ⟨w.heap.size, 5, none⟩ = false := F3x.out.frozen 5
  have px6 : (w3).cell? ⟨w.heap.size, 6, none⟩ = some (.bool sa) := F3x.out.cell 6
  have fx6 : (w3).frozen? ⟨w.heap.size, 6, none⟩ = false := F3x.out.frozen 6
  go_wp2_with fail
  refine (ivalid_any na A n c ea l na' A' n' c' ea' l' sa w3 F3a.out F3b.out).mono ?_
  rw [HV.out]
  rintro e w4 ⟨rfl, HB4⟩
  have F4a := Lib.hid (F3a.out.belowW HB4.out)
  have F4b := Lib.hid (F3b.out.belowW HB4.out)
  have F4t := Lib.hid (F3t.out.belowW HB4.out)
  have F4m := Lib.hid (F3m.out.belowW HB4.out)
  have F4x := Lib.hid (F3x.out.belowW HB4.out)
  have HL4 := Lib.hid (HL3.out.trans (HB4.out.mono HL3.out.size))
  clear px0 fx0 px1 fx1 px2 fx2 px3 fx3 px4 fx4 px5 fx5 px6 fx6
  have px0 : (w4).cell? ⟨w.heap.size, 0, none⟩ = some (.bool na) := F4x.out.cell 0
  have fx0 : (w4).frozen? ⟨w.heap.size, 0, none⟩ = false := F4x.out.frozen 0
  have px1 : (w4).cell? ⟨w.heap.size, 1, none⟩ = some (.slice A n c) := F4x.out.cell 1
  have fx1 : (w4).frozen? ⟨w.heap.size, 1, none⟩ = false := F4x.out.frozen 1
  have px2 : (w4).cell? ⟨w.heap.size, 2, none⟩ = some (.int .i64 ea) := F4x.out.cell 2
  have fx2 : (w4).frozen? ⟨w.heap.size, 2, none⟩ = false := F4x.out.frozen 2
  have px3 : (w4).cell? ⟨w.heap.size, 3, none⟩ = some (.bool na') := F4x.out.cell 3
  have fx3 : (w4).frozen? ⟨w.heap.size, 3, none⟩ = false := F4x.out.frozen 3
  have px4 : (w4).cell? ⟨w.heap.size, 4, none⟩ = some (.slice A' n' c') := F4x.out.cell 4
  have fx4 : (w4).frozen? ⟨w.heap.size, 4, none⟩ = false := F4x.out.frozen 4
  have px5 : (w4).cell? ⟨w.heap.size, 5, none⟩ = some (.int .i64 ea') := F4x.out.cell 5
  have fx5 : (w4).frozen? ⟨w.heap.size, 5, none⟩ = false := F4x.out.frozen 5
  have px6 : (w4).cell? ⟨w.heap.size, 6, none⟩ = some (.bool sa) := F4x.out.cell 6
  have fx6 : (w4).frozen? ⟨w.heap.size, 6, none⟩ = false := F4x.out.frozen 6
  by_cases hr1 : dg < 0
  case pos =>
    have r1 : decide (dg < 0) = true := decide_eq_true (by omega)
    go_wp2_with fail
    go_ret
    exact ⟨rfl, HL4⟩
  have r1 : decide (dg < 0) = false := decide_eq_false hr1
  by_cases hr2 : 50 ≤ dg
  case pos =>
    have r2 : decide (50 ≤ dg) = true := decide_eq_true (by omega)
    go_wp2_with fail
    go_ret
    exact ⟨rfl, HL4⟩
  have r2 : decide (50 ≤ dg) = false := decide_eq_false hr2
  by_cases hr3 : p < 8
  case pos =>
    have r3 : decide (p < 8) = true := decide_eq_true (by omega)
    go_wp2_with fail
    go_ret
    exact ⟨rfl, HL4⟩
  have r3 : decide (p < 8) = false := decide_eq_false hr3
  have r4 : decide (512 < p) = true := decide_eq_true (by omega)
  go_wp2_with fail
  go_ret
  exact ⟨rfl, HL4⟩

set_option maxHeartbeats 4000000 in
theorem encl_all (A : Option Addr) (c : Nat) (A' : Option Addr) (c' : Nat) (q p : Nat) (w : World) (h : Sl w A 0 c []) (h' : Sl w A' 0 c' []) (hT : RB w) (hM : MXL w) (hq : q < 50) (hp : 8 ≤ p) (hp2 : p ≤ 512) :
    Calls Tryz.prog 5 #[.agg #[.bool false, .slice A 0 c, .int .i64 0, .bool false, .slice A' 0 c', .int .i64 0, .bool true], .int .i64 q, .int .i64 p] w (Awk w) := by
  have H1 := Lib.hid h
  have H2 := Lib.hid h'
  have HT := Lib.hid hT
  have HM := Lib.hid hM
  have HV := Lib.hid vldIB_zero
  have z1 : (0 : Nat) ≤ maxLen := Nat.zero_le _
  have HG := Lib.hid (show (decide (40 < 0) || decide (40 < 0)) = false from rfl)
  have HZ := Lib.hid (show limbs zD.k = [] from limbs_zero)
  have HVZ := Lib.hid (show vld zD from vld_zero)
  have HTZ := Lib.hid (show topB zD = 0 from rfl)
  have HP := Lib.hid (show parR [97, 108, 108] (p : Int) = ((zD, zD, true), 0) by unfold parR; rw [if_pos rfl, if_neg (by omega)])
  obtain ⟨q2, hq2⟩ : ∃ q2 : Nat, q2 = q + 1 := ⟨_, rfl⟩
  have hqs : (q : Int) + 1 = (q2 : Int) := by omega
  have hqw : IntKind.i64.wrap ((q : Int) + 1) = (q2 : Int) := by rw [hqs]; exact IntWalk.i64_in _ (by omega)
  have hqw2 : IntKind.i64.wrap (q2 : Int) = (q2 : Int) := IntWalk.i64_in _ (by omega)
  have hq50 : q ≤ 50 := by omega
  have hq51 : q2 ≤ 50 := by omega
  have r1 : decide ((q : Int) < 0) = false := decide_eq_false (by omega)
  have r2 : decide ((50 : Int) ≤ (q : Int)) = false := decide_eq_false (by omega)
  have r3 : decide ((p : Int) < 8) = false := decide_eq_false (by omega)
  have r4 : decide ((512 : Int) < (p : Int)) = false := decide_eq_false (by omega)
  clear h h' hT hM hq2
  go_enter Tryz.func5, Tryz.ntmps5
  go_wp2_with fail
  obtain ⟨w1, hw⟩ : ∃ z9 : World, z9 = (w.alloc (.cells #[.bool false, .slice A 0 c, .int .i64 0, .bool false, .slice A' 0 c', .int .i64 0, .bool true] 27)) := ⟨_, rfl⟩
  have HB1 := Lib.hid (show Below w.heap.size w w1 by rw [hw]; exact below_a1 _ _)
  have F1a := Lib.hid (H1.out.belowW HB1.out)
  have F1b := Lib.hid (H2.out.belowW HB1.out)
  have F1t := Lib.hid (HT.out.belowW HB1.out)
  have F1m := Lib.hid (HM.out.belowW HB1.out)
  have F1x := Lib.hid (show Blk w1 (w.heap.size) 27 #[.bool false, .slice A 0 c, .int .i64 0, .bool false, .slice A' 0 c', .int .i64 0, .bool true] by rw [hw]; exact Blk.new _ _ _)
  rw [← hw]
  clear hw
  refine (dAwake_any w1 F1t.out F1m.out).mono ?_
  rintro e w2 ⟨rfl, HB2⟩
  have F2a := Lib.hid (F1a.out.belowW HB2.out)
  have F2b := Lib.hid (F1b.out.belowW HB2.out)
  have F2t := Lib.hid (F1t.out.belowW HB2.out)
  have F2m := Lib.hid (F1m.out.belowW HB2.out)
  have F2x := Lib.hid (F1x.out.belowW HB2.out)
  have HL2 := Lib.hid (HB1.out.trans (HB2.out.mono HB1.out.size))
  have px0 : (w2).cell? ⟨w.heap.size, 0, none⟩ = some (.bool false) := F2x.out.cell 0
  have fx0 : (w2).frozen? ⟨w.heap.size, 0, none⟩ = false := F2x.out.frozen 0
  have px1 : (w2).cell? ⟨w.heap.size, 1, none⟩ = some (.slice A 0 c) := F2x.out.cell 1
  have fx1 : (w2).frozen? ⟨w.heap.size, 1, none⟩ = false := F2x.out.frozen 1
  have px2 : (w2).cell? ⟨w.heap.size, 2, none⟩ = some (.int .i64 0) := F2x.out.cell 2
  have fx2 : (w2).frozen? ⟨w.heap.size, 2, none⟩ = false := F2x.out.frozen 2
  have px3 : (w2).cell? ⟨w.heap.size, 3, none⟩ = some (.bool false) := F2x.out.cell 3
  have fx3 : (w2).frozen? ⟨w.heap.size, 3, none⟩ = false := F2x.out.frozen 3
  have px4 : (w2).cell? ⟨w.heap.size, 4, none⟩ = some (.slice A' 0 c') := F2x.out.cell 4
  have fx4 : (w2).frozen? ⟨w.heap.size, 4, none⟩ = false := F2x.out.frozen 4
  have px5 : (w2).cell? ⟨w.heap.size, 5, none⟩ = some (.int .i64 0) := F2x.out.cell 5
  have fx5 : (w2).frozen? ⟨w.heap.size, 5, none⟩ = false := F2x.out.frozen 5
  have px6 : (w2).cell? ⟨w.heap.size, 6, none⟩ = some (.bool true) := F2x.out.cell 6
  have fx6 : (w2).frozen? ⟨w.heap.size, 6, none⟩ = false := F2x.out.frozen 6
  go_wp2_with fail
  refine (great_any false false true A A' 0 c 0 c' 0 0 w2 z1 z1).mono ?_
  rw [HG.out]
  rintro e w3 ⟨rfl, HB3⟩
  have F3a := Lib.hid (F2a.out.belowW HB3.out)
  have F3b := Lib.hid (F2b.out.belowW HB3.out)
  have F3t := Lib.hid (F2t.out.belowW HB3.out)
  have F3m := Lib.hid (F2m.out.belowW HB3.out)
  have F3x := Lib.hid (F2x.out.belowW HB3.out)
  have HL3 := Lib.hid (HL2.out.trans (HB3.out.mono HL2.out.size))
  clear px0 fx0 px1 fx1 px2 fx2 px3 fx3 px4 fx4 px5 fx5 px6 fx6
  have px0 : (w3).cell? ⟨w.heap.size, 0, none⟩ = some (.bool false) := F3x.out.cell 0
  have fx0 : (w3).frozen? ⟨w.heap.size, 0, none⟩ = false := F3x.out.frozen 0
  have px1 : (w3).cell? ⟨w.heap.size, 1, none⟩ = some (.slice A 0 c) := F3x.out.cell 1
  have fx1 : (w3).frozen? ⟨w.heap.size, 1, none⟩ = false := F3x.out.frozen 1
  have px2 : (w3).cell? ⟨w.heap.size, 2, none⟩ = some (.int .i64 0) := F3x.out.cell 2
  have fx2 : (w3).frozen? ⟨w.heap.size, 2, none⟩ = false := F3x.out.frozen 2
  have px3 : (w3).cell? ⟨w.heap.size, 3, none⟩ = some (.bool false) := F3x.out.cell 3
  have fx3 : (w3).frozen? ⟨w.heap.size, 3, none⟩ = false := F3x.out.frozen 3
  have px4 : (w3).cell? ⟨w.heap.size, 4, none⟩ = some (.slice A' 0 c') := F3x.out.cell 4
  have fx4 : (w3).frozen? ⟨w.heap.size, 4, none⟩ = false := F3x.out.frozen 4
  have px5 : (w3).cell? ⟨w.heap.size, 5, none⟩ = some (.int .i64 0) := F3x.out.cell 5
  have fx5 : (w3).frozen? ⟨w.heap.size, 5, none⟩ = false := F3x.out.frozen 5
  have px6 : (w3).cell? ⟨w.heap.size, 6, none⟩ = some (.bool true) := F3x.out.cell 6
  have fx6 : (w3).frozen? ⟨w.heap.size, 6, none⟩ = false := F3x.out.frozen 6
  go_wp2_with fail
  refine (ivalid_any false A 0 c 0 [] false A' 0 c' 0 [] true w3 F3a.out F3b.out).mono ?_
  rw [HV.out]
  rintro e w4 ⟨rfl, HB4⟩
  have F4a := Lib.hid (F3a.out.belowW HB4.out)
  have F4b := Lib.hid (F3b.out.belowW HB4.out)
  have F4t := Lib.hid (F3t.out.belowW HB4.out)
  have F4m := Lib.hid (F3m.out.belowW HB4.out)
  have F4x := Lib.hid (F3x.out.belowW HB4.out)
  have HL4 := Lib.hid (HL3.out.trans (HB4.out.mono HL3.out.size))
  clear px0 fx0 px1 fx1 px2 fx2 px3 fx3 px4 fx4 px5 fx5 px6 fx6
  have px0 : (w4).cell? ⟨w.heap.size, 0, none⟩ = some (.bool false) := F4x.out.cell 0
  have fx0 : (w4).frozen? ⟨w.heap.size, 0, none⟩ = false := F4x.out.frozen 0
  have px1 : (w4).cell? ⟨w.heap.size, 1, none⟩ = some (.slice A 0 c) := F4x.out.cell 1
  have fx1 : (w4).frozen? ⟨w.heap.size, 1, none⟩ = false := F4x.out.frozen 1
  have px2 : (w4).cell? ⟨w.heap.size, 2, none⟩ = some (.int .i64 0) := F4x.out.cell 2
  have fx2 : (w4).frozen? ⟨w.heap.size, 2, none⟩ = false := F4x.out.frozen 2
  have px3 : (w4).cell? ⟨w.heap.size, 3, none⟩ = some (.bool false) := F4x.out.cell 3
  have fx3 : (w4).frozen? ⟨w.heap.size, 3, none⟩ = false := F4x.out.frozen 3
  have px4 : (w4).cell? ⟨w.heap.size, 4, none⟩ = some (.slice A' 0 c') := F4x.out.cell 4
  have fx4 : (w4).frozen? ⟨w.heap.size, 4, none⟩ = false := F4x.out.frozen 4
  have px5 : (w4).cell? ⟨w.heap.size, 5, none⟩ = some (.int .i64 0) := F4x.out.cell 5
  have fx5 : (w4).frozen? ⟨w.heap.size, 5, none⟩ = false := F4x.out.frozen 5
  have px6 : (w4).cell? ⟨w.heap.size, 6, none⟩ = some (.bool true) := F4x.out.cell 6
  have fx6 : (w4).frozen? ⟨w.heap.size, 6, none⟩ = false := F4x.out.frozen 6
  go_wp2_with fail
  refine (dtop_any zD A 0 c w4 (HZ.out ▸ F4a.out) HVZ.out).mono ?_
  rw [HTZ.out]
  rintro e w5 ⟨rfl, HB5⟩
  have F5a := Lib.hid (F4a.out.belowW HB5.out)
  have F5b := Lib.hid (F4b.out.belowW HB5.out)
  have F5t := Lib.hid (F4t.out.belowW HB5.out)
  have F5m := Lib.hid (F4m.out.belowW HB5.out)
  have F5x := Lib.hid (F4x.out.belowW HB5.out)
  have HL5 := Lib.hid (HL4.out.trans (HB5.out.mono HL4.out.size))
  clear px0 fx0 px1 fx1 px2 fx2 px3 fx3 px4 fx4 px5 fx5 px6 fx6
  have px0 : (w5).cell? ⟨w.heap.size, 0, none⟩ = some (.bool false) := F5x.out.cell 0
  have fx0 : (w5).frozen? ⟨w.heap.size, 0, none⟩ = false := F5x.out.frozen 0
  have px1 : (w5).cell? ⟨w.heap.size, 1, none⟩ = some (.slice A 0 c) := F5x.out.cell 1
  have fx1 : (w5).frozen? ⟨w.heap.size, 1, none⟩ = false := F5x.out.frozen 1
  have px2 : (w5).cell? ⟨w.heap.size, 2, none⟩ = some (.int .i64 0) := F5x.out.cell 2
  have fx2 : (w5).frozen? ⟨w.heap.size, 2, none⟩ = false := F5x.out.frozen 2
  have px3 : (w5).cell? ⟨w.heap.size, 3, none⟩ = some (.bool false) := F5x.out.cell 3
  have fx3 : (w5).frozen? ⟨w.heap.size, 3, none⟩ = false := F5x.out.frozen 3
  have px4 : (w5).cell? ⟨w.heap.size, 4, none⟩ = some (.slice A' 0 c') := F5x.out.cell 4
  have fx4 : (w5).frozen? ⟨w.heap.size, 4, none⟩ = false := F5x.out.frozen 4
  have px5 : (w5).cell? ⟨w.heap.size, 5, none⟩ = some (.int .i64 0) := F5x.out.cell 5
  have fx5 : (w5).frozen? ⟨w.heap.size, 5, none⟩ = false := F5x.out.frozen 5
  have px6 : (w5).cell? ⟨w.heap.size, 6, none⟩ = some (.bool true) := F5x.out.cell 6
  have fx6 : (w5).frozen? ⟨w.heap.size, 6, none⟩ = false := F5x.out.frozen 6
  go_wp2_with fail
  refine (dtop_any zD A' 0 c' w5 (HZ.out ▸ F5b.out) HVZ.out).mono ?_
  rw [HTZ.out]
  rintro e w6 ⟨rfl, HB6⟩
  have F6a := Lib.hid (F5a.out.belowW HB6.out)
  have F6b := Lib.hid (F5b.out.belowW HB6.out)
  have F6t := Lib.hid (F5t.out.belowW HB6.out)
  have F6m := Lib.hid (F5m.out.belowW HB6.out)
  have F6x := Lib.hid (F5x.out.belowW HB6.out)
  have HL6 := Lib.hid (HL5.out.trans (HB6.out.mono HL5.out.size))
  clear px0 fx0 px1 fx1 px2 fx2 px3 fx3 px4 fx4 px5 fx5 px6 fx6
  have px0 : (w6).cell? ⟨w.heap.size, 0, none⟩ = some (.bool false) := F6x.out.cell 0
  have fx0 : (w6).frozen? ⟨w.heap.size, 0, none⟩ = false := F6x.out.frozen 0
  have px1 : (w6).cell? ⟨w.heap.size, 1, none⟩ = some (.slice A 0 c) := F6x.out.cell 1
  have fx1 : (w6).frozen? ⟨w.heap.size, 1, none⟩ = false := F6x.out.frozen 1
  have px2 : (w6).cell? ⟨w.heap.size, 2, none⟩ = some (.int .i64 0) := F6x.out.cell 2
  have fx2 : (w6).frozen? ⟨w.heap.size, 2, none⟩ = false := F6x.out.frozen 2
  have px3 : (w6).cell? ⟨w.heap.size, 3, none⟩ = some (.bool false) := F6x.out.cell 3
  have fx3 : (w6).frozen? ⟨w.heap.size, 3, none⟩ = false := F6x.out.frozen 3
  have px4 : (w6).cell? ⟨w.heap.size, 4, none⟩ = some (.slice A' 0 c') := F6x.out.cell 4
  have fx4 : (w6).frozen? ⟨w.heap.size, 4, none⟩ = false := F6x.out.frozen 4
  have px5 : (w6).cell? ⟨w.heap.size, 5, none⟩ = some (.int .i64 0) := F6x.out.cell 5
  have fx5 : (w6).frozen? ⟨w.heap.size, 5, none⟩ = false := F6x.out.frozen 5
  have px6 : (w6).cell? ⟨w.heap.size, 6, none⟩ = some (.bool true) := F6x.out.cell 6
  have fx6 : (w6).frozen? ⟨w.heap.size, 6, none⟩ = false := F6x.out.frozen 6
  go_wp2_with fail
  refine (dText_all A A' c c' q w6 F6a.out F6b.out hq50).mono ?_
  rintro e w7 ⟨rfl, HB7⟩
  have F7a := Lib.hid (F6a.out.belowW HB7.out)
  have F7b := Lib.hid (F6b.out.belowW HB7.out)
  have F7t := Lib.hid (F6t.out.belowW HB7.out)
  have F7m := Lib.hid (F6m.out.belowW HB7.out)
  have F7x := Lib.hid (F6x.out.belowW HB7.out)
  have HL7 := Lib.hid (HL6.out.trans (HB7.out.mono HL6.out.size))
  go_wp2_with fail
  refine (parse_whole p w7 hp hp2).mono ?_
  rintro e w8 ⟨U, U', u, u', rfl, HU, HV', HB8⟩
  have F8a := Lib.hid (F7a.out.belowW HB8.out)
  have F8b := Lib.hid (F7b.out.belowW HB8.out)
  have F8t := Lib.hid (F7t.out.belowW HB8.out)
  have F8m := Lib.hid (F7m.out.belowW HB8.out)
  have F8x := Lib.hid (F7x.out.belowW HB8.out)
  have HL8 := Lib.hid (HL7.out.trans (HB8.out.mono HL7.out.size))
  have F8u := Lib.hid (HU.out)
  have F8v := Lib.hid (HV'.out)
  clear px0 fx0 px1 fx1 px2 fx2 px3 fx3 px4 fx4 px5 fx5 px6 fx6
  go_upto_region 6 with (fail)
  obtain ⟨w9, hw⟩ : ∃ z9 : World, z9 = w8.alloc (.cells #[.bool false, .slice U 0 u, .int .i64 0, .bool false, .slice U' 0 u', .int .i64 0, .bool true] 27) := ⟨_, rfl⟩
  have HB9 := Lib.hid (show Below w8.heap.size w8 w9 by rw [hw]; exact below_a1 _ _)
  have F9y := Lib.hid (show Blk w9 w8.heap.size 27 #[.bool false, .slice U 0 u, .int .i64 0, .bool false, .slice U' 0 u', .int .i64 0, .bool true] by rw [hw]; exact Blk.new _ _ _)
  rw [← hw]
  clear hw
  have F9a := Lib.hid (F8a.out.belowW HB9.out)
  have F9b := Lib.hid (F8b.out.belowW HB9.out)
  have F9t := Lib.hid (F8t.out.belowW HB9.out)
  have F9m := Lib.hid (F8m.out.belowW HB9.out)
  have F9x := Lib.hid (F8x.out.belowW HB9.out)
  have F9u := Lib.hid (F8u.out.belowW HB9.out)
  have F9v := Lib.hid (F8v.out.belowW HB9.out)
  have HL9 := Lib.hid (HL8.out.trans (HB9.out.mono HL8.out.size))
  have px0 : (w9).cell? ⟨w.heap.size, 0, none⟩ = some (.bool false) := F9x.out.cell 0
  have fx0 : (w9).frozen? ⟨w.heap.size, 0, none⟩ = false := F9x.out.frozen 0
  have px1 : (w9).cell? ⟨w.heap.size, 1, none⟩ = some (.slice A 0 c) := F9x.out.cell 1
  have fx1 : (w9).frozen? ⟨w.heap.size, 1, none⟩ = false := F9x.out.frozen 1
  have px2 : (w9).cell? ⟨w.heap.size, 2, none⟩ = some (.int .i64 0) := F9x.out.cell 2
  have fx2 : (w9).frozen? ⟨w.heap.size, 2, none⟩ = false := F9x.out.frozen 2
  have px3 : (w9).cell? ⟨w.heap.size, 3, none⟩ = some (.bool false) := F9x.out.cell 3
  have fx3 : (w9).frozen? ⟨w.heap.size, 3, none⟩ = false := F9x.out.frozen 3
  have px4 : (w9).cell? ⟨w.heap.size, 4, none⟩ = some (.slice A' 0 c') := F9x.out.cell 4
  have fx4 : (w9).frozen? ⟨w.heap.size, 4, none⟩ = false := F9x.out.frozen 4
  have px5 : (w9).cell? ⟨w.heap.size, 5, none⟩ = some (.int .i64 0) := F9x.out.cell 5
  have fx5 : (w9).frozen? ⟨w.heap.size, 5, none⟩ = false := F9x.out.frozen 5
  have px6 : (w9).cell? ⟨w.heap.size, 6, none⟩ = some (.bool true) := F9x.out.cell 6
  have fx6 : (w9).frozen? ⟨w.heap.size, 6, none⟩ = false := F9x.out.frozen 6
  go_wp2_with fail
  refine (dText_all A A' c c' q2 w9 F9a.out F9b.out hq51).mono ?_
  rintro e w10 ⟨rfl, HB10⟩
  have F10a := Lib.hid (F9a.out.belowW HB10.out)
  have F10b := Lib.hid (F9b.out.belowW HB10.out)
  have F10t := Lib.hid (F9t.out.belowW HB10.out)
  have F10m := Lib.hid (F9m.out.belowW HB10.out)
  have F10x := Lib.hid (F9x.out.belowW HB10.out)
  have F10u := Lib.hid (F9u.out.belowW HB10.out)
  have F10v := Lib.hid (F9v.out.belowW HB10.out)
  have F10y := Lib.hid (F9y.out.belowW HB10.out)
  have HL10 := Lib.hid (HL9.out.trans (HB10.out.mono HL9.out.size))
  go_wp2_with fail
  refine (parse_whole p w10 hp hp2).mono ?_
  rintro e w11 ⟨V, V', v, v', rfl, HW, HX', HB11⟩
  have F11a := Lib.hid (F10a.out.belowW HB11.out)
  have F11b := Lib.hid (F10b.out.belowW HB11.out)
  have F11t := Lib.hid (F10t.out.belowW HB11.out)
  have F11m := Lib.hid (F10m.out.belowW HB11.out)
  have F11x := Lib.hid (F10x.out.belowW HB11.out)
  have F11u := Lib.hid (F10u.out.belowW HB11.out)
  have F11v := Lib.hid (F10v.out.belowW HB11.out)
  have F11y := Lib.hid (F10y.out.belowW HB11.out)
  have HL11 := Lib.hid (HL10.out.trans (HB11.out.mono HL10.out.size))
  have F11p := Lib.hid (HW.out)
  have F11q := Lib.hid (HX'.out)
  clear px0 fx0 px1 fx1 px2 fx2 px3 fx3 px4 fx4 px5 fx5 px6 fx6
  go_upto_region 7 with (fail)
  obtain ⟨w12, hw⟩ : ∃ z9 : World, z9 = w11.alloc (.cells #[.bool false, .slice V 0 v, .int .i64 0, .bool false, .slice V' 0 v', .int .i64 0, .bool true] 27) := ⟨_, rfl⟩
  have HB12 := Lib.hid (show Below w11.heap.size w11 w12 by rw [hw]; exact below_a1 _ _)
  have F12z := Lib.hid (show Blk w12 w11.heap.size 27 #[.bool false, .slice V 0 v, .int .i64 0, .bool false, .slice V' 0 v', .int .i64 0, .bool true] by rw [hw]; exact Blk.new _ _ _)
  rw [← hw]
  clear hw
  have F12a := Lib.hid (F11a.out.belowW HB12.out)
  have F12b := Lib.hid (F11b.out.belowW HB12.out)
  have F12t := Lib.hid (F11t.out.belowW HB12.out)
  have F12m := Lib.hid (F11m.out.belowW HB12.out)
  have F12x := Lib.hid (F11x.out.belowW HB12.out)
  have F12u := Lib.hid (F11u.out.belowW HB12.out)
  have F12v := Lib.hid (F11v.out.belowW HB12.out)
  have F12y := Lib.hid (F11y.out.belowW HB12.out)
  have F12p := Lib.hid (F11p.out.belowW HB12.out)
  have F12q := Lib.hid (F11q.out.belowW HB12.out)
  have HL12 := Lib.hid (HL11.out.trans (HB12.out.mono HL11.out.size))
  have px0 : (w12).cell? ⟨w.heap.size, 0, none⟩ = some (.bool false) := F12x.out.cell 0
  have fx0 : (w12).frozen? ⟨w.heap.size, 0, none⟩ = false := F12x.out.frozen 0
  have px1 : (w12).cell? ⟨w.heap.size, 1, none⟩ = some (.slice A 0 c) := F12x.out.cell 1
  have fx1 : (w12).frozen? ⟨w.heap.size, 1, none⟩ = false := F12x.out.frozen 1
  have px2 : (w12).cell? ⟨w.heap.size, 2, none⟩ = some (.int .i64 0) := F12x.out.cell 2
  have fx2 : (w12).frozen? ⟨w.heap.size, 2, none⟩ = false := F12x.out.frozen 2
  have px3 : (w12).cell? ⟨w.heap.size, 3, none⟩ = some (.bool false) := F12x.out.cell 3
  have fx3 : (w12).frozen? ⟨w.heap.size, 3, none⟩ = false := F12x.out.frozen 3
  have px4 : (w12).cell? ⟨w.heap.size, 4, none⟩ = some (.slice A' 0 c') := F12x.out.cell 4
  have fx4 : (w12).frozen? ⟨w.heap.size, 4, none⟩ = false := F12x.out.frozen 4
  have px5 : (w12).cell? ⟨w.heap.size, 5, none⟩ = some (.int .i64 0) := F12x.out.cell 5
  have fx5 : (w12).frozen? ⟨w.heap.size, 5, none⟩ = false := F12x.out.frozen 5
  have px6 : (w12).cell? ⟨w.heap.size, 6, none⟩ = some (.bool true) := F12x.out.cell 6
  have fx6 : (w12).frozen? ⟨w.heap.size, 6, none⟩ = false := F12x.out.frozen 6
  have py0 : (w12).cell? ⟨w8.heap.size, 0, none⟩ = some (.bool false) := F12y.out.cell 0
  have fy0 : (w12).frozen? ⟨w8.heap.size, 0, none⟩ = false := F12y.out.frozen 0
  have py1 : (w12).cell? ⟨w8.heap.size, 1, none⟩ = some (.slice U 0 u) := F12y.out.cell 1
  have fy1 : (w12).frozen? ⟨w8.heap.size, 1, none⟩ = false := F12y.out.frozen 1
  have py2 : (w12).cell? ⟨w8.heap.size, 2, none⟩ = some (.int .i64 0) := F12y.out.cell 2
  have fy2 : (w12).frozen? ⟨w8.heap.size, 2, none⟩ = false := F12y.out.frozen 2
  have py3 : (w12).cell? ⟨w8.heap.size, 3, none⟩ = some (.bool false) := F12y.out.cell 3
  have fy3 : (w12).frozen? ⟨w8.heap.size, 3, none⟩ = false := F12y.out.frozen 3
  have py4 : (w12).cell? ⟨w8.heap.size, 4, none⟩ = some (.slice U' 0 u') := F12y.out.cell 4
  have fy4 : (w12).frozen? ⟨w8.heap.size, 4, none⟩ = false := F12y.out.frozen 4
  have py5 : (w12).cell? ⟨w8.heap.size, 5, none⟩ = some (.int .i64 0) := F12y.out.cell 5
  have fy5 : (w12).frozen? ⟨w8.heap.size, 5, none⟩ = false := F12y.out.frozen 5
  have py6 : (w12).cell? ⟨w8.heap.size, 6, none⟩ = some (.bool true) := F12y.out.cell 6
  have fy6 : (w12).frozen? ⟨w8.heap.size, 6, none⟩ = false := F12y.out.frozen 6
  go_wp2_with fail
  refine (inside_all A A' U U' c c' u u' w12 F12a.out F12b.out F12u.out F12v.out).mono ?_
  rintro e w13 ⟨rfl, HB13⟩
  have F13a := Lib.hid (F12a.out.belowW HB13.out)
  have F13b := Lib.hid (F12b.out.belowW HB13.out)
  have F13t := Lib.hid (F12t.out.belowW HB13.out)
  have F13m := Lib.hid (F12m.out.belowW HB13.out)
  have F13x := Lib.hid (F12x.out.belowW HB13.out)
  have F13u := Lib.hid (F12u.out.belowW HB13.out)
  have F13v := Lib.hid (F12v.out.belowW HB13.out)
  have F13y := Lib.hid (F12y.out.belowW HB13.out)
  have F13p := Lib.hid (F12p.out.belowW HB13.out)
  have F13q := Lib.hid (F12q.out.belowW HB13.out)
  have F13z := Lib.hid (F12z.out.belowW HB13.out)
  have HL13 := Lib.hid (HL12.out.trans (HB13.out.mono HL12.out.size))
  clear px0 fx0 px1 fx1 px2 fx2 px3 fx3 px4 fx4 px5 fx5 px6 fx6 py0 fy0 py1 fy1 py2 fy2 py3 fy3 py4 fy4 py5 fy5 py6 fy6
  have py0 : (w13).cell? ⟨w8.heap.size, 0, none⟩ = some (.bool false) := F13y.out.cell 0
  have fy0 : (w13).frozen? ⟨w8.heap.size, 0, none⟩ = false := F13y.out.frozen 0
  have py1 : (w13).cell? ⟨w8.heap.size, 1, none⟩ = some (.slice U 0 u) := F13y.out.cell 1
  have fy1 : (w13).frozen? ⟨w8.heap.size, 1, none⟩ = false := F13y.out.frozen 1
  have py2 : (w13).cell? ⟨w8.heap.size, 2, none⟩ = some (.int .i64 0) := F13y.out.cell 2
  have fy2 : (w13).frozen? ⟨w8.heap.size, 2, none⟩ = false := F13y.out.frozen 2
  have py3 : (w13).cell? ⟨w8.heap.size, 3, none⟩ = some (.bool false) := F13y.out.cell 3
  have fy3 : (w13).frozen? ⟨w8.heap.size, 3, none⟩ = false := F13y.out.frozen 3
  have py4 : (w13).cell? ⟨w8.heap.size, 4, none⟩ = some (.slice U' 0 u') := F13y.out.cell 4
  have fy4 : (w13).frozen? ⟨w8.heap.size, 4, none⟩ = false := F13y.out.frozen 4
  have py5 : (w13).cell? ⟨w8.heap.size, 5, none⟩ = some (.int .i64 0) := F13y.out.cell 5
  have fy5 : (w13).frozen? ⟨w8.heap.size, 5, none⟩ = false := F13y.out.frozen 5
  have py6 : (w13).cell? ⟨w8.heap.size, 6, none⟩ = some (.bool true) := F13y.out.cell 6
  have fy6 : (w13).frozen? ⟨w8.heap.size, 6, none⟩ = false := F13y.out.frozen 6
  have pz0 : (w13).cell? ⟨w11.heap.size, 0, none⟩ = some (.bool false) := F13z.out.cell 0
  have fz0 : (w13).frozen? ⟨w11.heap.size, 0, none⟩ = false := F13z.out.frozen 0
  have pz1 : (w13).cell? ⟨w11.heap.size, 1, none⟩ = some (.slice V 0 v) := F13z.out.cell 1
  have fz1 : (w13).frozen? ⟨w11.heap.size, 1, none⟩ = false := F13z.out.frozen 1
  have pz2 : (w13).cell? ⟨w11.heap.size, 2, none⟩ = some (.int .i64 0) := F13z.out.cell 2
  have fz2 : (w13).frozen? ⟨w11.heap.size, 2, none⟩ = false := F13z.out.frozen 2
  have pz3 : (w13).cell? ⟨w11.heap.size, 3, none⟩ = some (.bool false) := F13z.out.cell 3
  have fz3 : (w13).frozen? ⟨w11.heap.size, 3, none⟩ = false := F13z.out.frozen 3
  have pz4 : (w13).cell? ⟨w11.heap.size, 4, none⟩ = some (.slice V' 0 v') := F13z.out.cell 4
  have fz4 : (w13).frozen? ⟨w11.heap.size, 4, none⟩ = false := F13z.out.frozen 4
  have pz5 : (w13).cell? ⟨w11.heap.size, 5, none⟩ = some (.int .i64 0) := F13z.out.cell 5
  have fz5 : (w13).frozen? ⟨w11.heap.size, 5, none⟩ = false := F13z.out.frozen 5
  have pz6 : (w13).cell? ⟨w11.heap.size, 6, none⟩ = some (.bool true) := F13z.out.cell 6
  have fz6 : (w13).frozen? ⟨w11.heap.size, 6, none⟩ = false := F13z.out.frozen 6
  go_wp2_with fail
  refine (inside_all V V' U U' v v' u u' w13 F13p.out F13q.out F13u.out F13v.out).mono ?_
  rintro e w14 ⟨rfl, HB14⟩
  have F14a := Lib.hid (F13a.out.belowW HB14.out)
  have F14b := Lib.hid (F13b.out.belowW HB14.out)
  have F14t := Lib.hid (F13t.out.belowW HB14.out)
  have F14m := Lib.hid (F13m.out.belowW HB14.out)
  have F14x := Lib.hid (F13x.out.belowW HB14.out)
  have F14u := Lib.hid (F13u.out.belowW HB14.out)
  have F14v := Lib.hid (F13v.out.belowW HB14.out)
  have F14y := Lib.hid (F13y.out.belowW HB14.out)
  have F14p := Lib.hid (F13p.out.belowW HB14.out)
  have F14q := Lib.hid (F13q.out.belowW HB14.out)
  have F14z := Lib.hid (F13z.out.belowW HB14.out)
  have HL14 := Lib.hid (HL13.out.trans (HB14.out.mono HL13.out.size))
  go_wp2_with fail
  go_ret
  exact ⟨rfl, HL14⟩

set_option maxHeartbeats 4000000 in
theorem encl_high (x x' : D) (A : Option Addr) (n c : Nat) (A' : Option Addr) (n' c' : Nat) (q p : Nat) (w : World) (h : Sl w A n c (limbs x.k)) (h' : Sl w A' n' c' (limbs x'.k)) (hT : RB w) (hM : MXL w) (vx : vld x) (vx' : vld x') (hc : cmpD x x' ≤ 0) (hq : q < 50) (hp : 8 ≤ p) (hp2 : p ≤ 512) (hg : (decide (40 < n) || decide (40 < n')) = false) (ht : 400 < topB x ∨ 400 < topB x') : Calls Tryz.prog 5 #[.agg #[.bool x.neg, .slice A n c, .int .i64 x.e, .bool x'.neg, .slice A' n' c', .int .i64 x'.e, .bool false], .int .i64 q, .int .i64 p] w (Awk w) := by
  have H1 := Lib.hid h
  have H2 := Lib.hid h'
  have HT := Lib.hid hT
  have HM := Lib.hid hM
  have VX := Lib.hid vx
  have VX' := Lib.hid vx'
  have hn := h.max
  have hn' := h'.max
  have HV := Lib.hid (vldIB_of vx vx' hc)
  have HC := Lib.hid hc
  have HG := Lib.hid hg
  have r1 : decide ((q : Int) < 0) = false := decide_eq_false (by omega)
  have r2 : decide ((50 : Int) ≤ (q : Int)) = false := decide_eq_false (by omega)
  have r3 : decide ((p : Int) < 8) = false := decide_eq_false (by omega)
  have r4 : decide ((512 : Int) < (p : Int)) = false := decide_eq_false (by omega)
  obtain ⟨t1, ht1⟩ : ∃ t, topB x = t := ⟨_, rfl⟩
  obtain ⟨t2, ht2⟩ : ∃ t, topB x' = t := ⟨_, rfl⟩
  have HTX := Lib.hid ht1
  have HTY := Lib.hid ht2
  rw [ht1, ht2] at ht
  clear h h' hT hM hg vx vx' hc ht1 ht2
  go_enter Tryz.func5, Tryz.ntmps5
  go_wp2_with fail
  obtain ⟨w1, hw⟩ : ∃ z9 : World, z9 = (w.alloc (.cells #[.bool x.neg, .slice A n c, .int .i64 x.e, .bool x'.neg, .slice A' n' c', .int .i64 x'.e, .bool false] 27)) := ⟨_, rfl⟩
  have HB1 := Lib.hid (show Below w.heap.size w w1 by rw [hw]; exact below_a1 _ _)
  have F1a := Lib.hid (H1.out.belowW HB1.out)
  have F1b := Lib.hid (H2.out.belowW HB1.out)
  have F1t := Lib.hid (HT.out.belowW HB1.out)
  have F1m := Lib.hid (HM.out.belowW HB1.out)
  have F1x := Lib.hid (show Blk w1 (w.heap.size) 27 #[.bool x.neg, .slice A n c, .int .i64 x.e, .bool x'.neg, .slice A' n' c', .int .i64 x'.e, .bool false] by rw [hw]; exact Blk.new _ _ _)
  rw [← hw]
  clear hw
  refine (dAwake_any w1 F1t.out F1m.out).mono ?_
  rintro e w2 ⟨rfl, HB2⟩
  have F2a := Lib.hid (F1a.out.belowW HB2.out)
  have F2b := Lib.hid (F1b.out.belowW HB2.out)
  have F2t := Lib.hid (F1t.out.belowW HB2.out)
  have F2m := Lib.hid (F1m.out.belowW HB2.out)
  have F2x := Lib.hid (F1x.out.belowW HB2.out)
  have HL2 := Lib.hid (HB1.out.trans (HB2.out.mono HB1.out.size))
  have px0 : (w2).cell? ⟨w.heap.size, 0, none⟩ = some (.bool x.neg) := F2x.out.cell 0
  have fx0 : (w2).frozen? ⟨w.heap.size, 0, none⟩ = false := F2x.out.frozen 0
  have px1 : (w2).cell? ⟨w.heap.size, 1, none⟩ = some (.slice A n c) := F2x.out.cell 1
  have fx1 : (w2).frozen? ⟨w.heap.size, 1, none⟩ = false := F2x.out.frozen 1
  have px2 : (w2).cell? ⟨w.heap.size, 2, none⟩ = some (.int .i64 x.e) := F2x.out.cell 2
  have fx2 : (w2).frozen? ⟨w.heap.size, 2, none⟩ = false := F2x.out.frozen 2
  have px3 : (w2).cell? ⟨w.heap.size, 3, none⟩ = some (.bool x'.neg) := F2x.out.cell 3
  have fx3 : (w2).frozen? ⟨w.heap.size, 3, none⟩ = false := F2x.out.frozen 3
  have px4 : (w2).cell? ⟨w.heap.size, 4, none⟩ = some (.slice A' n' c') := F2x.out.cell 4
  have fx4 : (w2).frozen? ⟨w.heap.size, 4, none⟩ = false := F2x.out.frozen 4
  have px5 : (w2).cell? ⟨w.heap.size, 5, none⟩ = some (.int .i64 x'.e) := F2x.out.cell 5
  have fx5 : (w2).frozen? ⟨w.heap.size, 5, none⟩ = false := F2x.out.frozen 5
  have px6 : (w2).cell? ⟨w.heap.size, 6, none⟩ = some (.bool false) := F2x.out.cell 6
  have fx6 : (w2).frozen? ⟨w.heap.size, 6, none⟩ = false := F2x.out.frozen 6
  go_wp2_with fail
  refine (great_any x.neg x'.neg false A A' n c n' c' x.e x'.e w2 hn hn').mono ?_
  rw [HG.out]
  rintro e w3 ⟨rfl, HB3⟩
  have F3a := Lib.hid (F2a.out.belowW HB3.out)
  have F3b := Lib.hid (F2b.out.belowW HB3.out)
  have F3t := Lib.hid (F2t.out.belowW HB3.out)
  have F3m := Lib.hid (F2m.out.belowW HB3.out)
  have F3x := Lib.hid (F2x.out.belowW HB3.out)
  have HL3 := Lib.hid (HL2.out.trans (HB3.out.mono HL2.out.size))
  clear px0 fx0 px1 fx1 px2 fx2 px3 fx3 px4 fx4 px5 fx5 px6 fx6
  have px0 : (w3).cell? ⟨w.heap.size, 0, none⟩ = some (.bool x.neg) := F3x.out.cell 0
  have fx0 : (w3).frozen? ⟨w.heap.size, 0, none⟩ = false := F3x.out.frozen 0
  have px1 : (w3).cell? ⟨w.heap.size, 1, none⟩ = some (.slice A n c) := F3x.out.cell 1
  have fx1 : (w3).frozen? ⟨w.heap.size, 1, none⟩ = false := F3x.out.frozen 1
  have px2 : (w3).cell? ⟨w.heap.size, 2, none⟩ = some (.int .i64 x.e) := F3x.out.cell 2
  have fx2 : (w3).frozen? ⟨w.heap.size, 2, none⟩ = false := F3x.out.frozen 2
  have px3 : (w3).cell? ⟨w.heap.size, 3, none⟩ = some (.bool x'.neg) := F3x.out.cell 3
  have fx3 : (w3).frozen? ⟨w.heap.size, 3, none⟩ = false := F3x.out.frozen 3
  have px4 : (w3).cell? ⟨w.heap.size, 4, none⟩ = some (.slice A' n' c') := F3x.out.cell 4
  have fx4 : (w3).frozen? ⟨w.heap.size, 4, none⟩ = false := F3x.out.frozen 4
  have px5 : (w3).cell? ⟨w.heap.size, 5, none⟩ = some (.int .i64 x'.e) := F3x.out.cell 5
  have fx5 : (w3).frozen? ⟨w.heap.size, 5, none⟩ = false := F3x.out.frozen 5
  have px6 : (w3).cell? ⟨w.heap.size, 6, none⟩ = some (.bool false) := F3x.out.cell 6
  have fx6 : (w3).frozen? ⟨w.heap.size, 6, none⟩ = false := F3x.out.frozen 6
  go_wp2_with fail
  refine (ivalid_any x.neg A n c x.e (limbs x.k) x'.neg A' n' c' x'.e (limbs x'.k) false w3 F3a.out F3b.out).mono ?_
  rw [HV.out]
  rintro e w4 ⟨rfl, HB4⟩
  have F4a := Lib.hid (F3a.out.belowW HB4.out)
  have F4b := Lib.hid (F3b.out.belowW HB4.out)
  have F4t := Lib.hid (F3t.out.belowW HB4.out)
  have F4m := Lib.hid (F3m.out.belowW HB4.out)
  have F4x := Lib.hid (F3x.out.belowW HB4.out)
  have HL4 := Lib.hid (HL3.out.trans (HB4.out.mono HL3.out.size))
  clear px0 fx0 px1 fx1 px2 fx2 px3 fx3 px4 fx4 px5 fx5 px6 fx6
  have px0 : (w4).cell? ⟨w.heap.size, 0, none⟩ = some (.bool x.neg) := F4x.out.cell 0
  have fx0 : (w4).frozen? ⟨w.heap.size, 0, none⟩ = false := F4x.out.frozen 0
  have px1 : (w4).cell? ⟨w.heap.size, 1, none⟩ = some (.slice A n c) := F4x.out.cell 1
  have fx1 : (w4).frozen? ⟨w.heap.size, 1, none⟩ = false := F4x.out.frozen 1
  have px2 : (w4).cell? ⟨w.heap.size, 2, none⟩ = some (.int .i64 x.e) := F4x.out.cell 2
  have fx2 : (w4).frozen? ⟨w.heap.size, 2, none⟩ = false := F4x.out.frozen 2
  have px3 : (w4).cell? ⟨w.heap.size, 3, none⟩ = some (.bool x'.neg) := F4x.out.cell 3
  have fx3 : (w4).frozen? ⟨w.heap.size, 3, none⟩ = false := F4x.out.frozen 3
  have px4 : (w4).cell? ⟨w.heap.size, 4, none⟩ = some (.slice A' n' c') := F4x.out.cell 4
  have fx4 : (w4).frozen? ⟨w.heap.size, 4, none⟩ = false := F4x.out.frozen 4
  have px5 : (w4).cell? ⟨w.heap.size, 5, none⟩ = some (.int .i64 x'.e) := F4x.out.cell 5
  have fx5 : (w4).frozen? ⟨w.heap.size, 5, none⟩ = false := F4x.out.frozen 5
  have px6 : (w4).cell? ⟨w.heap.size, 6, none⟩ = some (.bool false) := F4x.out.cell 6
  have fx6 : (w4).frozen? ⟨w.heap.size, 6, none⟩ = false := F4x.out.frozen 6
  go_wp2_with fail
  refine (dtop_any x A n c w4 F4a.out VX.out).mono ?_
  rw [HTX.out]
  rintro e w5 ⟨rfl, HB5⟩
  have F5a := Lib.hid (F4a.out.belowW HB5.out)
  have F5b := Lib.hid (F4b.out.belowW HB5.out)
  have F5t := Lib.hid (F4t.out.belowW HB5.out)
  have F5m := Lib.hid (F4m.out.belowW HB5.out)
  have F5x := Lib.hid (F4x.out.belowW HB5.out)
  have HL5 := Lib.hid (HL4.out.trans (HB5.out.mono HL4.out.size))
  clear px0 fx0 px1 fx1 px2 fx2 px3 fx3 px4 fx4 px5 fx5 px6 fx6
  have px0 : (w5).cell? ⟨w.heap.size, 0, none⟩ = some (.bool x.neg) := F5x.out.cell 0
  have fx0 : (w5).frozen? ⟨w.heap.size, 0, none⟩ = false := F5x.out.frozen 0
  have px1 : (w5).cell? ⟨w.heap.size, 1, none⟩ = some (.slice A n c) := F5x.out.cell 1
  have fx1 : (w5).frozen? ⟨w.heap.size, 1, none⟩ = false := F5x.out.frozen 1
  have px2 : (w5).cell? ⟨w.heap.size, 2, none⟩ = some (.int .i64 x.e) := F5x.out.cell 2
  have fx2 : (w5).frozen? ⟨w.heap.size, 2, none⟩ = false := F5x.out.frozen 2
  have px3 : (w5).cell? ⟨w.heap.size, 3, none⟩ = some (.bool x'.neg) := F5x.out.cell 3
  have fx3 : (w5).frozen? ⟨w.heap.size, 3, none⟩ = false := F5x.out.frozen 3
  have px4 : (w5).cell? ⟨w.heap.size, 4, none⟩ = some (.slice A' n' c') := F5x.out.cell 4
  have fx4 : (w5).frozen? ⟨w.heap.size, 4, none⟩ = false := F5x.out.frozen 4
  have px5 : (w5).cell? ⟨w.heap.size, 5, none⟩ = some (.int .i64 x'.e) := F5x.out.cell 5
  have fx5 : (w5).frozen? ⟨w.heap.size, 5, none⟩ = false := F5x.out.frozen 5
  have px6 : (w5).cell? ⟨w.heap.size, 6, none⟩ = some (.bool false) := F5x.out.cell 6
  have fx6 : (w5).frozen? ⟨w.heap.size, 6, none⟩ = false := F5x.out.frozen 6
  by_cases h1 : 400 < t1
  case pos =>
    have d1 : decide (400 < t1) = true := decide_eq_true h1
    go_wp2_with fail
    go_ret
    exact ⟨rfl, HL5⟩
  have d1 : decide (400 < t1) = false := decide_eq_false h1
  have d2 : decide (400 < t2) = true := decide_eq_true (by omega)
  go_wp2_with fail
  refine (dtop_any x' A' n' c' w5 F5b.out VX'.out).mono ?_
  rw [HTY.out]
  rintro e w6 ⟨rfl, HB6⟩
  have F6a := Lib.hid (F5a.out.belowW HB6.out)
  have F6b := Lib.hid (F5b.out.belowW HB6.out)
  have F6t := Lib.hid (F5t.out.belowW HB6.out)
  have F6m := Lib.hid (F5m.out.belowW HB6.out)
  have F6x := Lib.hid (F5x.out.belowW HB6.out)
  have HL6 := Lib.hid (HL5.out.trans (HB6.out.mono HL5.out.size))
  go_wp2_with fail
  go_ret
  exact ⟨rfl, HL6⟩

set_option maxHeartbeats 8000000 in
theorem encl_main (x x' : D) (A : Option Addr) (n c : Nat) (A' : Option Addr) (n' c' : Nat) (q p : Nat) (w : World) (h : Sl w A n c (limbs x.k)) (h' : Sl w A' n' c' (limbs x'.k)) (hT : RB w) (hM : MXL w) (vx : vld x) (vx' : vld x') (hc : cmpD x x' ≤ 0) (hq : q < 50) (hp : 8 ≤ p) (hp2 : p ≤ 512) (hg : (decide (40 < n) || decide (40 < n')) = false) (tx : topB x ≤ 400) (ty : topB x' ≤ 400) : Calls Tryz.prog 5 #[.agg #[.bool x.neg, .slice A n c, .int .i64 x.e, .bool x'.neg, .slice A' n' c', .int .i64 x'.e, .bool false], .int .i64 q, .int .i64 p] w (Awk w) := by
  have H1 := Lib.hid h
  have H2 := Lib.hid h'
  have HT := Lib.hid hT
  have HM := Lib.hid hM
  have VX := Lib.hid vx
  have VX' := Lib.hid vx'
  have hn := h.max
  have hn' := h'.max
  have HV := Lib.hid (vldIB_of vx vx' hc)
  have HC := Lib.hid hc
  have HG := Lib.hid hg
  have r1 : decide ((q : Int) < 0) = false := decide_eq_false (by omega)
  have r2 : decide ((50 : Int) ≤ (q : Int)) = false := decide_eq_false (by omega)
  have r3 : decide ((p : Int) < 8) = false := decide_eq_false (by omega)
  have r4 : decide ((512 : Int) < (p : Int)) = false := decide_eq_false (by omega)
  obtain ⟨t1, ht1⟩ : ∃ t, topB x = t := ⟨_, rfl⟩
  obtain ⟨t2, ht2⟩ : ∃ t, topB x' = t := ⟨_, rfl⟩
  have HTX := Lib.hid ht1
  have HTY := Lib.hid ht2
  have d1 : decide (400 < t1) = false := decide_eq_false (by omega)
  have d2 : decide (400 < t2) = false := decide_eq_false (by omega)
  obtain ⟨ya, yb, za, zb, P1, P2, va, vb, vc, vd, c1, c2, c3, c4, c5, c6⟩ := encl_law (q := q) (p := p) vx vx' hc tx ty (by omega) hp hp2
  obtain ⟨L1, e1⟩ := textI_len (q := q) vx vx' tx ty (by omega)
  obtain ⟨L2, e2⟩ := textI_len (q := q + 1) vx vx' tx ty (by omega)
  obtain ⟨q2, hq2⟩ : ∃ q2 : Nat, q2 = q + 1 := ⟨_, rfl⟩
  rw [← hq2] at P2 L2 e2
  obtain ⟨T1, hT1⟩ : ∃ T, textI x x' q = T := ⟨_, rfl⟩
  obtain ⟨T2, hT2⟩ : ∃ T, textI x x' q2 = T := ⟨_, rfl⟩
  rw [hT1] at P1 L1 e1
  rw [hT2] at P2 L2 e2
  have E1 := Lib.hid e1
  have E2 := Lib.hid e2
  have Q1 := Lib.hid P1
  have Q2 := Lib.hid P2
  have VA := Lib.hid va
  have VB := Lib.hid vb
  have VC := Lib.hid vc
  have VD := Lib.hid vd
  have C1 := Lib.hid c1
  have C2 := Lib.hid c2
  have I1 := Lib.hid (show (decide (cmpD ya x ≤ 0) && decide (cmpD x' yb ≤ 0)) = true by rw [decide_eq_true c3, decide_eq_true c4]; rfl)
  have I2 := Lib.hid (show (decide (cmpD ya za ≤ 0) && decide (cmpD zb yb ≤ 0)) = true by rw [decide_eq_true c5, decide_eq_true c6]; rfl)
  have hqs : (q : Int) + 1 = (q2 : Int) := by omega
  have hqw : IntKind.i64.wrap ((q : Int) + 1) = (q2 : Int) := by rw [hqs]; exact IntWalk.i64_in _ (by omega)
  have hqw2 : IntKind.i64.wrap (q2 : Int) = (q2 : Int) := IntWalk.i64_in _ (by omega)
  have hq50 : q ≤ 50 := by omega
  have hq51 : q2 ≤ 50 := by omega
  clear h h' hT hM hg vx vx' hc ht1 ht2 P1 P2 va vb vc vd c1 c2 c3 c4 c5 c6 e1 e2 hT1 hT2 hq2
  go_enter Tryz.func5, Tryz.ntmps5
  go_wp2_with fail
  obtain ⟨w1, hw⟩ : ∃ z9 : World, z9 = (w.alloc (.cells #[.bool x.neg, .slice A n c, .int .i64 x.e, .bool x'.neg, .slice A' n' c', .int .i64 x'.e, .bool false] 27)) := ⟨_, rfl⟩
  have HB1 := Lib.hid (show Below w.heap.size w w1 by rw [hw]; exact below_a1 _ _)
  have F1a := Lib.hid (H1.out.belowW HB1.out)
  have F1b := Lib.hid (H2.out.belowW HB1.out)
  have F1t := Lib.hid (HT.out.belowW HB1.out)
  have F1m := Lib.hid (HM.out.belowW HB1.out)
  have F1x := Lib.hid (show Blk w1 (w.heap.size) 27 #[.bool x.neg, .slice A n c, .int .i64 x.e, .bool x'.neg, .slice A' n' c', .int .i64 x'.e, .bool false] by rw [hw]; exact Blk.new _ _ _)
  rw [← hw]
  clear hw
  refine (dAwake_any w1 F1t.out F1m.out).mono ?_
  rintro e w2 ⟨rfl, HB2⟩
  have F2a := Lib.hid (F1a.out.belowW HB2.out)
  have F2b := Lib.hid (F1b.out.belowW HB2.out)
  have F2t := Lib.hid (F1t.out.belowW HB2.out)
  have F2m := Lib.hid (F1m.out.belowW HB2.out)
  have F2x := Lib.hid (F1x.out.belowW HB2.out)
  have HL2 := Lib.hid (HB1.out.trans (HB2.out.mono HB1.out.size))
  have px0 : (w2).cell? ⟨w.heap.size, 0, none⟩ = some (.bool x.neg) := F2x.out.cell 0
  have fx0 : (w2).frozen? ⟨w.heap.size, 0, none⟩ = false := F2x.out.frozen 0
  have px1 : (w2).cell? ⟨w.heap.size, 1, none⟩ = some (.slice A n c) := F2x.out.cell 1
  have fx1 : (w2).frozen? ⟨w.heap.size, 1, none⟩ = false := F2x.out.frozen 1
  have px2 : (w2).cell? ⟨w.heap.size, 2, none⟩ = some (.int .i64 x.e) := F2x.out.cell 2
  have fx2 : (w2).frozen? ⟨w.heap.size, 2, none⟩ = false := F2x.out.frozen 2
  have px3 : (w2).cell? ⟨w.heap.size, 3, none⟩ = some (.bool x'.neg) := F2x.out.cell 3
  have fx3 : (w2).frozen? ⟨w.heap.size, 3, none⟩ = false := F2x.out.frozen 3
  have px4 : (w2).cell? ⟨w.heap.size, 4, none⟩ = some (.slice A' n' c') := F2x.out.cell 4
  have fx4 : (w2).frozen? ⟨w.heap.size, 4, none⟩ = false := F2x.out.frozen 4
  have px5 : (w2).cell? ⟨w.heap.size, 5, none⟩ = some (.int .i64 x'.e) := F2x.out.cell 5
  have fx5 : (w2).frozen? ⟨w.heap.size, 5, none⟩ = false := F2x.out.frozen 5
  have px6 : (w2).cell? ⟨w.heap.size, 6, none⟩ = some (.bool false) := F2x.out.cell 6
  have fx6 : (w2).frozen? ⟨w.heap.size, 6, none⟩ = false := F2x.out.frozen 6
  go_wp2_with fail
  refine (great_any x.neg x'.neg false A A' n c n' c' x.e x'.e w2 hn hn').mono ?_
  rw [HG.out]
  rintro e w3 ⟨rfl, HB3⟩
  have F3a := Lib.hid (F2a.out.belowW HB3.out)
  have F3b := Lib.hid (F2b.out.belowW HB3.out)
  have F3t := Lib.hid (F2t.out.belowW HB3.out)
  have F3m := Lib.hid (F2m.out.belowW HB3.out)
  have F3x := Lib.hid (F2x.out.belowW HB3.out)
  have HL3 := Lib.hid (HL2.out.trans (HB3.out.mono HL2.out.size))
  clear px0 fx0 px1 fx1 px2 fx2 px3 fx3 px4 fx4 px5 fx5 px6 fx6
  have px0 : (w3).cell? ⟨w.heap.size, 0, none⟩ = some (.bool x.neg) := F3x.out.cell 0
  have fx0 : (w3).frozen? ⟨w.heap.size, 0, none⟩ = false := F3x.out.frozen 0
  have px1 : (w3).cell? ⟨w.heap.size, 1, none⟩ = some (.slice A n c) := F3x.out.cell 1
  have fx1 : (w3).frozen? ⟨w.heap.size, 1, none⟩ = false := F3x.out.frozen 1
  have px2 : (w3).cell? ⟨w.heap.size, 2, none⟩ = some (.int .i64 x.e) := F3x.out.cell 2
  have fx2 : (w3).frozen? ⟨w.heap.size, 2, none⟩ = false := F3x.out.frozen 2
  have px3 : (w3).cell? ⟨w.heap.size, 3, none⟩ = some (.bool x'.neg) := F3x.out.cell 3
  have fx3 : (w3).frozen? ⟨w.heap.size, 3, none⟩ = false := F3x.out.frozen 3
  have px4 : (w3).cell? ⟨w.heap.size, 4, none⟩ = some (.slice A' n' c') := F3x.out.cell 4
  have fx4 : (w3).frozen? ⟨w.heap.size, 4, none⟩ = false := F3x.out.frozen 4
  have px5 : (w3).cell? ⟨w.heap.size, 5, none⟩ = some (.int .i64 x'.e) := F3x.out.cell 5
  have fx5 : (w3).frozen? ⟨w.heap.size, 5, none⟩ = false := F3x.out.frozen 5
  have px6 : (w3).cell? ⟨w.heap.size, 6, none⟩ = some (.bool false) := F3x.out.cell 6
  have fx6 : (w3).frozen? ⟨w.heap.size, 6, none⟩ = false := F3x.out.frozen 6
  go_wp2_with fail
  refine (ivalid_any x.neg A n c x.e (limbs x.k) x'.neg A' n' c' x'.e (limbs x'.k) false w3 F3a.out F3b.out).mono ?_
  rw [HV.out]
  rintro e w4 ⟨rfl, HB4⟩
  have F4a := Lib.hid (F3a.out.belowW HB4.out)
  have F4b := Lib.hid (F3b.out.belowW HB4.out)
  have F4t := Lib.hid (F3t.out.belowW HB4.out)
  have F4m := Lib.hid (F3m.out.belowW HB4.out)
  have F4x := Lib.hid (F3x.out.belowW HB4.out)
  have HL4 := Lib.hid (HL3.out.trans (HB4.out.mono HL3.out.size))
  clear px0 fx0 px1 fx1 px2 fx2 px3 fx3 px4 fx4 px5 fx5 px6 fx6
  have px0 : (w4).cell? ⟨w.heap.size, 0, none⟩ = some (.bool x.neg) := F4x.out.cell 0
  have fx0 : (w4).frozen? ⟨w.heap.size, 0, none⟩ = false := F4x.out.frozen 0
  have px1 : (w4).cell? ⟨w.heap.size, 1, none⟩ = some (.slice A n c) := F4x.out.cell 1
  have fx1 : (w4).frozen? ⟨w.heap.size, 1, none⟩ = false := F4x.out.frozen 1
  have px2 : (w4).cell? ⟨w.heap.size, 2, none⟩ = some (.int .i64 x.e) := F4x.out.cell 2
  have fx2 : (w4).frozen? ⟨w.heap.size, 2, none⟩ = false := F4x.out.frozen 2
  have px3 : (w4).cell? ⟨w.heap.size, 3, none⟩ = some (.bool x'.neg) := F4x.out.cell 3
  have fx3 : (w4).frozen? ⟨w.heap.size, 3, none⟩ = false := F4x.out.frozen 3
  have px4 : (w4).cell? ⟨w.heap.size, 4, none⟩ = some (.slice A' n' c') := F4x.out.cell 4
  have fx4 : (w4).frozen? ⟨w.heap.size, 4, none⟩ = false := F4x.out.frozen 4
  have px5 : (w4).cell? ⟨w.heap.size, 5, none⟩ = some (.int .i64 x'.e) := F4x.out.cell 5
  have fx5 : (w4).frozen? ⟨w.heap.size, 5, none⟩ = false := F4x.out.frozen 5
  have px6 : (w4).cell? ⟨w.heap.size, 6, none⟩ = some (.bool false) := F4x.out.cell 6
  have fx6 : (w4).frozen? ⟨w.heap.size, 6, none⟩ = false := F4x.out.frozen 6
  go_wp2_with fail
  refine (dtop_any x A n c w4 F4a.out VX.out).mono ?_
  rw [HTX.out]
  rintro e w5 ⟨rfl, HB5⟩
  have F5a := Lib.hid (F4a.out.belowW HB5.out)
  have F5b := Lib.hid (F4b.out.belowW HB5.out)
  have F5t := Lib.hid (F4t.out.belowW HB5.out)
  have F5m := Lib.hid (F4m.out.belowW HB5.out)
  have F5x := Lib.hid (F4x.out.belowW HB5.out)
  have HL5 := Lib.hid (HL4.out.trans (HB5.out.mono HL4.out.size))
  clear px0 fx0 px1 fx1 px2 fx2 px3 fx3 px4 fx4 px5 fx5 px6 fx6
  have px0 : (w5).cell? ⟨w.heap.size, 0, none⟩ = some (.bool x.neg) := F5x.out.cell 0
  have fx0 : (w5).frozen? ⟨w.heap.size, 0, none⟩ = false := F5x.out.frozen 0
  have px1 : (w5).cell? ⟨w.heap.size, 1, none⟩ = some (.slice A n c) := F5x.out.cell 1
  have fx1 : (w5).frozen? ⟨w.heap.size, 1, none⟩ = false := F5x.out.frozen 1
  have px2 : (w5).cell? ⟨w.heap.size, 2, none⟩ = some (.int .i64 x.e) := F5x.out.cell 2
  have fx2 : (w5).frozen? ⟨w.heap.size, 2, none⟩ = false := F5x.out.frozen 2
  have px3 : (w5).cell? ⟨w.heap.size, 3, none⟩ = some (.bool x'.neg) := F5x.out.cell 3
  have fx3 : (w5).frozen? ⟨w.heap.size, 3, none⟩ = false := F5x.out.frozen 3
  have px4 : (w5).cell? ⟨w.heap.size, 4, none⟩ = some (.slice A' n' c') := F5x.out.cell 4
  have fx4 : (w5).frozen? ⟨w.heap.size, 4, none⟩ = false := F5x.out.frozen 4
  have px5 : (w5).cell? ⟨w.heap.size, 5, none⟩ = some (.int .i64 x'.e) := F5x.out.cell 5
  have fx5 : (w5).frozen? ⟨w.heap.size, 5, none⟩ = false := F5x.out.frozen 5
  have px6 : (w5).cell? ⟨w.heap.size, 6, none⟩ = some (.bool false) := F5x.out.cell 6
  have fx6 : (w5).frozen? ⟨w.heap.size, 6, none⟩ = false := F5x.out.frozen 6
  go_wp2_with fail
  refine (dtop_any x' A' n' c' w5 F5b.out VX'.out).mono ?_
  rw [HTY.out]
  rintro e w6 ⟨rfl, HB6⟩
  have F6a := Lib.hid (F5a.out.belowW HB6.out)
  have F6b := Lib.hid (F5b.out.belowW HB6.out)
  have F6t := Lib.hid (F5t.out.belowW HB6.out)
  have F6m := Lib.hid (F5m.out.belowW HB6.out)
  have F6x := Lib.hid (F5x.out.belowW HB6.out)
  have HL6 := Lib.hid (HL5.out.trans (HB6.out.mono HL5.out.size))
  clear px0 fx0 px1 fx1 px2 fx2 px3 fx3 px4 fx4 px5 fx5 px6 fx6
  have px0 : (w6).cell? ⟨w.heap.size, 0, none⟩ = some (.bool x.neg) := F6x.out.cell 0
  have fx0 : (w6).frozen? ⟨w.heap.size, 0, none⟩ = false := F6x.out.frozen 0
  have px1 : (w6).cell? ⟨w.heap.size, 1, none⟩ = some (.slice A n c) := F6x.out.cell 1
  have fx1 : (w6).frozen? ⟨w.heap.size, 1, none⟩ = false := F6x.out.frozen 1
  have px2 : (w6).cell? ⟨w.heap.size, 2, none⟩ = some (.int .i64 x.e) := F6x.out.cell 2
  have fx2 : (w6).frozen? ⟨w.heap.size, 2, none⟩ = false := F6x.out.frozen 2
  have px3 : (w6).cell? ⟨w.heap.size, 3, none⟩ = some (.bool x'.neg) := F6x.out.cell 3
  have fx3 : (w6).frozen? ⟨w.heap.size, 3, none⟩ = false := F6x.out.frozen 3
  have px4 : (w6).cell? ⟨w.heap.size, 4, none⟩ = some (.slice A' n' c') := F6x.out.cell 4
  have fx4 : (w6).frozen? ⟨w.heap.size, 4, none⟩ = false := F6x.out.frozen 4
  have px5 : (w6).cell? ⟨w.heap.size, 5, none⟩ = some (.int .i64 x'.e) := F6x.out.cell 5
  have fx5 : (w6).frozen? ⟨w.heap.size, 5, none⟩ = false := F6x.out.frozen 5
  have px6 : (w6).cell? ⟨w.heap.size, 6, none⟩ = some (.bool false) := F6x.out.cell 6
  have fx6 : (w6).frozen? ⟨w.heap.size, 6, none⟩ = false := F6x.out.frozen 6
  go_wp2_with fail
  refine (dText_any x x' A n c A' n' c' q w6 F6a.out F6b.out VX.out VX'.out HC.out hq50 F6t.out).mono ?_
  rw [E1.out]
  rintro e w7 ⟨rfl, HB7⟩
  have F7a := Lib.hid (F6a.out.belowW HB7.out)
  have F7b := Lib.hid (F6b.out.belowW HB7.out)
  have F7t := Lib.hid (F6t.out.belowW HB7.out)
  have F7m := Lib.hid (F6m.out.belowW HB7.out)
  have F7x := Lib.hid (F6x.out.belowW HB7.out)
  have HL7 := Lib.hid (HL6.out.trans (HB7.out.mono HL6.out.size))
  go_wp2_with fail
  refine (parse_list T1 p _ w7 Q1.out L1 F7t.out F7m.out).mono ?_
  rintro e w8 ⟨U, U', u, uc, u', uc', rfl, HU, HU', HB8⟩
  have F8a := Lib.hid (F7a.out.belowW HB8.out)
  have F8b := Lib.hid (F7b.out.belowW HB8.out)
  have F8t := Lib.hid (F7t.out.belowW HB8.out)
  have F8m := Lib.hid (F7m.out.belowW HB8.out)
  have F8x := Lib.hid (F7x.out.belowW HB8.out)
  have HL8 := Lib.hid (HL7.out.trans (HB8.out.mono HL7.out.size))
  have F8u := Lib.hid (HU.out)
  have F8v := Lib.hid (HU'.out)
  clear px0 fx0 px1 fx1 px2 fx2 px3 fx3 px4 fx4 px5 fx5 px6 fx6
  go_upto_region 6 with (fail)
  obtain ⟨w9, hw⟩ : ∃ z9 : World, z9 = w8.alloc (.cells #[.bool ya.neg, .slice U u uc, .int .i64 ya.e, .bool yb.neg, .slice U' u' uc', .int .i64 yb.e, .bool false] 27) := ⟨_, rfl⟩
  have HB9 := Lib.hid (show Below w8.heap.size w8 w9 by rw [hw]; exact below_a1 _ _)
  have F9y := Lib.hid (show Blk w9 w8.heap.size 27 #[.bool ya.neg, .slice U u uc, .int .i64 ya.e, .bool yb.neg, .slice U' u' uc', .int .i64 yb.e, .bool false] by rw [hw]; exact Blk.new _ _ _)
  rw [← hw]
  clear hw
  have F9a := Lib.hid (F8a.out.belowW HB9.out)
  have F9b := Lib.hid (F8b.out.belowW HB9.out)
  have F9t := Lib.hid (F8t.out.belowW HB9.out)
  have F9m := Lib.hid (F8m.out.belowW HB9.out)
  have F9x := Lib.hid (F8x.out.belowW HB9.out)
  have F9u := Lib.hid (F8u.out.belowW HB9.out)
  have F9v := Lib.hid (F8v.out.belowW HB9.out)
  have HL9 := Lib.hid (HL8.out.trans (HB9.out.mono HL8.out.size))
  have px0 : (w9).cell? ⟨w.heap.size, 0, none⟩ = some (.bool x.neg) := F9x.out.cell 0
  have fx0 : (w9).frozen? ⟨w.heap.size, 0, none⟩ = false := F9x.out.frozen 0
  have px1 : (w9).cell? ⟨w.heap.size, 1, none⟩ = some (.slice A n c) := F9x.out.cell 1
  have fx1 : (w9).frozen? ⟨w.heap.size, 1, none⟩ = false := F9x.out.frozen 1
  have px2 : (w9).cell? ⟨w.heap.size, 2, none⟩ = some (.int .i64 x.e) := F9x.out.cell 2
  have fx2 : (w9).frozen? ⟨w.heap.size, 2, none⟩ = false := F9x.out.frozen 2
  have px3 : (w9).cell? ⟨w.heap.size, 3, none⟩ = some (.bool x'.neg) := F9x.out.cell 3
  have fx3 : (w9).frozen? ⟨w.heap.size, 3, none⟩ = false := F9x.out.frozen 3
  have px4 : (w9).cell? ⟨w.heap.size, 4, none⟩ = some (.slice A' n' c') := F9x.out.cell 4
  have fx4 : (w9).frozen? ⟨w.heap.size, 4, none⟩ = false := F9x.out.frozen 4
  have px5 : (w9).cell? ⟨w.heap.size, 5, none⟩ = some (.int .i64 x'.e) := F9x.out.cell 5
  have fx5 : (w9).frozen? ⟨w.heap.size, 5, none⟩ = false := F9x.out.frozen 5
  have px6 : (w9).cell? ⟨w.heap.size, 6, none⟩ = some (.bool false) := F9x.out.cell 6
  have fx6 : (w9).frozen? ⟨w.heap.size, 6, none⟩ = false := F9x.out.frozen 6
  go_wp2_with fail
  refine (dText_any x x' A n c A' n' c' q2 w9 F9a.out F9b.out VX.out VX'.out HC.out hq51 F9t.out).mono ?_
  rw [E2.out]
  rintro e w10 ⟨rfl, HB10⟩
  have F10a := Lib.hid (F9a.out.belowW HB10.out)
  have F10b := Lib.hid (F9b.out.belowW HB10.out)
  have F10t := Lib.hid (F9t.out.belowW HB10.out)
  have F10m := Lib.hid (F9m.out.belowW HB10.out)
  have F10x := Lib.hid (F9x.out.belowW HB10.out)
  have F10u := Lib.hid (F9u.out.belowW HB10.out)
  have F10v := Lib.hid (F9v.out.belowW HB10.out)
  have F10y := Lib.hid (F9y.out.belowW HB10.out)
  have HL10 := Lib.hid (HL9.out.trans (HB10.out.mono HL9.out.size))
  go_wp2_with fail
  refine (parse_list T2 p _ w10 Q2.out L2 F10t.out F10m.out).mono ?_
  rintro e w11 ⟨V, V', v, vc, v', vc', rfl, HW, HW', HB11⟩
  have F11a := Lib.hid (F10a.out.belowW HB11.out)
  have F11b := Lib.hid (F10b.out.belowW HB11.out)
  have F11t := Lib.hid (F10t.out.belowW HB11.out)
  have F11m := Lib.hid (F10m.out.belowW HB11.out)
  have F11x := Lib.hid (F10x.out.belowW HB11.out)
  have F11u := Lib.hid (F10u.out.belowW HB11.out)
  have F11v := Lib.hid (F10v.out.belowW HB11.out)
  have F11y := Lib.hid (F10y.out.belowW HB11.out)
  have HL11 := Lib.hid (HL10.out.trans (HB11.out.mono HL10.out.size))
  have F11p := Lib.hid (HW.out)
  have F11q := Lib.hid (HW'.out)
  clear px0 fx0 px1 fx1 px2 fx2 px3 fx3 px4 fx4 px5 fx5 px6 fx6
  go_upto_region 7 with (fail)
  obtain ⟨w12, hw⟩ : ∃ z9 : World, z9 = w11.alloc (.cells #[.bool za.neg, .slice V v vc, .int .i64 za.e, .bool zb.neg, .slice V' v' vc', .int .i64 zb.e, .bool false] 27) := ⟨_, rfl⟩
  have HB12 := Lib.hid (show Below w11.heap.size w11 w12 by rw [hw]; exact below_a1 _ _)
  have F12z := Lib.hid (show Blk w12 w11.heap.size 27 #[.bool za.neg, .slice V v vc, .int .i64 za.e, .bool zb.neg, .slice V' v' vc', .int .i64 zb.e, .bool false] by rw [hw]; exact Blk.new _ _ _)
  rw [← hw]
  clear hw
  have F12a := Lib.hid (F11a.out.belowW HB12.out)
  have F12b := Lib.hid (F11b.out.belowW HB12.out)
  have F12t := Lib.hid (F11t.out.belowW HB12.out)
  have F12m := Lib.hid (F11m.out.belowW HB12.out)
  have F12x := Lib.hid (F11x.out.belowW HB12.out)
  have F12u := Lib.hid (F11u.out.belowW HB12.out)
  have F12v := Lib.hid (F11v.out.belowW HB12.out)
  have F12y := Lib.hid (F11y.out.belowW HB12.out)
  have F12p := Lib.hid (F11p.out.belowW HB12.out)
  have F12q := Lib.hid (F11q.out.belowW HB12.out)
  have HL12 := Lib.hid (HL11.out.trans (HB12.out.mono HL11.out.size))
  have px0 : (w12).cell? ⟨w.heap.size, 0, none⟩ = some (.bool x.neg) := F12x.out.cell 0
  have fx0 : (w12).frozen? ⟨w.heap.size, 0, none⟩ = false := F12x.out.frozen 0
  have px1 : (w12).cell? ⟨w.heap.size, 1, none⟩ = some (.slice A n c) := F12x.out.cell 1
  have fx1 : (w12).frozen? ⟨w.heap.size, 1, none⟩ = false := F12x.out.frozen 1
  have px2 : (w12).cell? ⟨w.heap.size, 2, none⟩ = some (.int .i64 x.e) := F12x.out.cell 2
  have fx2 : (w12).frozen? ⟨w.heap.size, 2, none⟩ = false := F12x.out.frozen 2
  have px3 : (w12).cell? ⟨w.heap.size, 3, none⟩ = some (.bool x'.neg) := F12x.out.cell 3
  have fx3 : (w12).frozen? ⟨w.heap.size, 3, none⟩ = false := F12x.out.frozen 3
  have px4 : (w12).cell? ⟨w.heap.size, 4, none⟩ = some (.slice A' n' c') := F12x.out.cell 4
  have fx4 : (w12).frozen? ⟨w.heap.size, 4, none⟩ = false := F12x.out.frozen 4
  have px5 : (w12).cell? ⟨w.heap.size, 5, none⟩ = some (.int .i64 x'.e) := F12x.out.cell 5
  have fx5 : (w12).frozen? ⟨w.heap.size, 5, none⟩ = false := F12x.out.frozen 5
  have px6 : (w12).cell? ⟨w.heap.size, 6, none⟩ = some (.bool false) := F12x.out.cell 6
  have fx6 : (w12).frozen? ⟨w.heap.size, 6, none⟩ = false := F12x.out.frozen 6
  have py0 : (w12).cell? ⟨w8.heap.size, 0, none⟩ = some (.bool ya.neg) := F12y.out.cell 0
  have fy0 : (w12).frozen? ⟨w8.heap.size, 0, none⟩ = false := F12y.out.frozen 0
  have py1 : (w12).cell? ⟨w8.heap.size, 1, none⟩ = some (.slice U u uc) := F12y.out.cell 1
  have fy1 : (w12).frozen? ⟨w8.heap.size, 1, none⟩ = false := F12y.out.frozen 1
  have py2 : (w12).cell? ⟨w8.heap.size, 2, none⟩ = some (.int .i64 ya.e) := F12y.out.cell 2
  have fy2 : (w12).frozen? ⟨w8.heap.size, 2, none⟩ = false := F12y.out.frozen 2
  have py3 : (w12).cell? ⟨w8.heap.size, 3, none⟩ = some (.bool yb.neg) := F12y.out.cell 3
  have fy3 : (w12).frozen? ⟨w8.heap.size, 3, none⟩ = false := F12y.out.frozen 3
  have py4 : (w12).cell? ⟨w8.heap.size, 4, none⟩ = some (.slice U' u' uc') := F12y.out.cell 4
  have fy4 : (w12).frozen? ⟨w8.heap.size, 4, none⟩ = false := F12y.out.frozen 4
  have py5 : (w12).cell? ⟨w8.heap.size, 5, none⟩ = some (.int .i64 yb.e) := F12y.out.cell 5
  have fy5 : (w12).frozen? ⟨w8.heap.size, 5, none⟩ = false := F12y.out.frozen 5
  have py6 : (w12).cell? ⟨w8.heap.size, 6, none⟩ = some (.bool false) := F12y.out.cell 6
  have fy6 : (w12).frozen? ⟨w8.heap.size, 6, none⟩ = false := F12y.out.frozen 6
  go_wp2_with fail
  refine (inside_any x x' ya yb A A' U U' n c n' c' u uc u' uc' w12 F12a.out F12b.out F12u.out F12v.out VX.out VX'.out VA.out VB.out HC.out C1.out).mono ?_
  rw [I1.out]
  rintro e w13 ⟨rfl, HB13⟩
  have F13a := Lib.hid (F12a.out.belowW HB13.out)
  have F13b := Lib.hid (F12b.out.belowW HB13.out)
  have F13t := Lib.hid (F12t.out.belowW HB13.out)
  have F13m := Lib.hid (F12m.out.belowW HB13.out)
  have F13x := Lib.hid (F12x.out.belowW HB13.out)
  have F13u := Lib.hid (F12u.out.belowW HB13.out)
  have F13v := Lib.hid (F12v.out.belowW HB13.out)
  have F13y := Lib.hid (F12y.out.belowW HB13.out)
  have F13p := Lib.hid (F12p.out.belowW HB13.out)
  have F13q := Lib.hid (F12q.out.belowW HB13.out)
  have F13z := Lib.hid (F12z.out.belowW HB13.out)
  have HL13 := Lib.hid (HL12.out.trans (HB13.out.mono HL12.out.size))
  clear px0 fx0 px1 fx1 px2 fx2 px3 fx3 px4 fx4 px5 fx5 px6 fx6 py0 fy0 py1 fy1 py2 fy2 py3 fy3 py4 fy4 py5 fy5 py6 fy6
  have py0 : (w13).cell? ⟨w8.heap.size, 0, none⟩ = some (.bool ya.neg) := F13y.out.cell 0
  have fy0 : (w13).frozen? ⟨w8.heap.size, 0, none⟩ = false := F13y.out.frozen 0
  have py1 : (w13).cell? ⟨w8.heap.size, 1, none⟩ = some (.slice U u uc) := F13y.out.cell 1
  have fy1 : (w13).frozen? ⟨w8.heap.size, 1, none⟩ = false := F13y.out.frozen 1
  have py2 : (w13).cell? ⟨w8.heap.size, 2, none⟩ = some (.int .i64 ya.e) := F13y.out.cell 2
  have fy2 : (w13).frozen? ⟨w8.heap.size, 2, none⟩ = false := F13y.out.frozen 2
  have py3 : (w13).cell? ⟨w8.heap.size, 3, none⟩ = some (.bool yb.neg) := F13y.out.cell 3
  have fy3 : (w13).frozen? ⟨w8.heap.size, 3, none⟩ = false := F13y.out.frozen 3
  have py4 : (w13).cell? ⟨w8.heap.size, 4, none⟩ = some (.slice U' u' uc') := F13y.out.cell 4
  have fy4 : (w13).frozen? ⟨w8.heap.size, 4, none⟩ = false := F13y.out.frozen 4
  have py5 : (w13).cell? ⟨w8.heap.size, 5, none⟩ = some (.int .i64 yb.e) := F13y.out.cell 5
  have fy5 : (w13).frozen? ⟨w8.heap.size, 5, none⟩ = false := F13y.out.frozen 5
  have py6 : (w13).cell? ⟨w8.heap.size, 6, none⟩ = some (.bool false) := F13y.out.cell 6
  have fy6 : (w13).frozen? ⟨w8.heap.size, 6, none⟩ = false := F13y.out.frozen 6
  have pz0 : (w13).cell? ⟨w11.heap.size, 0, none⟩ = some (.bool za.neg) := F13z.out.cell 0
  have fz0 : (w13).frozen? ⟨w11.heap.size, 0, none⟩ = false := F13z.out.frozen 0
  have pz1 : (w13).cell? ⟨w11.heap.size, 1, none⟩ = some (.slice V v vc) := F13z.out.cell 1
  have fz1 : (w13).frozen? ⟨w11.heap.size, 1, none⟩ = false := F13z.out.frozen 1
  have pz2 : (w13).cell? ⟨w11.heap.size, 2, none⟩ = some (.int .i64 za.e) := F13z.out.cell 2
  have fz2 : (w13).frozen? ⟨w11.heap.size, 2, none⟩ = false := F13z.out.frozen 2
  have pz3 : (w13).cell? ⟨w11.heap.size, 3, none⟩ = some (.bool zb.neg) := F13z.out.cell 3
  have fz3 : (w13).frozen? ⟨w11.heap.size, 3, none⟩ = false := F13z.out.frozen 3
  have pz4 : (w13).cell? ⟨w11.heap.size, 4, none⟩ = some (.slice V' v' vc') := F13z.out.cell 4
  have fz4 : (w13).frozen? ⟨w11.heap.size, 4, none⟩ = false := F13z.out.frozen 4
  have pz5 : (w13).cell? ⟨w11.heap.size, 5, none⟩ = some (.int .i64 zb.e) := F13z.out.cell 5
  have fz5 : (w13).frozen? ⟨w11.heap.size, 5, none⟩ = false := F13z.out.frozen 5
  have pz6 : (w13).cell? ⟨w11.heap.size, 6, none⟩ = some (.bool false) := F13z.out.cell 6
  have fz6 : (w13).frozen? ⟨w11.heap.size, 6, none⟩ = false := F13z.out.frozen 6
  go_wp2_with fail
  refine (inside_any za zb ya yb V V' U U' v vc v' vc' u uc u' uc' w13 F13p.out F13q.out F13u.out F13v.out VC.out VD.out VA.out VB.out C2.out C1.out).mono ?_
  rw [I2.out]
  rintro e w14 ⟨rfl, HB14⟩
  have F14a := Lib.hid (F13a.out.belowW HB14.out)
  have F14b := Lib.hid (F13b.out.belowW HB14.out)
  have F14t := Lib.hid (F13t.out.belowW HB14.out)
  have F14m := Lib.hid (F13m.out.belowW HB14.out)
  have F14x := Lib.hid (F13x.out.belowW HB14.out)
  have F14u := Lib.hid (F13u.out.belowW HB14.out)
  have F14v := Lib.hid (F13v.out.belowW HB14.out)
  have F14y := Lib.hid (F13y.out.belowW HB14.out)
  have F14p := Lib.hid (F13p.out.belowW HB14.out)
  have F14q := Lib.hid (F13q.out.belowW HB14.out)
  have F14z := Lib.hid (F13z.out.belowW HB14.out)
  have HL14 := Lib.hid (HL13.out.trans (HB14.out.mono HL13.out.size))
  go_wp2_with fail
  go_ret
  exact ⟨rfl, HL14⟩
theorem encloses_any (na : Bool) (A : Option Addr) (n c : Nat) (ea : Int) (l : List Nat) (na' : Bool) (A' : Option Addr) (n' c' : Nat) (ea' : Int) (l' : List Nat) (sa : Bool) (dg p : Int) (w : World) (h : Sl w A n c l) (h' : Sl w A' n' c' l') (hT : RB w) (hM : MXL w) : Calls Tryz.prog 5 #[.agg #[.bool na, .slice A n c, .int .i64 ea, .bool na', .slice A' n' c', .int .i64 ea', .bool sa], .int .i64 dg, .int .i64 p] w (Awk w) := by
  cases hg : (decide (40 < n) || decide (40 < n')) with
  | true => exact encl_great na A n c ea l na' A' n' c' ea' l' sa dg p w h h' hT hM hg
  | false =>
    cases hv : vldIB na l ea na' l' ea' sa with
    | false => exact encl_inv na A n c ea l na' A' n' c' ea' l' sa dg p w h h' hT hM hg hv
    | true =>
      by_cases hr : dg < 0 ∨ 50 ≤ dg ∨ p < 8 ∨ 512 < p
      · exact encl_range na A n c ea l na' A' n' c' ea' l' sa dg p w h h' hT hM hg hv hr
      · obtain ⟨q, rfl⟩ : ∃ q : Nat, dg = q := ⟨dg.toNat, by omega⟩
        obtain ⟨p, rfl⟩ : ∃ q : Nat, p = q := ⟨p.toNat, by omega⟩
        obtain ⟨e1, e2, v1, v2, hc, hz⟩ := vldIB_cases hv
        cases sa with
        | true =>
          obtain ⟨z1, z2⟩ := hz rfl
          injection z1 with a1 a2 a3
          injection z2 with b1 b2 b3
          rw [a2, limbs_zero] at e1
          rw [b2, limbs_zero] at e2
          subst e1 e2 a1 a3 b1 b3
          have l1 : n = 0 := h.len.symm
          have l2 : n' = 0 := h'.len.symm
          subst l1 l2
          exact encl_all A c A' c' q p w h h' hT hM (by omega) (by omega) (by omega)
        | false =>
          obtain ⟨x, hx⟩ : ∃ x : D, x = ⟨na, val l, ea⟩ := ⟨_, rfl⟩
          obtain ⟨y, hy⟩ : ∃ x : D, x = ⟨na', val l', ea'⟩ := ⟨_, rfl⟩
          rw [← hx] at v1 hc
          rw [← hy] at v2 hc
          obtain rfl : na = x.neg := by rw [hx]
          obtain rfl : ea = x.e := by rw [hx]
          obtain rfl : na' = y.neg := by rw [hy]
          obtain rfl : ea' = y.e := by rw [hy]
          rw [e1, show val l = x.k by rw [hx]] at h
          rw [e2, show val l' = y.k by rw [hy]] at h'
          by_cases ht : 400 < topB x ∨ 400 < topB y
          · exact encl_high x y A n c A' n' c' q p w h h' hT hM v1 v2 hc (by omega) (by omega) (by omega) hg ht
          · exact encl_main x y A n c A' n' c' q p w h h' hT hM v1 v2 hc (by omega) (by omega) (by omega) hg (by omega) (by omega)
theorem decimalEncloses_any (na : Bool) (A : Option Addr) (n c : Nat) (ea : Int) (l : List Nat) (na' : Bool) (A' : Option Addr) (n' c' : Nat) (ea' : Int) (l' : List Nat) (sa : Bool) (dg p : Int) (w : World) (hT : RB w) (hM : MXL w) (h : Sl w A n c l) (h' : Sl w A' n' c' l')
    (i1 : -9223372036854775808 ≤ ea) (i2 : ea ≤ 9223372036854775807) (i3 : -9223372036854775808 ≤ ea') (i4 : ea' ≤ 9223372036854775807) (i5 : -9223372036854775808 ≤ dg) (i6 : dg ≤ 9223372036854775807) (i7 : -9223372036854775808 ≤ p) (i8 : p ≤ 9223372036854775807) :
    Calls Tryz.prog 5 #[.agg #[.bool na, .slice A n c, .int .i64 ea, .bool na', .slice A' n' c', .int .i64 ea', .bool sa], .int .i64 dg, .int .i64 p] w (Awk w) := encloses_any na A n c ea l na' A' n' c' ea' l' sa dg p w h h' hT hM
end Go.Proofs.YtffdkakogeofmaaGreatDoor
