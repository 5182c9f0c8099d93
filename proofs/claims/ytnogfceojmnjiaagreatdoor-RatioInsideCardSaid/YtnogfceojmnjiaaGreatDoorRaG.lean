/-
  The walks of ratio.Add, Sub, Mul, Div, Cmp.
-/
import Derived.Test.YtnogfceojmnjiaaGreatDoorRaB
import Derived.Laws.EntriesVeiled
set_option linter.unusedVariables false
namespace Go.Fl.Rt
theorem mulR_bd {a b : Int} (h1 : -1073741824 ≤ a) (h2 : a ≤ 1073741824) (h3 : -1073741824 ≤ b) (h4 : b ≤ 1073741824) : -1152921504606846976 ≤ a * b ∧ a * b ≤ 1152921504606846976 := by
  have h : (a * b).natAbs ≤ 1073741824 * 1073741824 := by
    rw [Int.natAbs_mul]
    exact Nat.mul_le_mul (by omega) (by omega)
  omega
/-- The result of an operation on two ratios, or ErrArg. -/
def opE (an ad bn bd : Int) (r : Int × Int × Int) : Int × Int × Int := if vB an ad && vB bn bd then r else (0, 0, 1)
def cmpE (an ad bn bd : Int) : Int := if vB an ad && vB bn bd then cmpR an ad bn bd else 0
theorem vB_bd {n d : Int} (h : vB n d = true) : 1 ≤ d ∧ d ≤ 1073741824 ∧ -1073741824 ≤ n ∧ n ≤ 1073741824 := by
  obtain ⟨h1, h2, h3, h4, _⟩ := vB_iff.1 h
  unfold MX at *
  omega
end Go.Fl.Rt
namespace Go.Proofs.YtnogfceojmnjiaaGreatDoor
open Go.RowKit Go.Fl Go.Fl.Nm Go.Fl.Dy Go.Fl.Rt
def PairQ (x y : Int) (w : World) (e : Ending) (w' : World) : Prop := e = .returned (.tuple #[.int .i64 x, .int .i64 y]) ∧ ∃ q, w' = w.drewN q

set_option maxHeartbeats 1000000 in
theorem cAdd (g h : Nat) (an ad bn bd : Int) (w : World) (va : vB an ad = true) (vb : vB bn bd = true) (hA : Blk w g 23 #[.int .i64 an, .int .i64 ad]) (hB : Blk w h 23 #[.int .i64 bn, .int .i64 bd]) :
    Calls Tryz.prog 66 #[.pointer (some ⟨g, 0, none⟩), .pointer (some ⟨h, 0, none⟩)] w (PairQ (an * bd + bn * ad) (ad * bd) w) := by
  have ba := vB_bd va
  have bb := vB_bd vb
  clear va vb
  have m0 := mulR_bd (a := an) (b := bd) (by omega) (by omega) (by omega) (by omega)
  have s0 : IntKind.i64.wrap (an * bd) = an * bd := IntWalk.i64_in _ (by omega)
  have m1 := mulR_bd (a := bn) (b := ad) (by omega) (by omega) (by omega) (by omega)
  have s1 : IntKind.i64.wrap (bn * ad) = bn * ad := IntWalk.i64_in _ (by omega)
  have m2 := mulR_bd (a := ad) (b := bd) (by omega) (by omega) (by omega) (by omega)
  have s2 : IntKind.i64.wrap (ad * bd) = ad * bd := IntWalk.i64_in _ (by omega)
  have sx : IntKind.i64.wrap (an * bd + bn * ad) = an * bd + bn * ad := IntWalk.i64_in _ (by omega)
  have p0 : w.cell? ⟨g, 0, none⟩ = some (.int .i64 an) := hA.cell 0
  have p1 : w.cell? ⟨g, 1, none⟩ = some (.int .i64 ad) := hA.cell 1
  have q0 : w.cell? ⟨h, 0, none⟩ = some (.int .i64 bn) := hB.cell 0
  have q1 : w.cell? ⟨h, 1, none⟩ = some (.int .i64 bd) := hB.cell 1
  clear hA hB
  go_enter Tryz.func66, Tryz.ntmps66
  go_wp2_with fail
  go_quiet (fail)
  go_wp2_with fail
  refine bodyPost_ret (v := .tuple #[.int .i64 (an * bd + bn * ad), .int .i64 (ad * bd)]) (by simp [results, Tryz.results66, go_sem]) rfl ?_
  exact ⟨rfl, _, rfl⟩

set_option maxHeartbeats 1000000 in
theorem bothAdd (g h : Nat) (an ad bn bd : Int) (w : World) (a1 : -9223372036854775808 ≤ an) (a2 : an ≤ 9223372036854775807) (a3 : -9223372036854775808 ≤ ad) (a4 : ad ≤ 9223372036854775807) (b1 : -9223372036854775808 ≤ bn) (b2 : bn ≤ 9223372036854775807) (b3 : -9223372036854775808 ≤ bd) (b4 : bd ≤ 9223372036854775807) (hA : Blk w g 23 #[.int .i64 an, .int .i64 ad]) (hB : Blk w h 23 #[.int .i64 bn, .int .i64 bd]) :
    Calls Tryz.prog 65 #[.agg #[.int .i64 an, .int .i64 ad], .agg #[.int .i64 bn, .int .i64 bd], .func (.func 66) #[] #[.pointer (some ⟨g, 0, none⟩), .pointer (some ⟨h, 0, none⟩)]] w (RtE (opE an ad bn bd (addR an ad bn bd)) w) := by
  have HA := Lib.hid hA
  have HB := Lib.hid hB
  clear hA hB
  cases va : vB an ad with
  | false =>
    have VA := Lib.hid va
    have HR := Lib.hid (show opE an ad bn bd (addR an ad bn bd) = (0, 0, 1) by unfold opE; rw [va]; rfl)
    clear va
    go_enter Tryz.func65, Tryz.ntmps65
    go_wp2_with fail
    obtain ⟨w1, hw⟩ : ∃ z9 : World, z9 = (((w.alloc (.cells #[.int .i64 an, .int .i64 ad] 23)).alloc (.cells #[.int .i64 bn, .int .i64 bd] 23)).alloc (.cells #[.int .i64 0, .int .i64 0] 23)) := ⟨_, rfl⟩
    have HB1 := Lib.hid (show Below w.heap.size w w1 by rw [hw]; exact below_a3 _ _ _ _)
    have F1A := Lib.hid (HA.out.belowW HB1.out)
    have F1B := Lib.hid (HB.out.belowW HB1.out)
    have F1ka := Lib.hid (show Blk w1 (w.heap.size) 23 #[.int .i64 an, .int .i64 ad] by rw [hw]; exact ((Blk.new _ _ _).alloc _).alloc _)
    have F1kb := Lib.hid (show Blk w1 (w.heap.size + 1) 23 #[.int .i64 bn, .int .i64 bd] by rw [hw]; exact (Blk.new1 _ _ _ _).alloc _)
    have F1r := Lib.hid (show Blk w1 (w.heap.size + 1 + 1) 23 #[.int .i64 0, .int .i64 0] by rw [hw]; exact Blk.new2 _ _ _ _ _)
    rw [← hw]
    clear hw
    refine (valid_q an ad w1 a1 a2 a3 a4).mono ?_
    rw [VA.out]
    rintro e w2 ⟨rfl, HB2⟩
    have F2A := Lib.hid (F1A.out.belowW HB2.out)
    have F2B := Lib.hid (F1B.out.belowW HB2.out)
    have F2ka := Lib.hid (F1ka.out.belowW HB2.out)
    have F2kb := Lib.hid (F1kb.out.belowW HB2.out)
    have F2r := Lib.hid (F1r.out.belowW HB2.out)
    have HL2 := Lib.hid (HB1.out.trans (HB2.out.mono HB1.out.size))
    have pr0 : (w2).cell? ⟨w.heap.size + 1 + 1, 0, none⟩ = some (.int .i64 0) := F2r.out.cell 0
    have fr0 : (w2).frozen? ⟨w.heap.size + 1 + 1, 0, none⟩ = false := F2r.out.frozen 0
    have pr1 : (w2).cell? ⟨w.heap.size + 1 + 1, 1, none⟩ = some (.int .i64 0) := F2r.out.cell 1
    have fr1 : (w2).frozen? ⟨w.heap.size + 1 + 1, 1, none⟩ = false := F2r.out.frozen 1
    go_wp2_with fail
    refine bodyPost_ret (v := .tuple #[.agg #[.int .i64 0, .int .i64 0], .int .i64 1]) (by simp [results, Tryz.results65, go_sem, pr0, pr1]) rfl ?_
    rw [HR.out]
    exact ⟨rfl, Lib.hid (store2_below HL2.out F2r.out _ _ (by omega))⟩
  | true =>
    have VA := Lib.hid va
    cases vb : vB bn bd with
    | false =>
      have VB := Lib.hid vb
      have HR := Lib.hid (show opE an ad bn bd (addR an ad bn bd) = (0, 0, 1) by unfold opE; rw [vb, Bool.and_false]; rfl)
      clear va vb
      go_enter Tryz.func65, Tryz.ntmps65
      go_wp2_with fail
      obtain ⟨w1, hw⟩ : ∃ z9 : World, z9 = (((w.alloc (.cells #[.int .i64 an, .int .i64 ad] 23)).alloc (.cells #[.int .i64 bn, .int .i64 bd] 23)).alloc (.cells #[.int .i64 0, .int .i64 0] 23)) := ⟨_, rfl⟩
      have HB1 := Lib.hid (show Below w.heap.size w w1 by rw [hw]; exact below_a3 _ _ _ _)
      have F1A := Lib.hid (HA.out.belowW HB1.out)
      have F1B := Lib.hid (HB.out.belowW HB1.out)
      have F1ka := Lib.hid (show Blk w1 (w.heap.size) 23 #[.int .i64 an, .int .i64 ad] by rw [hw]; exact ((Blk.new _ _ _).alloc _).alloc _)
      have F1kb := Lib.hid (show Blk w1 (w.heap.size + 1) 23 #[.int .i64 bn, .int .i64 bd] by rw [hw]; exact (Blk.new1 _ _ _ _).alloc _)
      have F1r := Lib.hid (show Blk w1 (w.heap.size + 1 + 1) 23 #[.int .i64 0, .int .i64 0] by rw [hw]; exact Blk.new2 _ _ _ _ _)
      rw [← hw]
      clear hw
      refine (valid_q an ad w1 a1 a2 a3 a4).mono ?_
      rw [VA.out]
      rintro e w2 ⟨rfl, HB2⟩
      have F2A := Lib.hid (F1A.out.belowW HB2.out)
      have F2B := Lib.hid (F1B.out.belowW HB2.out)
      have F2ka := Lib.hid (F1ka.out.belowW HB2.out)
      have F2kb := Lib.hid (F1kb.out.belowW HB2.out)
      have F2r := Lib.hid (F1r.out.belowW HB2.out)
      have HL2 := Lib.hid (HB1.out.trans (HB2.out.mono HB1.out.size))
      have pkb0 : (w2).cell? ⟨w.heap.size + 1, 0, none⟩ = some (.int .i64 bn) := F2kb.out.cell 0
      have fkb0 : (w2).frozen? ⟨w.heap.size + 1, 0, none⟩ = false := F2kb.out.frozen 0
      have pkb1 : (w2).cell? ⟨w.heap.size + 1, 1, none⟩ = some (.int .i64 bd) := F2kb.out.cell 1
      have fkb1 : (w2).frozen? ⟨w.heap.size + 1, 1, none⟩ = false := F2kb.out.frozen 1
      go_wp2_with fail
      refine (valid_q bn bd w2 b1 b2 b3 b4).mono ?_
      rw [VB.out]
      rintro e w3 ⟨rfl, HB3⟩
      have F3A := Lib.hid (F2A.out.belowW HB3.out)
      have F3B := Lib.hid (F2B.out.belowW HB3.out)
      have F3ka := Lib.hid (F2ka.out.belowW HB3.out)
      have F3kb := Lib.hid (F2kb.out.belowW HB3.out)
      have F3r := Lib.hid (F2r.out.belowW HB3.out)
      have HL3 := Lib.hid (HL2.out.trans (HB3.out.mono HL2.out.size))
      have pr0 : (w3).cell? ⟨w.heap.size + 1 + 1, 0, none⟩ = some (.int .i64 0) := F3r.out.cell 0
      have fr0 : (w3).frozen? ⟨w.heap.size + 1 + 1, 0, none⟩ = false := F3r.out.frozen 0
      have pr1 : (w3).cell? ⟨w.heap.size + 1 + 1, 1, none⟩ = some (.int .i64 0) := F3r.out.cell 1
      have fr1 : (w3).frozen? ⟨w.heap.size + 1 + 1, 1, none⟩ = false := F3r.out.frozen 1
      go_wp2_with fail
      refine bodyPost_ret (v := .tuple #[.agg #[.int .i64 0, .int .i64 0], .int .i64 1]) (by simp [results, Tryz.results65, go_sem, pr0, pr1]) rfl ?_
      rw [HR.out]
      exact ⟨rfl, Lib.hid (store2_below HL3.out F3r.out _ _ (by omega))⟩
    | true =>
      have VB := Lib.hid vb
      have HR := Lib.hid (show opE an ad bn bd (addR an ad bn bd) = make (an * bd + bn * ad) (ad * bd) by unfold opE; rw [va, vb]; rfl)
      have ba := vB_bd va
      have bb := vB_bd vb
      have m0 := mulR_bd (a := an) (b := bd) (by omega) (by omega) (by omega) (by omega)
      have m1 := mulR_bd (a := bn) (b := ad) (by omega) (by omega) (by omega) (by omega)
      have m2 := mulR_bd (a := ad) (b := bd) (by omega) (by omega) (by omega) (by omega)
      obtain ⟨X, hX⟩ : ∃ X, X = an * bd + bn * ad := ⟨_, rfl⟩
      obtain ⟨Y, hY⟩ : ∃ Y, Y = ad * bd := ⟨_, rfl⟩
      have x1 : -4611686018427387904 ≤ X ∧ X ≤ 4611686018427387904 := by rw [hX]; omega
      have y1 : -4611686018427387904 ≤ Y ∧ Y ≤ 4611686018427387904 := by rw [hY]; omega
      have HX := Lib.hid hX.symm
      have HY := Lib.hid hY.symm
      rw [← hX, ← hY] at HR
      clear va vb hX hY m0 m1 m2
      go_enter Tryz.func65, Tryz.ntmps65
      go_wp2_with fail
      obtain ⟨w1, hw⟩ : ∃ z9 : World, z9 = (((w.alloc (.cells #[.int .i64 an, .int .i64 ad] 23)).alloc (.cells #[.int .i64 bn, .int .i64 bd] 23)).alloc (.cells #[.int .i64 0, .int .i64 0] 23)) := ⟨_, rfl⟩
      have HB1 := Lib.hid (show Below w.heap.size w w1 by rw [hw]; exact below_a3 _ _ _ _)
      have F1A := Lib.hid (HA.out.belowW HB1.out)
      have F1B := Lib.hid (HB.out.belowW HB1.out)
      have F1ka := Lib.hid (show Blk w1 (w.heap.size) 23 #[.int .i64 an, .int .i64 ad] by rw [hw]; exact ((Blk.new _ _ _).alloc _).alloc _)
      have F1kb := Lib.hid (show Blk w1 (w.heap.size + 1) 23 #[.int .i64 bn, .int .i64 bd] by rw [hw]; exact (Blk.new1 _ _ _ _).alloc _)
      have F1r := Lib.hid (show Blk w1 (w.heap.size + 1 + 1) 23 #[.int .i64 0, .int .i64 0] by rw [hw]; exact Blk.new2 _ _ _ _ _)
      rw [← hw]
      clear hw
      refine (valid_q an ad w1 a1 a2 a3 a4).mono ?_
      rw [VA.out]
      rintro e w2 ⟨rfl, HB2⟩
      have F2A := Lib.hid (F1A.out.belowW HB2.out)
      have F2B := Lib.hid (F1B.out.belowW HB2.out)
      have F2ka := Lib.hid (F1ka.out.belowW HB2.out)
      have F2kb := Lib.hid (F1kb.out.belowW HB2.out)
      have F2r := Lib.hid (F1r.out.belowW HB2.out)
      have HL2 := Lib.hid (HB1.out.trans (HB2.out.mono HB1.out.size))
      have pkb0 : (w2).cell? ⟨w.heap.size + 1, 0, none⟩ = some (.int .i64 bn) := F2kb.out.cell 0
      have fkb0 : (w2).frozen? ⟨w.heap.size + 1, 0, none⟩ = false := F2kb.out.frozen 0
      have pkb1 : (w2).cell? ⟨w.heap.size + 1, 1, none⟩ = some (.int .i64 bd) := F2kb.out.cell 1
      have fkb1 : (w2).frozen? ⟨w.heap.size + 1, 1, none⟩ = false := F2kb.out.frozen 1
      go_wp2_with fail
      refine (valid_q bn bd w2 b1 b2 b3 b4).mono ?_
      rw [VB.out]
      rintro e w3 ⟨rfl, HB3⟩
      have F3A := Lib.hid (F2A.out.belowW HB3.out)
      have F3B := Lib.hid (F2B.out.belowW HB3.out)
      have F3ka := Lib.hid (F2ka.out.belowW HB3.out)
      have F3kb := Lib.hid (F2kb.out.belowW HB3.out)
      have F3r := Lib.hid (F2r.out.belowW HB3.out)
      have HL3 := Lib.hid (HL2.out.trans (HB3.out.mono HL2.out.size))
      go_wp2_with fail
      refine (cAdd g h an ad bn bd w3 VA.out VB.out F3A.out F3B.out).mono ?_
      rw [HX.out, HY.out]
      rintro e w9 ⟨rfl, qd, hqd⟩
      have HB9 := Lib.hid (show Below w3.heap.size w3 w9 by rw [hqd]; exact below_drewN (Below.refl _ _) qd)
      clear hqd
      have F9A := Lib.hid (F3A.out.belowW HB9.out)
      have F9B := Lib.hid (F3B.out.belowW HB9.out)
      have F9ka := Lib.hid (F3ka.out.belowW HB9.out)
      have F9kb := Lib.hid (F3kb.out.belowW HB9.out)
      have F9r := Lib.hid (F3r.out.belowW HB9.out)
      have HL9 := Lib.hid (HL3.out.trans (HB9.out.mono HL3.out.size))
      go_wp2_with fail
      refine (make_q X Y w9 (by omega) (by omega) (by omega) (by omega)).mono ?_
      rw [← HR.out]
      rintro e w10 ⟨rfl, HB10⟩
      have F10A := Lib.hid (F9A.out.belowW HB10.out)
      have F10B := Lib.hid (F9B.out.belowW HB10.out)
      have F10ka := Lib.hid (F9ka.out.belowW HB10.out)
      have F10kb := Lib.hid (F9kb.out.belowW HB10.out)
      have F10r := Lib.hid (F9r.out.belowW HB10.out)
      have HL10 := Lib.hid (HL9.out.trans (HB10.out.mono HL9.out.size))
      have pr0 : (w10).cell? ⟨w.heap.size + 1 + 1, 0, none⟩ = some (.int .i64 0) := F10r.out.cell 0
      have fr0 : (w10).frozen? ⟨w.heap.size + 1 + 1, 0, none⟩ = false := F10r.out.frozen 0
      have pr1 : (w10).cell? ⟨w.heap.size + 1 + 1, 1, none⟩ = some (.int .i64 0) := F10r.out.cell 1
      have fr1 : (w10).frozen? ⟨w.heap.size + 1 + 1, 1, none⟩ = false := F10r.out.frozen 1
      go_wp2_with fail
      refine bodyPost_ret (v := .tuple #[.agg #[.int .i64 (opE an ad bn bd (addR an ad bn bd)).1, .int .i64 (opE an ad bn bd (addR an ad bn bd)).2.1], .int .i64 (opE an ad bn bd (addR an ad bn bd)).2.2]) (by simp [results, Tryz.results65, go_sem, pr0, pr1]) rfl ?_
      exact ⟨rfl, Lib.hid (store2_below HL10.out F10r.out _ _ (by omega))⟩

set_option maxHeartbeats 1000000 in
theorem qAdd (an ad bn bd : Int) (w : World) (a1 : -9223372036854775808 ≤ an) (a2 : an ≤ 9223372036854775807) (a3 : -9223372036854775808 ≤ ad) (a4 : ad ≤ 9223372036854775807) (b1 : -9223372036854775808 ≤ bn) (b2 : bn ≤ 9223372036854775807) (b3 : -9223372036854775808 ≤ bd) (b4 : bd ≤ 9223372036854775807) :
    Calls Tryz.prog 26 #[.agg #[.int .i64 an, .int .i64 ad], .agg #[.int .i64 bn, .int .i64 bd]] w (RtE (opE an ad bn bd (addR an ad bn bd)) w) := by
  go_enter Tryz.func26, Tryz.ntmps26
  go_wp2_with fail
  obtain ⟨w1, hw⟩ : ∃ z9 : World, z9 = (((w.alloc (.cells #[.int .i64 an, .int .i64 ad] 23)).alloc (.cells #[.int .i64 bn, .int .i64 bd] 23)).alloc (.cells #[.int .i64 0, .int .i64 0] 23)) := ⟨_, rfl⟩
  have HB1 := Lib.hid (show Below w.heap.size w w1 by rw [hw]; exact below_a3 _ _ _ _)
  have F1ka := Lib.hid (show Blk w1 (w.heap.size) 23 #[.int .i64 an, .int .i64 ad] by rw [hw]; exact ((Blk.new _ _ _).alloc _).alloc _)
  have F1kb := Lib.hid (show Blk w1 (w.heap.size + 1) 23 #[.int .i64 bn, .int .i64 bd] by rw [hw]; exact (Blk.new1 _ _ _ _).alloc _)
  have F1r := Lib.hid (show Blk w1 (w.heap.size + 1 + 1) 23 #[.int .i64 0, .int .i64 0] by rw [hw]; exact Blk.new2 _ _ _ _ _)
  rw [← hw]
  clear hw
  refine (bothAdd w.heap.size (w.heap.size + 1) an ad bn bd w1 a1 a2 a3 a4 b1 b2 b3 b4 F1ka.out F1kb.out).mono ?_
  rintro e w2 ⟨rfl, HB2⟩
  have F2ka := Lib.hid (F1ka.out.belowW HB2.out)
  have F2kb := Lib.hid (F1kb.out.belowW HB2.out)
  have F2r := Lib.hid (F1r.out.belowW HB2.out)
  have HL2 := Lib.hid (HB1.out.trans (HB2.out.mono HB1.out.size))
  have pr0 : (w2).cell? ⟨w.heap.size + 1 + 1, 0, none⟩ = some (.int .i64 0) := F2r.out.cell 0
  have fr0 : (w2).frozen? ⟨w.heap.size + 1 + 1, 0, none⟩ = false := F2r.out.frozen 0
  have pr1 : (w2).cell? ⟨w.heap.size + 1 + 1, 1, none⟩ = some (.int .i64 0) := F2r.out.cell 1
  have fr1 : (w2).frozen? ⟨w.heap.size + 1 + 1, 1, none⟩ = false := F2r.out.frozen 1
  go_wp2_with fail
  refine bodyPost_ret (v := .tuple #[.agg #[.int .i64 (opE an ad bn bd (addR an ad bn bd)).1, .int .i64 (opE an ad bn bd (addR an ad bn bd)).2.1], .int .i64 (opE an ad bn bd (addR an ad bn bd)).2.2]) (by simp [results, Tryz.results26, go_sem, pr0, pr1]) rfl ?_
  exact ⟨rfl, Lib.hid (store2_below HL2.out F2r.out _ _ (by omega))⟩

set_option maxHeartbeats 1000000 in
theorem cSub (g h : Nat) (an ad bn bd : Int) (w : World) (va : vB an ad = true) (vb : vB bn bd = true) (hA : Blk w g 23 #[.int .i64 an, .int .i64 ad]) (hB : Blk w h 23 #[.int .i64 bn, .int .i64 bd]) :
    Calls Tryz.prog 67 #[.pointer (some ⟨g, 0, none⟩), .pointer (some ⟨h, 0, none⟩)] w (PairQ (an * bd - bn * ad) (ad * bd) w) := by
  have ba := vB_bd va
  have bb := vB_bd vb
  clear va vb
  have m0 := mulR_bd (a := an) (b := bd) (by omega) (by omega) (by omega) (by omega)
  have s0 : IntKind.i64.wrap (an * bd) = an * bd := IntWalk.i64_in _ (by omega)
  have m1 := mulR_bd (a := bn) (b := ad) (by omega) (by omega) (by omega) (by omega)
  have s1 : IntKind.i64.wrap (bn * ad) = bn * ad := IntWalk.i64_in _ (by omega)
  have m2 := mulR_bd (a := ad) (b := bd) (by omega) (by omega) (by omega) (by omega)
  have s2 : IntKind.i64.wrap (ad * bd) = ad * bd := IntWalk.i64_in _ (by omega)
  have sx : IntKind.i64.wrap (an * bd - bn * ad) = an * bd - bn * ad := IntWalk.i64_in _ (by omega)
  have p0 : w.cell? ⟨g, 0, none⟩ = some (.int .i64 an) := hA.cell 0
  have p1 : w.cell? ⟨g, 1, none⟩ = some (.int .i64 ad) := hA.cell 1
  have q0 : w.cell? ⟨h, 0, none⟩ = some (.int .i64 bn) := hB.cell 0
  have q1 : w.cell? ⟨h, 1, none⟩ = some (.int .i64 bd) := hB.cell 1
  clear hA hB
  go_enter Tryz.func67, Tryz.ntmps67
  go_wp2_with fail
  go_quiet (fail)
  go_wp2_with fail
  refine bodyPost_ret (v := .tuple #[.int .i64 (an * bd - bn * ad), .int .i64 (ad * bd)]) (by simp [results, Tryz.results67, go_sem]) rfl ?_
  exact ⟨rfl, _, rfl⟩

set_option maxHeartbeats 1000000 in
theorem bothSub (g h : Nat) (an ad bn bd : Int) (w : World) (a1 : -9223372036854775808 ≤ an) (a2 : an ≤ 9223372036854775807) (a3 : -9223372036854775808 ≤ ad) (a4 : ad ≤ 9223372036854775807) (b1 : -9223372036854775808 ≤ bn) (b2 : bn ≤ 9223372036854775807) (b3 : -9223372036854775808 ≤ bd) (b4 : bd ≤ 9223372036854775807) (hA : Blk w g 23 #[.int .i64 an, .int .i64 ad]) (hB : Blk w h 23 #[.int .i64 bn, .int .i64 bd]) :
    Calls Tryz.prog 65 #[.agg #[.int .i64 an, .int .i64 ad], .agg #[.int .i64 bn, .int .i64 bd], .func (.func 67) #[] #[.pointer (some ⟨g, 0, none⟩), .pointer (some ⟨h, 0, none⟩)]] w (RtE (opE an ad bn bd (subR an ad bn bd)) w) := by
  have HA := Lib.hid hA
  have HB := Lib.hid hB
  clear hA hB
  cases va : vB an ad with
  | false =>
    have VA := Lib.hid va
    have HR := Lib.hid (show opE an ad bn bd (subR an ad bn bd) = (0, 0, 1) by unfold opE; rw [va]; rfl)
    clear va
    go_enter Tryz.func65, Tryz.ntmps65
    go_wp2_with fail
    obtain ⟨w1, hw⟩ : ∃ z9 : World, z9 = (((w.alloc (.cells #[.int .i64 an, .int .i64 ad] 23)).alloc (.cells #[.int .i64 bn, .int .i64 bd] 23)).alloc (.cells #[.int .i64 0, .int .i64 0] 23)) := ⟨_, rfl⟩
    have HB1 := Lib.hid (show Below w.heap.size w w1 by rw [hw]; exact below_a3 _ _ _ _)
    have F1A := Lib.hid (HA.out.belowW HB1.out)
    have F1B := Lib.hid (HB.out.belowW HB1.out)
    have F1ka := Lib.hid (show Blk w1 (w.heap.size) 23 #[.int .i64 an, .int .i64 ad] by rw [hw]; exact ((Blk.new _ _ _).alloc _).alloc _)
    have F1kb := Lib.hid (show Blk w1 (w.heap.size + 1) 23 #[.int .i64 bn, .int .i64 bd] by rw [hw]; exact (Blk.new1 _ _ _ _).alloc _)
    have F1r := Lib.hid (show Blk w1 (w.heap.size + 1 + 1) 23 #[.int .i64 0, .int .i64 0] by rw [hw]; exact Blk.new2 _ _ _ _ _)
    rw [← hw]
    clear hw
    refine (valid_q an ad w1 a1 a2 a3 a4).mono ?_
    rw [VA.out]
    rintro e w2 ⟨rfl, HB2⟩
    have F2A := Lib.hid (F1A.out.belowW HB2.out)
    have F2B := Lib.hid (F1B.out.belowW HB2.out)
    have F2ka := Lib.hid (F1ka.out.belowW HB2.out)
    have F2kb := Lib.hid (F1kb.out.belowW HB2.out)
    have F2r := Lib.hid (F1r.out.belowW HB2.out)
    have HL2 := Lib.hid (HB1.out.trans (HB2.out.mono HB1.out.size))
    have pr0 : (w2).cell? ⟨w.heap.size + 1 + 1, 0, none⟩ = some (.int .i64 0) := F2r.out.cell 0
    have fr0 : (w2).frozen? ⟨w.heap.size + 1 + 1, 0, none⟩ = false := F2r.out.frozen 0
    have pr1 : (w2).cell? ⟨w.heap.size + 1 + 1, 1, none⟩ = some (.int .i64 0) := F2r.out.cell 1
    have fr1 : (w2).frozen? ⟨w.heap.size + 1 + 1, 1, none⟩ = false := F2r.out.frozen 1
    go_wp2_with fail
    refine bodyPost_ret (v := .tuple #[.agg #[.int .i64 0, .int .i64 0], .int .i64 1]) (by simp [results, Tryz.results65, go_sem, pr0, pr1]) rfl ?_
    rw [HR.out]
    exact ⟨rfl, Lib.hid (store2_below HL2.out F2r.out _ _ (by omega))⟩
  | true =>
    have VA := Lib.hid va
    cases vb : vB bn bd with
    | false =>
      have VB := Lib.hid vb
      have HR := Lib.hid (show opE an ad bn bd (subR an ad bn bd) = (0, 0, 1) by unfold opE; rw [vb, Bool.and_false]; rfl)
      clear va vb
      go_enter Tryz.func65, Tryz.ntmps65
      go_wp2_with fail
      obtain ⟨w1, hw⟩ : ∃ z9 : World, z9 = (((w.alloc (.cells #[.int .i64 an, .int .i64 ad] 23)).alloc (.cells #[.int .i64 bn, .int .i64 bd] 23)).alloc (.cells #[.int .i64 0, .int .i64 0] 23)) := ⟨_, rfl⟩
      have HB1 := Lib.hid (show Below w.heap.size w w1 by rw [hw]; exact below_a3 _ _ _ _)
      have F1A := Lib.hid (HA.out.belowW HB1.out)
      have F1B := Lib.hid (HB.out.belowW HB1.out)
      have F1ka := Lib.hid (show Blk w1 (w.heap.size) 23 #[.int .i64 an, .int .i64 ad] by rw [hw]; exact ((Blk.new _ _ _).alloc _).alloc _)
      have F1kb := Lib.hid (show Blk w1 (w.heap.size + 1) 23 #[.int .i64 bn, .int .i64 bd] by rw [hw]; exact (Blk.new1 _ _ _ _).alloc _)
      have F1r := Lib.hid (show Blk w1 (w.heap.size + 1 + 1) 23 #[.int .i64 0, .int .i64 0] by rw [hw]; exact Blk.new2 _ _ _ _ _)
      rw [← hw]
      clear hw
      refine (valid_q an ad w1 a1 a2 a3 a4).mono ?_
      rw [VA.out]
      rintro e w2 ⟨rfl, HB2⟩
      have F2A := Lib.hid (F1A.out.belowW HB2.out)
      have F2B := Lib.hid (F1B.out.belowW HB2.out)
      have F2ka := Lib.hid (F1ka.out.belowW HB2.out)
      have F2kb := Lib.hid (F1kb.out.belowW HB2.out)
      have F2r := Lib.hid (F1r.out.belowW HB2.out)
      have HL2 := Lib.hid (HB1.out.trans (HB2.out.mono HB1.out.size))
      have pkb0 : (w2).cell? ⟨w.heap.size + 1, 0, none⟩ = some (.int .i64 bn) := F2kb.out.cell 0
      have fkb0 : (w2).frozen? ⟨w.heap.size + 1, 0, none⟩ = false := F2kb.out.frozen 0
      have pkb1 : (w2).cell? ⟨w.heap.size + 1, 1, none⟩ = some (.int .i64 bd) := F2kb.out.cell 1
      have fkb1 : (w2).frozen? ⟨w.heap.size + 1, 1, none⟩ = false := F2kb.out.frozen 1
      go_wp2_with fail
      refine (valid_q bn bd w2 b1 b2 b3 b4).mono ?_
      rw [VB.out]
      rintro e w3 ⟨rfl, HB3⟩
      have F3A := Lib.hid (F2A.out.belowW HB3.out)
      have F3B := Lib.hid (F2B.out.belowW HB3.out)
      have F3ka := Lib.hid (F2ka.out.belowW HB3.out)
      have F3kb := Lib.hid (F2kb.out.belowW HB3.out)
      have F3r := Lib.hid (F2r.out.belowW HB3.out)
      have HL3 := Lib.hid (HL2.out.trans (HB3.out.mono HL2.out.size))
      have pr0 : (w3).cell? ⟨w.heap.size + 1 + 1, 0, none⟩ = some (.int .i64 0) := F3r.out.cell 0
      have fr0 : (w3).frozen? ⟨w.heap.size + 1 + 1, 0, none⟩ = false := F3r.out.frozen 0
      have pr1 : (w3).cell? ⟨w.heap.size + 1 + 1, 1, none⟩ = some (.int .i64 0) := F3r.out.cell 1
      have fr1 : (w3).frozen? ⟨w.heap.size + 1 + 1, 1, none⟩ = false := F3r.out.frozen 1
      go_wp2_with fail
      refine bodyPost_ret (v := .tuple #[.agg #[.int .i64 0, .int .i64 0], .int .i64 1]) (by simp [results, Tryz.results65, go_sem, pr0, pr1]) rfl ?_
      rw [HR.out]
      exact ⟨rfl, Lib.hid (store2_below HL3.out F3r.out _ _ (by omega))⟩
    | true =>
      have VB := Lib.hid vb
      have HR := Lib.hid (show opE an ad bn bd (subR an ad bn bd) = make (an * bd - bn * ad) (ad * bd) by unfold opE; rw [va, vb]; rfl)
      have ba := vB_bd va
      have bb := vB_bd vb
      have m0 := mulR_bd (a := an) (b := bd) (by omega) (by omega) (by omega) (by omega)
      have m1 := mulR_bd (a := bn) (b := ad) (by omega) (by omega) (by omega) (by omega)
      have m2 := mulR_bd (a := ad) (b := bd) (by omega) (by omega) (by omega) (by omega)
      obtain ⟨X, hX⟩ : ∃ X, X = an * bd - bn * ad := ⟨_, rfl⟩
      obtain ⟨Y, hY⟩ : ∃ Y, Y = ad * bd := ⟨_, rfl⟩
      have x1 : -4611686018427387904 ≤ X ∧ X ≤ 4611686018427387904 := by rw [hX]; omega
      have y1 : -4611686018427387904 ≤ Y ∧ Y ≤ 4611686018427387904 := by rw [hY]; omega
      have HX := Lib.hid hX.symm
      have HY := Lib.hid hY.symm
      rw [← hX, ← hY] at HR
      clear va vb hX hY m0 m1 m2
      go_enter Tryz.func65, Tryz.ntmps65
      go_wp2_with fail
      obtain ⟨w1, hw⟩ : ∃ z9 : World, z9 = (((w.alloc (.cells #[.int .i64 an, .int .i64 ad] 23)).alloc (.cells #[.int .i64 bn, .int .i64 bd] 23)).alloc (.cells #[.int .i64 0, .int .i64 0] 23)) := ⟨_, rfl⟩
      have HB1 := Lib.hid (show Below w.heap.size w w1 by rw [hw]; exact below_a3 _ _ _ _)
      have F1A := Lib.hid (HA.out.belowW HB1.out)
      have F1B := Lib.hid (HB.out.belowW HB1.out)
      have F1ka := Lib.hid (show Blk w1 (w.heap.size) 23 #[.int .i64 an, .int .i64 ad] by rw [hw]; exact ((Blk.new _ _ _).alloc _).alloc _)
      have F1kb := Lib.hid (show Blk w1 (w.heap.size + 1) 23 #[.int .i64 bn, .int .i64 bd] by rw [hw]; exact (Blk.new1 _ _ _ _).alloc _)
      have F1r := Lib.hid (show Blk w1 (w.heap.size + 1 + 1) 23 #[.int .i64 0, .int .i64 0] by rw [hw]; exact Blk.new2 _ _ _ _ _)
      rw [← hw]
      clear hw
      refine (valid_q an ad w1 a1 a2 a3 a4).mono ?_
      rw [VA.out]
      rintro e w2 ⟨rfl, HB2⟩
      have F2A := Lib.hid (F1A.out.belowW HB2.out)
      have F2B := Lib.hid (F1B.out.belowW HB2.out)
      have F2ka := Lib.hid (F1ka.out.belowW HB2.out)
      have F2kb := Lib.hid (F1kb.out.belowW HB2.out)
      have F2r := Lib.hid (F1r.out.belowW HB2.out)
      have HL2 := Lib.hid (HB1.out.trans (HB2.out.mono HB1.out.size))
      have pkb0 : (w2).cell? ⟨w.heap.size + 1, 0, none⟩ = some (.int .i64 bn) := F2kb.out.cell 0
      have fkb0 : (w2).frozen? ⟨w.heap.size + 1, 0, none⟩ = false := F2kb.out.frozen 0
      have pkb1 : (w2).cell? ⟨w.heap.size + 1, 1, none⟩ = some (.int .i64 bd) := F2kb.out.cell 1
      have fkb1 : (w2).frozen? ⟨w.heap.size + 1, 1, none⟩ = false := F2kb.out.frozen 1
      go_wp2_with fail
      refine (valid_q bn bd w2 b1 b2 b3 b4).mono ?_
      rw [VB.out]
      rintro e w3 ⟨rfl, HB3⟩
      have F3A := Lib.hid (F2A.out.belowW HB3.out)
      have F3B := Lib.hid (F2B.out.belowW HB3.out)
      have F3ka := Lib.hid (F2ka.out.belowW HB3.out)
      have F3kb := Lib.hid (F2kb.out.belowW HB3.out)
      have F3r := Lib.hid (F2r.out.belowW HB3.out)
      have HL3 := Lib.hid (HL2.out.trans (HB3.out.mono HL2.out.size))
      go_wp2_with fail
      refine (cSub g h an ad bn bd w3 VA.out VB.out F3A.out F3B.out).mono ?_
      rw [HX.out, HY.out]
      rintro e w9 ⟨rfl, qd, hqd⟩
      have HB9 := Lib.hid (show Below w3.heap.size w3 w9 by rw [hqd]; exact below_drewN (Below.refl _ _) qd)
      clear hqd
      have F9A := Lib.hid (F3A.out.belowW HB9.out)
      have F9B := Lib.hid (F3B.out.belowW HB9.out)
      have F9ka := Lib.hid (F3ka.out.belowW HB9.out)
      have F9kb := Lib.hid (F3kb.out.belowW HB9.out)
      have F9r := Lib.hid (F3r.out.belowW HB9.out)
      have HL9 := Lib.hid (HL3.out.trans (HB9.out.mono HL3.out.size))
      go_wp2_with fail
      refine (make_q X Y w9 (by omega) (by omega) (by omega) (by omega)).mono ?_
      rw [← HR.out]
      rintro e w10 ⟨rfl, HB10⟩
      have F10A := Lib.hid (F9A.out.belowW HB10.out)
      have F10B := Lib.hid (F9B.out.belowW HB10.out)
      have F10ka := Lib.hid (F9ka.out.belowW HB10.out)
      have F10kb := Lib.hid (F9kb.out.belowW HB10.out)
      have F10r := Lib.hid (F9r.out.belowW HB10.out)
      have HL10 := Lib.hid (HL9.out.trans (HB10.out.mono HL9.out.size))
      have pr0 : (w10).cell? ⟨w.heap.size + 1 + 1, 0, none⟩ = some (.int .i64 0) := F10r.out.cell 0
      have fr0 : (w10).frozen? ⟨w.heap.size + 1 + 1, 0, none⟩ = false := F10r.out.frozen 0
      have pr1 : (w10).cell? ⟨w.heap.size + 1 + 1, 1, none⟩ = some (.int .i64 0) := F10r.out.cell 1
      have fr1 : (w10).frozen? ⟨w.heap.size + 1 + 1, 1, none⟩ = false := F10r.out.frozen 1
      go_wp2_with fail
      refine bodyPost_ret (v := .tuple #[.agg #[.int .i64 (opE an ad bn bd (subR an ad bn bd)).1, .int .i64 (opE an ad bn bd (subR an ad bn bd)).2.1], .int .i64 (opE an ad bn bd (subR an ad bn bd)).2.2]) (by simp [results, Tryz.results65, go_sem, pr0, pr1]) rfl ?_
      exact ⟨rfl, Lib.hid (store2_below HL10.out F10r.out _ _ (by omega))⟩

set_option maxHeartbeats 1000000 in
theorem qSub (an ad bn bd : Int) (w : World) (a1 : -9223372036854775808 ≤ an) (a2 : an ≤ 9223372036854775807) (a3 : -9223372036854775808 ≤ ad) (a4 : ad ≤ 9223372036854775807) (b1 : -9223372036854775808 ≤ bn) (b2 : bn ≤ 9223372036854775807) (b3 : -9223372036854775808 ≤ bd) (b4 : bd ≤ 9223372036854775807) :
    Calls Tryz.prog 27 #[.agg #[.int .i64 an, .int .i64 ad], .agg #[.int .i64 bn, .int .i64 bd]] w (RtE (opE an ad bn bd (subR an ad bn bd)) w) := by
  go_enter Tryz.func27, Tryz.ntmps27
  go_wp2_with fail
  obtain ⟨w1, hw⟩ : ∃ z9 : World, z9 = (((w.alloc (.cells #[.int .i64 an, .int .i64 ad] 23)).alloc (.cells #[.int .i64 bn, .int .i64 bd] 23)).alloc (.cells #[.int .i64 0, .int .i64 0] 23)) := ⟨_, rfl⟩
  have HB1 := Lib.hid (show Below w.heap.size w w1 by rw [hw]; exact below_a3 _ _ _ _)
  have F1ka := Lib.hid (show Blk w1 (w.heap.size) 23 #[.int .i64 an, .int .i64 ad] by rw [hw]; exact ((Blk.new _ _ _).alloc _).alloc _)
  have F1kb := Lib.hid (show Blk w1 (w.heap.size + 1) 23 #[.int .i64 bn, .int .i64 bd] by rw [hw]; exact (Blk.new1 _ _ _ _).alloc _)
  have F1r := Lib.hid (show Blk w1 (w.heap.size + 1 + 1) 23 #[.int .i64 0, .int .i64 0] by rw [hw]; exact Blk.new2 _ _ _ _ _)
  rw [← hw]
  clear hw
  refine (bothSub w.heap.size (w.heap.size + 1) an ad bn bd w1 a1 a2 a3 a4 b1 b2 b3 b4 F1ka.out F1kb.out).mono ?_
  rintro e w2 ⟨rfl, HB2⟩
  have F2ka := Lib.hid (F1ka.out.belowW HB2.out)
  have F2kb := Lib.hid (F1kb.out.belowW HB2.out)
  have F2r := Lib.hid (F1r.out.belowW HB2.out)
  have HL2 := Lib.hid (HB1.out.trans (HB2.out.mono HB1.out.size))
  have pr0 : (w2).cell? ⟨w.heap.size + 1 + 1, 0, none⟩ = some (.int .i64 0) := F2r.out.cell 0
  have fr0 : (w2).frozen? ⟨w.heap.size + 1 + 1, 0, none⟩ = false := F2r.out.frozen 0
  have pr1 : (w2).cell? ⟨w.heap.size + 1 + 1, 1, none⟩ = some (.int .i64 0) := F2r.out.cell 1
  have fr1 : (w2).frozen? ⟨w.heap.size + 1 + 1, 1, none⟩ = false := F2r.out.frozen 1
  go_wp2_with fail
  refine bodyPost_ret (v := .tuple #[.agg #[.int .i64 (opE an ad bn bd (subR an ad bn bd)).1, .int .i64 (opE an ad bn bd (subR an ad bn bd)).2.1], .int .i64 (opE an ad bn bd (subR an ad bn bd)).2.2]) (by simp [results, Tryz.results27, go_sem, pr0, pr1]) rfl ?_
  exact ⟨rfl, Lib.hid (store2_below HL2.out F2r.out _ _ (by omega))⟩

set_option maxHeartbeats 1000000 in
theorem cMul (g h : Nat) (an ad bn bd : Int) (w : World) (va : vB an ad = true) (vb : vB bn bd = true) (hA : Blk w g 23 #[.int .i64 an, .int .i64 ad]) (hB : Blk w h 23 #[.int .i64 bn, .int .i64 bd]) :
    Calls Tryz.prog 68 #[.pointer (some ⟨g, 0, none⟩), .pointer (some ⟨h, 0, none⟩)] w (PairQ (an * bn) (ad * bd) w) := by
  have ba := vB_bd va
  have bb := vB_bd vb
  clear va vb
  have m0 := mulR_bd (a := ad) (b := bd) (by omega) (by omega) (by omega) (by omega)
  have s0 : IntKind.i64.wrap (ad * bd) = ad * bd := IntWalk.i64_in _ (by omega)
  have m1 := mulR_bd (a := an) (b := bn) (by omega) (by omega) (by omega) (by omega)
  have s1 : IntKind.i64.wrap (an * bn) = an * bn := IntWalk.i64_in _ (by omega)
  have p0 : w.cell? ⟨g, 0, none⟩ = some (.int .i64 an) := hA.cell 0
  have p1 : w.cell? ⟨g, 1, none⟩ = some (.int .i64 ad) := hA.cell 1
  have q0 : w.cell? ⟨h, 0, none⟩ = some (.int .i64 bn) := hB.cell 0
  have q1 : w.cell? ⟨h, 1, none⟩ = some (.int .i64 bd) := hB.cell 1
  clear hA hB
  go_enter Tryz.func68, Tryz.ntmps68
  go_wp2_with fail
  go_quiet (fail)
  go_wp2_with fail
  refine bodyPost_ret (v := .tuple #[.int .i64 (an * bn), .int .i64 (ad * bd)]) (by simp [results, Tryz.results68, go_sem]) rfl ?_
  exact ⟨rfl, _, rfl⟩

set_option maxHeartbeats 1000000 in
theorem bothMul (g h : Nat) (an ad bn bd : Int) (w : World) (a1 : -9223372036854775808 ≤ an) (a2 : an ≤ 9223372036854775807) (a3 : -9223372036854775808 ≤ ad) (a4 : ad ≤ 9223372036854775807) (b1 : -9223372036854775808 ≤ bn) (b2 : bn ≤ 9223372036854775807) (b3 : -9223372036854775808 ≤ bd) (b4 : bd ≤ 9223372036854775807) (hA : Blk w g 23 #[.int .i64 an, .int .i64 ad]) (hB : Blk w h 23 #[.int .i64 bn, .int .i64 bd]) :
    Calls Tryz.prog 65 #[.agg #[.int .i64 an, .int .i64 ad], .agg #[.int .i64 bn, .int .i64 bd], .func (.func 68) #[] #[.pointer (some ⟨g, 0, none⟩), .pointer (some ⟨h, 0, none⟩)]] w (RtE (opE an ad bn bd (mulR an ad bn bd)) w) := by
  have HA := Lib.hid hA
  have HB := Lib.hid hB
  clear hA hB
  cases va : vB an ad with
  | false =>
    have VA := Lib.hid va
    have HR := Lib.hid (show opE an ad bn bd (mulR an ad bn bd) = (0, 0, 1) by unfold opE; rw [va]; rfl)
    clear va
    go_enter Tryz.func65, Tryz.ntmps65
    go_wp2_with fail
    obtain ⟨w1, hw⟩ : ∃ z9 : World, z9 = (((w.alloc (.cells #[.int .i64 an, .int .i64 ad] 23)).alloc (.cells #[.int .i64 bn, .int .i64 bd] 23)).alloc (.cells #[.int .i64 0, .int .i64 0] 23)) := ⟨_, rfl⟩
    have HB1 := Lib.hid (show Below w.heap.size w w1 by rw [hw]; exact below_a3 _ _ _ _)
    have F1A := Lib.hid (HA.out.belowW HB1.out)
    have F1B := Lib.hid (HB.out.belowW HB1.out)
    have F1ka := Lib.hid (show Blk w1 (w.heap.size) 23 #[.int .i64 an, .int .i64 ad] by rw [hw]; exact ((Blk.new _ _ _).alloc _).alloc _)
    have F1kb := Lib.hid (show Blk w1 (w.heap.size + 1) 23 #[.int .i64 bn, .int .i64 bd] by rw [hw]; exact (Blk.new1 _ _ _ _).alloc _)
    have F1r := Lib.hid (show Blk w1 (w.heap.size + 1 + 1) 23 #[.int .i64 0, .int .i64 0] by rw [hw]; exact Blk.new2 _ _ _ _ _)
    rw [← hw]
    clear hw
    refine (valid_q an ad w1 a1 a2 a3 a4).mono ?_
    rw [VA.out]
    rintro e w2 ⟨rfl, HB2⟩
    have F2A := Lib.hid (F1A.out.belowW HB2.out)
    have F2B := Lib.hid (F1B.out.belowW HB2.out)
    have F2ka := Lib.hid (F1ka.out.belowW HB2.out)
    have F2kb := Lib.hid (F1kb.out.belowW HB2.out)
    have F2r := Lib.hid (F1r.out.belowW HB2.out)
    have HL2 := Lib.hid (HB1.out.trans (HB2.out.mono HB1.out.size))
    have pr0 : (w2).cell? ⟨w.heap.size + 1 + 1, 0, none⟩ = some (.int .i64 0) := F2r.out.cell 0
    have fr0 : (w2).frozen? ⟨w.heap.size + 1 + 1, 0, none⟩ = false := F2r.out.frozen 0
    have pr1 : (w2).cell? ⟨w.heap.size + 1 + 1, 1, none⟩ = some (.int .i64 0) := F2r.out.cell 1
    have fr1 : (w2).frozen? ⟨w.heap.size + 1 + 1, 1, none⟩ = false := F2r.out.frozen 1
    go_wp2_with fail
    refine bodyPost_ret (v := .tuple #[.agg #[.int .i64 0, .int .i64 0], .int .i64 1]) (by simp [results, Tryz.results65, go_sem, pr0, pr1]) rfl ?_
    rw [HR.out]
    exact ⟨rfl, Lib.hid (store2_below HL2.out F2r.out _ _ (by omega))⟩
  | true =>
    have VA := Lib.hid va
    cases vb : vB bn bd with
    | false =>
      have VB := Lib.hid vb
      have HR := Lib.hid (show opE an ad bn bd (mulR an ad bn bd) = (0, 0, 1) by unfold opE; rw [vb, Bool.and_false]; rfl)
      clear va vb
      go_enter Tryz.func65, Tryz.ntmps65
      go_wp2_with fail
      obtain ⟨w1, hw⟩ : ∃ z9 : World, z9 = (((w.alloc (.cells #[.int .i64 an, .int .i64 ad] 23)).alloc (.cells #[.int .i64 bn, .int .i64 bd] 23)).alloc (.cells #[.int .i64 0, .int .i64 0] 23)) := ⟨_, rfl⟩
      have HB1 := Lib.hid (show Below w.heap.size w w1 by rw [hw]; exact below_a3 _ _ _ _)
      have F1A := Lib.hid (HA.out.belowW HB1.out)
      have F1B := Lib.hid (HB.out.belowW HB1.out)
      have F1ka := Lib.hid (show Blk w1 (w.heap.size) 23 #[.int .i64 an, .int .i64 ad] by rw [hw]; exact ((Blk.new _ _ _).alloc _).alloc _)
      have F1kb := Lib.hid (show Blk w1 (w.heap.size + 1) 23 #[.int .i64 bn, .int .i64 bd] by rw [hw]; exact (Blk.new1 _ _ _ _).alloc _)
      have F1r := Lib.hid (show Blk w1 (w.heap.size + 1 + 1) 23 #[.int .i64 0, .int .i64 0] by rw [hw]; exact Blk.new2 _ _ _ _ _)
      rw [← hw]
      clear hw
      refine (valid_q an ad w1 a1 a2 a3 a4).mono ?_
      rw [VA.out]
      rintro e w2 ⟨rfl, HB2⟩
      have F2A := Lib.hid (F1A.out.belowW HB2.out)
      have F2B := Lib.hid (F1B.out.belowW HB2.out)
      have F2ka := Lib.hid (F1ka.out.belowW HB2.out)
      have F2kb := Lib.hid (F1kb.out.belowW HB2.out)
      have F2r := Lib.hid (F1r.out.belowW HB2.out)
      have HL2 := Lib.hid (HB1.out.trans (HB2.out.mono HB1.out.size))
      have pkb0 : (w2).cell? ⟨w.heap.size + 1, 0, none⟩ = some (.int .i64 bn) := F2kb.out.cell 0
      have fkb0 : (w2).frozen? ⟨w.heap.size + 1, 0, none⟩ = false := F2kb.out.frozen 0
      have pkb1 : (w2).cell? ⟨w.heap.size + 1, 1, none⟩ = some (.int .i64 bd) := F2kb.out.cell 1
      have fkb1 : (w2).frozen? ⟨w.heap.size + 1, 1, none⟩ = false := F2kb.out.frozen 1
      go_wp2_with fail
      refine (valid_q bn bd w2 b1 b2 b3 b4).mono ?_
      rw [VB.out]
      rintro e w3 ⟨rfl, HB3⟩
      have F3A := Lib.hid (F2A.out.belowW HB3.out)
      have F3B := Lib.hid (F2B.out.belowW HB3.out)
      have F3ka := Lib.hid (F2ka.out.belowW HB3.out)
      have F3kb := Lib.hid (F2kb.out.belowW HB3.out)
      have F3r := Lib.hid (F2r.out.belowW HB3.out)
      have HL3 := Lib.hid (HL2.out.trans (HB3.out.mono HL2.out.size))
      have pr0 : (w3).cell? ⟨w.heap.size + 1 + 1, 0, none⟩ = some (.int .i64 0) := F3r.out.cell 0
      have fr0 : (w3).frozen? ⟨w.heap.size + 1 + 1, 0, none⟩ = false := F3r.out.frozen 0
      have pr1 : (w3).cell? ⟨w.heap.size + 1 + 1, 1, none⟩ = some (.int .i64 0) := F3r.out.cell 1
      have fr1 : (w3).frozen? ⟨w.heap.size + 1 + 1, 1, none⟩ = false := F3r.out.frozen 1
      go_wp2_with fail
      refine bodyPost_ret (v := .tuple #[.agg #[.int .i64 0, .int .i64 0], .int .i64 1]) (by simp [results, Tryz.results65, go_sem, pr0, pr1]) rfl ?_
      rw [HR.out]
      exact ⟨rfl, Lib.hid (store2_below HL3.out F3r.out _ _ (by omega))⟩
    | true =>
      have VB := Lib.hid vb
      have HR := Lib.hid (show opE an ad bn bd (mulR an ad bn bd) = make (an * bn) (ad * bd) by unfold opE; rw [va, vb]; rfl)
      have ba := vB_bd va
      have bb := vB_bd vb
      have m0 := mulR_bd (a := ad) (b := bd) (by omega) (by omega) (by omega) (by omega)
      have m1 := mulR_bd (a := an) (b := bn) (by omega) (by omega) (by omega) (by omega)
      obtain ⟨X, hX⟩ : ∃ X, X = an * bn := ⟨_, rfl⟩
      obtain ⟨Y, hY⟩ : ∃ Y, Y = ad * bd := ⟨_, rfl⟩
      have x1 : -4611686018427387904 ≤ X ∧ X ≤ 4611686018427387904 := by rw [hX]; omega
      have y1 : -4611686018427387904 ≤ Y ∧ Y ≤ 4611686018427387904 := by rw [hY]; omega
      have HX := Lib.hid hX.symm
      have HY := Lib.hid hY.symm
      rw [← hX, ← hY] at HR
      clear va vb hX hY m0 m1
      go_enter Tryz.func65, Tryz.ntmps65
      go_wp2_with fail
      obtain ⟨w1, hw⟩ : ∃ z9 : World, z9 = (((w.alloc (.cells #[.int .i64 an, .int .i64 ad] 23)).alloc (.cells #[.int .i64 bn, .int .i64 bd] 23)).alloc (.cells #[.int .i64 0, .int .i64 0] 23)) := ⟨_, rfl⟩
      have HB1 := Lib.hid (show Below w.heap.size w w1 by rw [hw]; exact below_a3 _ _ _ _)
      have F1A := Lib.hid (HA.out.belowW HB1.out)
      have F1B := Lib.hid (HB.out.belowW HB1.out)
      have F1ka := Lib.hid (show Blk w1 (w.heap.size) 23 #[.int .i64 an, .int .i64 ad] by rw [hw]; exact ((Blk.new _ _ _).alloc _).alloc _)
      have F1kb := Lib.hid (show Blk w1 (w.heap.size + 1) 23 #[.int .i64 bn, .int .i64 bd] by rw [hw]; exact (Blk.new1 _ _ _ _).alloc _)
      have F1r := Lib.hid (show Blk w1 (w.heap.size + 1 + 1) 23 #[.int .i64 0, .int .i64 0] by rw [hw]; exact Blk.new2 _ _ _ _ _)
      rw [← hw]
      clear hw
      refine (valid_q an ad w1 a1 a2 a3 a4).mono ?_
      rw [VA.out]
      rintro e w2 ⟨rfl, HB2⟩
      have F2A := Lib.hid (F1A.out.belowW HB2.out)
      have F2B := Lib.hid (F1B.out.belowW HB2.out)
      have F2ka := Lib.hid (F1ka.out.belowW HB2.out)
      have F2kb := Lib.hid (F1kb.out.belowW HB2.out)
      have F2r := Lib.hid (F1r.out.belowW HB2.out)
      have HL2 := Lib.hid (HB1.out.trans (HB2.out.mono HB1.out.size))
      have pkb0 : (w2).cell? ⟨w.heap.size + 1, 0, none⟩ = some (.int .i64 bn) := F2kb.out.cell 0
      have fkb0 : (w2).frozen? ⟨w.heap.size + 1, 0, none⟩ = false := F2kb.out.frozen 0
      have pkb1 : (w2).cell? ⟨w.heap.size + 1, 1, none⟩ = some (.int .i64 bd) := F2kb.out.cell 1
      have fkb1 : (w2).frozen? ⟨w.heap.size + 1, 1, none⟩ = false := F2kb.out.frozen 1
      go_wp2_with fail
      refine (valid_q bn bd w2 b1 b2 b3 b4).mono ?_
      rw [VB.out]
      rintro e w3 ⟨rfl, HB3⟩
      have F3A := Lib.hid (F2A.out.belowW HB3.out)
      have F3B := Lib.hid (F2B.out.belowW HB3.out)
      have F3ka := Lib.hid (F2ka.out.belowW HB3.out)
      have F3kb := Lib.hid (F2kb.out.belowW HB3.out)
      have F3r := Lib.hid (F2r.out.belowW HB3.out)
      have HL3 := Lib.hid (HL2.out.trans (HB3.out.mono HL2.out.size))
      go_wp2_with fail
      refine (cMul g h an ad bn bd w3 VA.out VB.out F3A.out F3B.out).mono ?_
      rw [HX.out, HY.out]
      rintro e w9 ⟨rfl, qd, hqd⟩
      have HB9 := Lib.hid (show Below w3.heap.size w3 w9 by rw [hqd]; exact below_drewN (Below.refl _ _) qd)
      clear hqd
      have F9A := Lib.hid (F3A.out.belowW HB9.out)
      have F9B := Lib.hid (F3B.out.belowW HB9.out)
      have F9ka := Lib.hid (F3ka.out.belowW HB9.out)
      have F9kb := Lib.hid (F3kb.out.belowW HB9.out)
      have F9r := Lib.hid (F3r.out.belowW HB9.out)
      have HL9 := Lib.hid (HL3.out.trans (HB9.out.mono HL3.out.size))
      go_wp2_with fail
      refine (make_q X Y w9 (by omega) (by omega) (by omega) (by omega)).mono ?_
      rw [← HR.out]
      rintro e w10 ⟨rfl, HB10⟩
      have F10A := Lib.hid (F9A.out.belowW HB10.out)
      have F10B := Lib.hid (F9B.out.belowW HB10.out)
      have F10ka := Lib.hid (F9ka.out.belowW HB10.out)
      have F10kb := Lib.hid (F9kb.out.belowW HB10.out)
      have F10r := Lib.hid (F9r.out.belowW HB10.out)
      have HL10 := Lib.hid (HL9.out.trans (HB10.out.mono HL9.out.size))
      have pr0 : (w10).cell? ⟨w.heap.size + 1 + 1, 0, none⟩ = some (.int .i64 0) := F10r.out.cell 0
      have fr0 : (w10).frozen? ⟨w.heap.size + 1 + 1, 0, none⟩ = false := F10r.out.frozen 0
      have pr1 : (w10).cell? ⟨w.heap.size + 1 + 1, 1, none⟩ = some (.int .i64 0) := F10r.out.cell 1
      have fr1 : (w10).frozen? ⟨w.heap.size + 1 + 1, 1, none⟩ = false := F10r.out.frozen 1
      go_wp2_with fail
      refine bodyPost_ret (v := .tuple #[.agg #[.int .i64 (opE an ad bn bd (mulR an ad bn bd)).1, .int .i64 (opE an ad bn bd (mulR an ad bn bd)).2.1], .int .i64 (opE an ad bn bd (mulR an ad bn bd)).2.2]) (by simp [results, Tryz.results65, go_sem, pr0, pr1]) rfl ?_
      exact ⟨rfl, Lib.hid (store2_below HL10.out F10r.out _ _ (by omega))⟩

set_option maxHeartbeats 1000000 in
theorem qMul (an ad bn bd : Int) (w : World) (a1 : -9223372036854775808 ≤ an) (a2 : an ≤ 9223372036854775807) (a3 : -9223372036854775808 ≤ ad) (a4 : ad ≤ 9223372036854775807) (b1 : -9223372036854775808 ≤ bn) (b2 : bn ≤ 9223372036854775807) (b3 : -9223372036854775808 ≤ bd) (b4 : bd ≤ 9223372036854775807) :
    Calls Tryz.prog 28 #[.agg #[.int .i64 an, .int .i64 ad], .agg #[.int .i64 bn, .int .i64 bd]] w (RtE (opE an ad bn bd (mulR an ad bn bd)) w) := by
  go_enter Tryz.func28, Tryz.ntmps28
  go_wp2_with fail
  obtain ⟨w1, hw⟩ : ∃ z9 : World, z9 = (((w.alloc (.cells #[.int .i64 an, .int .i64 ad] 23)).alloc (.cells #[.int .i64 bn, .int .i64 bd] 23)).alloc (.cells #[.int .i64 0, .int .i64 0] 23)) := ⟨_, rfl⟩
  have HB1 := Lib.hid (show Below w.heap.size w w1 by rw [hw]; exact below_a3 _ _ _ _)
  have F1ka := Lib.hid (show Blk w1 (w.heap.size) 23 #[.int .i64 an, .int .i64 ad] by rw [hw]; exact ((Blk.new _ _ _).alloc _).alloc _)
  have F1kb := Lib.hid (show Blk w1 (w.heap.size + 1) 23 #[.int .i64 bn, .int .i64 bd] by rw [hw]; exact (Blk.new1 _ _ _ _).alloc _)
  have F1r := Lib.hid (show Blk w1 (w.heap.size + 1 + 1) 23 #[.int .i64 0, .int .i64 0] by rw [hw]; exact Blk.new2 _ _ _ _ _)
  rw [← hw]
  clear hw
  refine (bothMul w.heap.size (w.heap.size + 1) an ad bn bd w1 a1 a2 a3 a4 b1 b2 b3 b4 F1ka.out F1kb.out).mono ?_
  rintro e w2 ⟨rfl, HB2⟩
  have F2ka := Lib.hid (F1ka.out.belowW HB2.out)
  have F2kb := Lib.hid (F1kb.out.belowW HB2.out)
  have F2r := Lib.hid (F1r.out.belowW HB2.out)
  have HL2 := Lib.hid (HB1.out.trans (HB2.out.mono HB1.out.size))
  have pr0 : (w2).cell? ⟨w.heap.size + 1 + 1, 0, none⟩ = some (.int .i64 0) := F2r.out.cell 0
  have fr0 : (w2).frozen? ⟨w.heap.size + 1 + 1, 0, none⟩ = false := F2r.out.frozen 0
  have pr1 : (w2).cell? ⟨w.heap.size + 1 + 1, 1, none⟩ = some (.int .i64 0) := F2r.out.cell 1
  have fr1 : (w2).frozen? ⟨w.heap.size + 1 + 1, 1, none⟩ = false := F2r.out.frozen 1
  go_wp2_with fail
  refine bodyPost_ret (v := .tuple #[.agg #[.int .i64 (opE an ad bn bd (mulR an ad bn bd)).1, .int .i64 (opE an ad bn bd (mulR an ad bn bd)).2.1], .int .i64 (opE an ad bn bd (mulR an ad bn bd)).2.2]) (by simp [results, Tryz.results28, go_sem, pr0, pr1]) rfl ?_
  exact ⟨rfl, Lib.hid (store2_below HL2.out F2r.out _ _ (by omega))⟩

set_option maxHeartbeats 1000000 in
theorem cDiv (g h : Nat) (an ad bn bd : Int) (w : World) (va : vB an ad = true) (vb : vB bn bd = true) (hA : Blk w g 23 #[.int .i64 an, .int .i64 ad]) (hB : Blk w h 23 #[.int .i64 bn, .int .i64 bd]) :
    Calls Tryz.prog 69 #[.pointer (some ⟨g, 0, none⟩), .pointer (some ⟨h, 0, none⟩)] w (PairQ (an * bd) (ad * bn) w) := by
  have ba := vB_bd va
  have bb := vB_bd vb
  clear va vb
  have m0 := mulR_bd (a := an) (b := bd) (by omega) (by omega) (by omega) (by omega)
  have s0 : IntKind.i64.wrap (an * bd) = an * bd := IntWalk.i64_in _ (by omega)
  have m1 := mulR_bd (a := ad) (b := bn) (by omega) (by omega) (by omega) (by omega)
  have s1 : IntKind.i64.wrap (ad * bn) = ad * bn := IntWalk.i64_in _ (by omega)
  have p0 : w.cell? ⟨g, 0, none⟩ = some (.int .i64 an) := hA.cell 0
  have p1 : w.cell? ⟨g, 1, none⟩ = some (.int .i64 ad) := hA.cell 1
  have q0 : w.cell? ⟨h, 0, none⟩ = some (.int .i64 bn) := hB.cell 0
  have q1 : w.cell? ⟨h, 1, none⟩ = some (.int .i64 bd) := hB.cell 1
  clear hA hB
  go_enter Tryz.func69, Tryz.ntmps69
  go_wp2_with fail
  go_quiet (fail)
  go_wp2_with fail
  refine bodyPost_ret (v := .tuple #[.int .i64 (an * bd), .int .i64 (ad * bn)]) (by simp [results, Tryz.results69, go_sem]) rfl ?_
  exact ⟨rfl, _, rfl⟩

set_option maxHeartbeats 1000000 in
theorem bothDiv (g h : Nat) (an ad bn bd : Int) (w : World) (a1 : -9223372036854775808 ≤ an) (a2 : an ≤ 9223372036854775807) (a3 : -9223372036854775808 ≤ ad) (a4 : ad ≤ 9223372036854775807) (b1 : -9223372036854775808 ≤ bn) (b2 : bn ≤ 9223372036854775807) (b3 : -9223372036854775808 ≤ bd) (b4 : bd ≤ 9223372036854775807) (hA : Blk w g 23 #[.int .i64 an, .int .i64 ad]) (hB : Blk w h 23 #[.int .i64 bn, .int .i64 bd]) :
    Calls Tryz.prog 65 #[.agg #[.int .i64 an, .int .i64 ad], .agg #[.int .i64 bn, .int .i64 bd], .func (.func 69) #[] #[.pointer (some ⟨g, 0, none⟩), .pointer (some ⟨h, 0, none⟩)]] w (RtE (opE an ad bn bd (divR an ad bn bd)) w) := by
  have HA := Lib.hid hA
  have HB := Lib.hid hB
  clear hA hB
  cases va : vB an ad with
  | false =>
    have VA := Lib.hid va
    have HR := Lib.hid (show opE an ad bn bd (divR an ad bn bd) = (0, 0, 1) by unfold opE; rw [va]; rfl)
    clear va
    go_enter Tryz.func65, Tryz.ntmps65
    go_wp2_with fail
    obtain ⟨w1, hw⟩ : ∃ z9 : World, z9 = (((w.alloc (.cells #[.int .i64 an, .int .i64 ad] 23)).alloc (.cells #[.int .i64 bn, .int .i64 bd] 23)).alloc (.cells #[.int .i64 0, .int .i64 0] 23)) := ⟨_, rfl⟩
    have HB1 := Lib.hid (show Below w.heap.size w w1 by rw [hw]; exact below_a3 _ _ _ _)
    have F1A := Lib.hid (HA.out.belowW HB1.out)
    have F1B := Lib.hid (HB.out.belowW HB1.out)
    have F1ka := Lib.hid (show Blk w1 (w.heap.size) 23 #[.int .i64 an, .int .i64 ad] by rw [hw]; exact ((Blk.new _ _ _).alloc _).alloc _)
    have F1kb := Lib.hid (show Blk w1 (w.heap.size + 1) 23 #[.int .i64 bn, .int .i64 bd] by rw [hw]; exact (Blk.new1 _ _ _ _).alloc _)
    have F1r := Lib.hid (show Blk w1 (w.heap.size + 1 + 1) 23 #[.int .i64 0, .int .i64 0] by rw [hw]; exact Blk.new2 _ _ _ _ _)
    rw [← hw]
    clear hw
    refine (valid_q an ad w1 a1 a2 a3 a4).mono ?_
    rw [VA.out]
    rintro e w2 ⟨rfl, HB2⟩
    have F2A := Lib.hid (F1A.out.belowW HB2.out)
    have F2B := Lib.hid (F1B.out.belowW HB2.out)
    have F2ka := Lib.hid (F1ka.out.belowW HB2.out)
    have F2kb := Lib.hid (F1kb.out.belowW HB2.out)
    have F2r := Lib.hid (F1r.out.belowW HB2.out)
    have HL2 := Lib.hid (HB1.out.trans (HB2.out.mono HB1.out.size))
    have pr0 : (w2).cell? ⟨w.heap.size + 1 + 1, 0, none⟩ = some (.int .i64 0) := F2r.out.cell 0
    have fr0 : (w2).frozen? ⟨w.heap.size + 1 + 1, 0, none⟩ = false := F2r.out.frozen 0
    have pr1 : (w2).cell? ⟨w.heap.size + 1 + 1, 1, none⟩ = some (.int .i64 0) := F2r.out.cell 1
    have fr1 : (w2).frozen? ⟨w.heap.size + 1 + 1, 1, none⟩ = false := F2r.out.frozen 1
    go_wp2_with fail
    refine bodyPost_ret (v := .tuple #[.agg #[.int .i64 0, .int .i64 0], .int .i64 1]) (by simp [results, Tryz.results65, go_sem, pr0, pr1]) rfl ?_
    rw [HR.out]
    exact ⟨rfl, Lib.hid (store2_below HL2.out F2r.out _ _ (by omega))⟩
  | true =>
    have VA := Lib.hid va
    cases vb : vB bn bd with
    | false =>
      have VB := Lib.hid vb
      have HR := Lib.hid (show opE an ad bn bd (divR an ad bn bd) = (0, 0, 1) by unfold opE; rw [vb, Bool.and_false]; rfl)
      clear va vb
      go_enter Tryz.func65, Tryz.ntmps65
      go_wp2_with fail
      obtain ⟨w1, hw⟩ : ∃ z9 : World, z9 = (((w.alloc (.cells #[.int .i64 an, .int .i64 ad] 23)).alloc (.cells #[.int .i64 bn, .int .i64 bd] 23)).alloc (.cells #[.int .i64 0, .int .i64 0] 23)) := ⟨_, rfl⟩
      have HB1 := Lib.hid (show Below w.heap.size w w1 by rw [hw]; exact below_a3 _ _ _ _)
      have F1A := Lib.hid (HA.out.belowW HB1.out)
      have F1B := Lib.hid (HB.out.belowW HB1.out)
      have F1ka := Lib.hid (show Blk w1 (w.heap.size) 23 #[.int .i64 an, .int .i64 ad] by rw [hw]; exact ((Blk.new _ _ _).alloc _).alloc _)
      have F1kb := Lib.hid (show Blk w1 (w.heap.size + 1) 23 #[.int .i64 bn, .int .i64 bd] by rw [hw]; exact (Blk.new1 _ _ _ _).alloc _)
      have F1r := Lib.hid (show Blk w1 (w.heap.size + 1 + 1) 23 #[.int .i64 0, .int .i64 0] by rw [hw]; exact Blk.new2 _ _ _ _ _)
      rw [← hw]
      clear hw
      refine (valid_q an ad w1 a1 a2 a3 a4).mono ?_
      rw [VA.out]
      rintro e w2 ⟨rfl, HB2⟩
      have F2A := Lib.hid (F1A.out.belowW HB2.out)
      have F2B := Lib.hid (F1B.out.belowW HB2.out)
      have F2ka := Lib.hid (F1ka.out.belowW HB2.out)
      have F2kb := Lib.hid (F1kb.out.belowW HB2.out)
      have F2r := Lib.hid (F1r.out.belowW HB2.out)
      have HL2 := Lib.hid (HB1.out.trans (HB2.out.mono HB1.out.size))
      have pkb0 : (w2).cell? ⟨w.heap.size + 1, 0, none⟩ = some (.int .i64 bn) := F2kb.out.cell 0
      have fkb0 : (w2).frozen? ⟨w.heap.size + 1, 0, none⟩ = false := F2kb.out.frozen 0
      have pkb1 : (w2).cell? ⟨w.heap.size + 1, 1, none⟩ = some (.int .i64 bd) := F2kb.out.cell 1
      have fkb1 : (w2).frozen? ⟨w.heap.size + 1, 1, none⟩ = false := F2kb.out.frozen 1
      go_wp2_with fail
      refine (valid_q bn bd w2 b1 b2 b3 b4).mono ?_
      rw [VB.out]
      rintro e w3 ⟨rfl, HB3⟩
      have F3A := Lib.hid (F2A.out.belowW HB3.out)
      have F3B := Lib.hid (F2B.out.belowW HB3.out)
      have F3ka := Lib.hid (F2ka.out.belowW HB3.out)
      have F3kb := Lib.hid (F2kb.out.belowW HB3.out)
      have F3r := Lib.hid (F2r.out.belowW HB3.out)
      have HL3 := Lib.hid (HL2.out.trans (HB3.out.mono HL2.out.size))
      have pr0 : (w3).cell? ⟨w.heap.size + 1 + 1, 0, none⟩ = some (.int .i64 0) := F3r.out.cell 0
      have fr0 : (w3).frozen? ⟨w.heap.size + 1 + 1, 0, none⟩ = false := F3r.out.frozen 0
      have pr1 : (w3).cell? ⟨w.heap.size + 1 + 1, 1, none⟩ = some (.int .i64 0) := F3r.out.cell 1
      have fr1 : (w3).frozen? ⟨w.heap.size + 1 + 1, 1, none⟩ = false := F3r.out.frozen 1
      go_wp2_with fail
      refine bodyPost_ret (v := .tuple #[.agg #[.int .i64 0, .int .i64 0], .int .i64 1]) (by simp [results, Tryz.results65, go_sem, pr0, pr1]) rfl ?_
      rw [HR.out]
      exact ⟨rfl, Lib.hid (store2_below HL3.out F3r.out _ _ (by omega))⟩
    | true =>
      have VB := Lib.hid vb
      have HR := Lib.hid (show opE an ad bn bd (divR an ad bn bd) = make (an * bd) (ad * bn) by unfold opE; rw [va, vb]; rfl)
      have ba := vB_bd va
      have bb := vB_bd vb
      have m0 := mulR_bd (a := an) (b := bd) (by omega) (by omega) (by omega) (by omega)
      have m1 := mulR_bd (a := ad) (b := bn) (by omega) (by omega) (by omega) (by omega)
      obtain ⟨X, hX⟩ : ∃ X, X = an * bd := ⟨_, rfl⟩
      obtain ⟨Y, hY⟩ : ∃ Y, Y = ad * bn := ⟨_, rfl⟩
      have x1 : -4611686018427387904 ≤ X ∧ X ≤ 4611686018427387904 := by rw [hX]; omega
      have y1 : -4611686018427387904 ≤ Y ∧ Y ≤ 4611686018427387904 := by rw [hY]; omega
      have HX := Lib.hid hX.symm
      have HY := Lib.hid hY.symm
      rw [← hX, ← hY] at HR
      clear va vb hX hY m0 m1
      go_enter Tryz.func65, Tryz.ntmps65
      go_wp2_with fail
      obtain ⟨w1, hw⟩ : ∃ z9 : World, z9 = (((w.alloc (.cells #[.int .i64 an, .int .i64 ad] 23)).alloc (.cells #[.int .i64 bn, .int .i64 bd] 23)).alloc (.cells #[.int .i64 0, .int .i64 0] 23)) := ⟨_, rfl⟩
      have HB1 := Lib.hid (show Below w.heap.size w w1 by rw [hw]; exact below_a3 _ _ _ _)
      have F1A := Lib.hid (HA.out.belowW HB1.out)
      have F1B := Lib.hid (HB.out.belowW HB1.out)
      have F1ka := Lib.hid (show Blk w1 (w.heap.size) 23 #[.int .i64 an, .int .i64 ad] by rw [hw]; exact ((Blk.new _ _ _).alloc _).alloc _)
      have F1kb := Lib.hid (show Blk w1 (w.heap.size + 1) 23 #[.int .i64 bn, .int .i64 bd] by rw [hw]; exact (Blk.new1 _ _ _ _).alloc _)
      have F1r := Lib.hid (show Blk w1 (w.heap.size + 1 + 1) 23 #[.int .i64 0, .int .i64 0] by rw [hw]; exact Blk.new2 _ _ _ _ _)
      rw [← hw]
      clear hw
      refine (valid_q an ad w1 a1 a2 a3 a4).mono ?_
      rw [VA.out]
      rintro e w2 ⟨rfl, HB2⟩
      have F2A := Lib.hid (F1A.out.belowW HB2.out)
      have F2B := Lib.hid (F1B.out.belowW HB2.out)
      have F2ka := Lib.hid (F1ka.out.belowW HB2.out)
      have F2kb := Lib.hid (F1kb.out.belowW HB2.out)
      have F2r := Lib.hid (F1r.out.belowW HB2.out)
      have HL2 := Lib.hid (HB1.out.trans (HB2.out.mono HB1.out.size))
      have pkb0 : (w2).cell? ⟨w.heap.size + 1, 0, none⟩ = some (.int .i64 bn) := F2kb.out.cell 0
      have fkb0 : (w2).frozen? ⟨w.heap.size + 1, 0, none⟩ = false := F2kb.out.frozen 0
      have pkb1 : (w2).cell? ⟨w.heap.size + 1, 1, none⟩ = some (.int .i64 bd) := F2kb.out.cell 1
      have fkb1 : (w2).frozen? ⟨w.heap.size + 1, 1, none⟩ = false := F2kb.out.frozen 1
      go_wp2_with fail
      refine (valid_q bn bd w2 b1 b2 b3 b4).mono ?_
      rw [VB.out]
      rintro e w3 ⟨rfl, HB3⟩
      have F3A := Lib.hid (F2A.out.belowW HB3.out)
      have F3B := Lib.hid (F2B.out.belowW HB3.out)
      have F3ka := Lib.hid (F2ka.out.belowW HB3.out)
      have F3kb := Lib.hid (F2kb.out.belowW HB3.out)
      have F3r := Lib.hid (F2r.out.belowW HB3.out)
      have HL3 := Lib.hid (HL2.out.trans (HB3.out.mono HL2.out.size))
      go_wp2_with fail
      refine (cDiv g h an ad bn bd w3 VA.out VB.out F3A.out F3B.out).mono ?_
      rw [HX.out, HY.out]
      rintro e w9 ⟨rfl, qd, hqd⟩
      have HB9 := Lib.hid (show Below w3.heap.size w3 w9 by rw [hqd]; exact below_drewN (Below.refl _ _) qd)
      clear hqd
      have F9A := Lib.hid (F3A.out.belowW HB9.out)
      have F9B := Lib.hid (F3B.out.belowW HB9.out)
      have F9ka := Lib.hid (F3ka.out.belowW HB9.out)
      have F9kb := Lib.hid (F3kb.out.belowW HB9.out)
      have F9r := Lib.hid (F3r.out.belowW HB9.out)
      have HL9 := Lib.hid (HL3.out.trans (HB9.out.mono HL3.out.size))
      go_wp2_with fail
      refine (make_q X Y w9 (by omega) (by omega) (by omega) (by omega)).mono ?_
      rw [← HR.out]
      rintro e w10 ⟨rfl, HB10⟩
      have F10A := Lib.hid (F9A.out.belowW HB10.out)
      have F10B := Lib.hid (F9B.out.belowW HB10.out)
      have F10ka := Lib.hid (F9ka.out.belowW HB10.out)
      have F10kb := Lib.hid (F9kb.out.belowW HB10.out)
      have F10r := Lib.hid (F9r.out.belowW HB10.out)
      have HL10 := Lib.hid (HL9.out.trans (HB10.out.mono HL9.out.size))
      have pr0 : (w10).cell? ⟨w.heap.size + 1 + 1, 0, none⟩ = some (.int .i64 0) := F10r.out.cell 0
      have fr0 : (w10).frozen? ⟨w.heap.size + 1 + 1, 0, none⟩ = false := F10r.out.frozen 0
      have pr1 : (w10).cell? ⟨w.heap.size + 1 + 1, 1, none⟩ = some (.int .i64 0) := F10r.out.cell 1
      have fr1 : (w10).frozen? ⟨w.heap.size + 1 + 1, 1, none⟩ = false := F10r.out.frozen 1
      go_wp2_with fail
      refine bodyPost_ret (v := .tuple #[.agg #[.int .i64 (opE an ad bn bd (divR an ad bn bd)).1, .int .i64 (opE an ad bn bd (divR an ad bn bd)).2.1], .int .i64 (opE an ad bn bd (divR an ad bn bd)).2.2]) (by simp [results, Tryz.results65, go_sem, pr0, pr1]) rfl ?_
      exact ⟨rfl, Lib.hid (store2_below HL10.out F10r.out _ _ (by omega))⟩

set_option maxHeartbeats 1000000 in
theorem qDiv (an ad bn bd : Int) (w : World) (a1 : -9223372036854775808 ≤ an) (a2 : an ≤ 9223372036854775807) (a3 : -9223372036854775808 ≤ ad) (a4 : ad ≤ 9223372036854775807) (b1 : -9223372036854775808 ≤ bn) (b2 : bn ≤ 9223372036854775807) (b3 : -9223372036854775808 ≤ bd) (b4 : bd ≤ 9223372036854775807) :
    Calls Tryz.prog 29 #[.agg #[.int .i64 an, .int .i64 ad], .agg #[.int .i64 bn, .int .i64 bd]] w (RtE (opE an ad bn bd (divR an ad bn bd)) w) := by
  go_enter Tryz.func29, Tryz.ntmps29
  go_wp2_with fail
  obtain ⟨w1, hw⟩ : ∃ z9 : World, z9 = (((w.alloc (.cells #[.int .i64 an, .int .i64 ad] 23)).alloc (.cells #[.int .i64 bn, .int .i64 bd] 23)).alloc (.cells #[.int .i64 0, .int .i64 0] 23)) := ⟨_, rfl⟩
  have HB1 := Lib.hid (show Below w.heap.size w w1 by rw [hw]; exact below_a3 _ _ _ _)
  have F1ka := Lib.hid (show Blk w1 (w.heap.size) 23 #[.int .i64 an, .int .i64 ad] by rw [hw]; exact ((Blk.new _ _ _).alloc _).alloc _)
  have F1kb := Lib.hid (show Blk w1 (w.heap.size + 1) 23 #[.int .i64 bn, .int .i64 bd] by rw [hw]; exact (Blk.new1 _ _ _ _).alloc _)
  have F1r := Lib.hid (show Blk w1 (w.heap.size + 1 + 1) 23 #[.int .i64 0, .int .i64 0] by rw [hw]; exact Blk.new2 _ _ _ _ _)
  rw [← hw]
  clear hw
  refine (bothDiv w.heap.size (w.heap.size + 1) an ad bn bd w1 a1 a2 a3 a4 b1 b2 b3 b4 F1ka.out F1kb.out).mono ?_
  rintro e w2 ⟨rfl, HB2⟩
  have F2ka := Lib.hid (F1ka.out.belowW HB2.out)
  have F2kb := Lib.hid (F1kb.out.belowW HB2.out)
  have F2r := Lib.hid (F1r.out.belowW HB2.out)
  have HL2 := Lib.hid (HB1.out.trans (HB2.out.mono HB1.out.size))
  have pr0 : (w2).cell? ⟨w.heap.size + 1 + 1, 0, none⟩ = some (.int .i64 0) := F2r.out.cell 0
  have fr0 : (w2).frozen? ⟨w.heap.size + 1 + 1, 0, none⟩ = false := F2r.out.frozen 0
  have pr1 : (w2).cell? ⟨w.heap.size + 1 + 1, 1, none⟩ = some (.int .i64 0) := F2r.out.cell 1
  have fr1 : (w2).frozen? ⟨w.heap.size + 1 + 1, 1, none⟩ = false := F2r.out.frozen 1
  go_wp2_with fail
  refine bodyPost_ret (v := .tuple #[.agg #[.int .i64 (opE an ad bn bd (divR an ad bn bd)).1, .int .i64 (opE an ad bn bd (divR an ad bn bd)).2.1], .int .i64 (opE an ad bn bd (divR an ad bn bd)).2.2]) (by simp [results, Tryz.results29, go_sem, pr0, pr1]) rfl ?_
  exact ⟨rfl, Lib.hid (store2_below HL2.out F2r.out _ _ (by omega))⟩

set_option maxHeartbeats 1000000 in
theorem qCmp (an ad bn bd : Int) (w : World) (a1 : -9223372036854775808 ≤ an) (a2 : an ≤ 9223372036854775807) (a3 : -9223372036854775808 ≤ ad) (a4 : ad ≤ 9223372036854775807) (b1 : -9223372036854775808 ≤ bn) (b2 : bn ≤ 9223372036854775807) (b3 : -9223372036854775808 ≤ bd) (b4 : bd ≤ 9223372036854775807) :
    Calls Tryz.prog 34 #[.agg #[.int .i64 an, .int .i64 ad], .agg #[.int .i64 bn, .int .i64 bd]] w (Ret (.int .i64 (cmpE an ad bn bd)) w) := by
  cases va : vB an ad with
  | false =>
    have VA := Lib.hid va
    have HR := Lib.hid (show cmpE an ad bn bd = 0 by unfold cmpE; rw [va]; rfl)
    clear va
    go_enter Tryz.func34, Tryz.ntmps34
    go_wp2_with fail
    obtain ⟨w1, hw⟩ : ∃ z9 : World, z9 = ((w.alloc (.cells #[.int .i64 an, .int .i64 ad] 23)).alloc (.cells #[.int .i64 bn, .int .i64 bd] 23)) := ⟨_, rfl⟩
    have HB1 := Lib.hid (show Below w.heap.size w w1 by rw [hw]; exact below_a2 _ _ _)
    have F1ka := Lib.hid (show Blk w1 (w.heap.size) 23 #[.int .i64 an, .int .i64 ad] by rw [hw]; exact (Blk.new _ _ _).alloc _)
    have F1kb := Lib.hid (show Blk w1 (w.heap.size + 1) 23 #[.int .i64 bn, .int .i64 bd] by rw [hw]; exact Blk.new1 _ _ _ _)
    rw [← hw]
    clear hw
    refine (valid_q an ad w1 a1 a2 a3 a4).mono ?_
    rw [VA.out]
    rintro e w2 ⟨rfl, HB2⟩
    have F2ka := Lib.hid (F1ka.out.belowW HB2.out)
    have F2kb := Lib.hid (F1kb.out.belowW HB2.out)
    have HL2 := Lib.hid (HB1.out.trans (HB2.out.mono HB1.out.size))
    go_wp2_with fail
    go_ret
    exact ⟨ret_int HR.out.symm, HL2⟩
  | true =>
    have VA := Lib.hid va
    cases vb : vB bn bd with
    | false =>
      have VB := Lib.hid vb
      have HR := Lib.hid (show cmpE an ad bn bd = 0 by unfold cmpE; rw [vb, Bool.and_false]; rfl)
      clear va vb
      go_enter Tryz.func34, Tryz.ntmps34
      go_wp2_with fail
      obtain ⟨w1, hw⟩ : ∃ z9 : World, z9 = ((w.alloc (.cells #[.int .i64 an, .int .i64 ad] 23)).alloc (.cells #[.int .i64 bn, .int .i64 bd] 23)) := ⟨_, rfl⟩
      have HB1 := Lib.hid (show Below w.heap.size w w1 by rw [hw]; exact below_a2 _ _ _)
      have F1ka := Lib.hid (show Blk w1 (w.heap.size) 23 #[.int .i64 an, .int .i64 ad] by rw [hw]; exact (Blk.new _ _ _).alloc _)
      have F1kb := Lib.hid (show Blk w1 (w.heap.size + 1) 23 #[.int .i64 bn, .int .i64 bd] by rw [hw]; exact Blk.new1 _ _ _ _)
      rw [← hw]
      clear hw
      refine (valid_q an ad w1 a1 a2 a3 a4).mono ?_
      rw [VA.out]
      rintro e w2 ⟨rfl, HB2⟩
      have F2ka := Lib.hid (F1ka.out.belowW HB2.out)
      have F2kb := Lib.hid (F1kb.out.belowW HB2.out)
      have HL2 := Lib.hid (HB1.out.trans (HB2.out.mono HB1.out.size))
      have pkb0 : (w2).cell? ⟨w.heap.size + 1, 0, none⟩ = some (.int .i64 bn) := F2kb.out.cell 0
      have fkb0 : (w2).frozen? ⟨w.heap.size + 1, 0, none⟩ = false := F2kb.out.frozen 0
      have pkb1 : (w2).cell? ⟨w.heap.size + 1, 1, none⟩ = some (.int .i64 bd) := F2kb.out.cell 1
      have fkb1 : (w2).frozen? ⟨w.heap.size + 1, 1, none⟩ = false := F2kb.out.frozen 1
      go_wp2_with fail
      refine (valid_q bn bd w2 b1 b2 b3 b4).mono ?_
      rw [VB.out]
      rintro e w3 ⟨rfl, HB3⟩
      have F3ka := Lib.hid (F2ka.out.belowW HB3.out)
      have F3kb := Lib.hid (F2kb.out.belowW HB3.out)
      have HL3 := Lib.hid (HL2.out.trans (HB3.out.mono HL2.out.size))
      go_wp2_with fail
      go_ret
      exact ⟨ret_int HR.out.symm, HL3⟩
    | true =>
      have VB := Lib.hid vb
      have ba := vB_bd va
      have bb := vB_bd vb
      have m0 := mulR_bd (a := an) (b := bd) (by omega) (by omega) (by omega) (by omega)
      have m1 := mulR_bd (a := bn) (b := ad) (by omega) (by omega) (by omega) (by omega)
      have HR := Lib.hid (show cmpE an ad bn bd = if an * bd < bn * ad then -1 else if bn * ad < an * bd then 1 else 0 by unfold cmpE cmpR; rw [va, vb]; rfl)
      clear va vb
      obtain ⟨x, hx⟩ : ∃ x, x = an * bd := ⟨_, rfl⟩
      obtain ⟨y, hy⟩ : ∃ y, y = bn * ad := ⟨_, rfl⟩
      rw [← hx] at m0 HR
      rw [← hy] at m1 HR
      have s0 : IntKind.i64.wrap (an * bd) = x := by rw [← hx]; exact IntWalk.i64_in _ (by omega)
      have s1 : IntKind.i64.wrap (bn * ad) = y := by rw [← hy]; exact IntWalk.i64_in _ (by omega)
      have e0 : an * bd = x := hx.symm
      have e1 : bn * ad = y := hy.symm
      clear hx hy
      rcases Int.lt_trichotomy x y with h | h | h
      · have d1 : decide (x < y) = true := decide_eq_true h
        go_enter Tryz.func34, Tryz.ntmps34
        go_wp2_with fail
        obtain ⟨w1, hw⟩ : ∃ z9 : World, z9 = ((w.alloc (.cells #[.int .i64 an, .int .i64 ad] 23)).alloc (.cells #[.int .i64 bn, .int .i64 bd] 23)) := ⟨_, rfl⟩
        have HB1 := Lib.hid (show Below w.heap.size w w1 by rw [hw]; exact below_a2 _ _ _)
        have F1ka := Lib.hid (show Blk w1 (w.heap.size) 23 #[.int .i64 an, .int .i64 ad] by rw [hw]; exact (Blk.new _ _ _).alloc _)
        have F1kb := Lib.hid (show Blk w1 (w.heap.size + 1) 23 #[.int .i64 bn, .int .i64 bd] by rw [hw]; exact Blk.new1 _ _ _ _)
        rw [← hw]
        clear hw
        refine (valid_q an ad w1 a1 a2 a3 a4).mono ?_
        rw [VA.out]
        rintro e w2 ⟨rfl, HB2⟩
        have F2ka := Lib.hid (F1ka.out.belowW HB2.out)
        have F2kb := Lib.hid (F1kb.out.belowW HB2.out)
        have HL2 := Lib.hid (HB1.out.trans (HB2.out.mono HB1.out.size))
        have pkb0 : (w2).cell? ⟨w.heap.size + 1, 0, none⟩ = some (.int .i64 bn) := F2kb.out.cell 0
        have fkb0 : (w2).frozen? ⟨w.heap.size + 1, 0, none⟩ = false := F2kb.out.frozen 0
        have pkb1 : (w2).cell? ⟨w.heap.size + 1, 1, none⟩ = some (.int .i64 bd) := F2kb.out.cell 1
        have fkb1 : (w2).frozen? ⟨w.heap.size + 1, 1, none⟩ = false := F2kb.out.frozen 1
        go_wp2_with fail
        refine (valid_q bn bd w2 b1 b2 b3 b4).mono ?_
        rw [VB.out]
        rintro e w3 ⟨rfl, HB3⟩
        have F3ka := Lib.hid (F2ka.out.belowW HB3.out)
        have F3kb := Lib.hid (F2kb.out.belowW HB3.out)
        have HL3 := Lib.hid (HL2.out.trans (HB3.out.mono HL2.out.size))
        clear pkb0 pkb1 fkb0 fkb1
        have pka0 : (w3).cell? ⟨w.heap.size, 0, none⟩ = some (.int .i64 an) := F3ka.out.cell 0
        have fka0 : (w3).frozen? ⟨w.heap.size, 0, none⟩ = false := F3ka.out.frozen 0
        have pka1 : (w3).cell? ⟨w.heap.size, 1, none⟩ = some (.int .i64 ad) := F3ka.out.cell 1
        have fka1 : (w3).frozen? ⟨w.heap.size, 1, none⟩ = false := F3ka.out.frozen 1
        have pkb0 : (w3).cell? ⟨w.heap.size + 1, 0, none⟩ = some (.int .i64 bn) := F3kb.out.cell 0
        have fkb0 : (w3).frozen? ⟨w.heap.size + 1, 0, none⟩ = false := F3kb.out.frozen 0
        have pkb1 : (w3).cell? ⟨w.heap.size + 1, 1, none⟩ = some (.int .i64 bd) := F3kb.out.cell 1
        have fkb1 : (w3).frozen? ⟨w.heap.size + 1, 1, none⟩ = false := F3kb.out.frozen 1
        go_wp2_with fail
        go_quiet (fail)
        go_wp2_with fail
        go_ret
        exact ⟨ret_int (by rw [HR.out]; rw [if_pos h]), Lib.hid (below_drewN HL3.out _)⟩
      · have d1 : decide (x < y) = false := decide_eq_false (by omega)
        have d2 : decide (y < x) = false := decide_eq_false (by omega)
        go_enter Tryz.func34, Tryz.ntmps34
        go_wp2_with fail
        obtain ⟨w1, hw⟩ : ∃ z9 : World, z9 = ((w.alloc (.cells #[.int .i64 an, .int .i64 ad] 23)).alloc (.cells #[.int .i64 bn, .int .i64 bd] 23)) := ⟨_, rfl⟩
        have HB1 := Lib.hid (show Below w.heap.size w w1 by rw [hw]; exact below_a2 _ _ _)
        have F1ka := Lib.hid (show Blk w1 (w.heap.size) 23 #[.int .i64 an, .int .i64 ad] by rw [hw]; exact (Blk.new _ _ _).alloc _)
        have F1kb := Lib.hid (show Blk w1 (w.heap.size + 1) 23 #[.int .i64 bn, .int .i64 bd] by rw [hw]; exact Blk.new1 _ _ _ _)
        rw [← hw]
        clear hw
        refine (valid_q an ad w1 a1 a2 a3 a4).mono ?_
        rw [VA.out]
        rintro e w2 ⟨rfl, HB2⟩
        have F2ka := Lib.hid (F1ka.out.belowW HB2.out)
        have F2kb := Lib.hid (F1kb.out.belowW HB2.out)
        have HL2 := Lib.hid (HB1.out.trans (HB2.out.mono HB1.out.size))
        have pkb0 : (w2).cell? ⟨w.heap.size + 1, 0, none⟩ = some (.int .i64 bn) := F2kb.out.cell 0
        have fkb0 : (w2).frozen? ⟨w.heap.size + 1, 0, none⟩ = false := F2kb.out.frozen 0
        have pkb1 : (w2).cell? ⟨w.heap.size + 1, 1, none⟩ = some (.int .i64 bd) := F2kb.out.cell 1
        have fkb1 : (w2).frozen? ⟨w.heap.size + 1, 1, none⟩ = false := F2kb.out.frozen 1
        go_wp2_with fail
        refine (valid_q bn bd w2 b1 b2 b3 b4).mono ?_
        rw [VB.out]
        rintro e w3 ⟨rfl, HB3⟩
        have F3ka := Lib.hid (F2ka.out.belowW HB3.out)
        have F3kb := Lib.hid (F2kb.out.belowW HB3.out)
        have HL3 := Lib.hid (HL2.out.trans (HB3.out.mono HL2.out.size))
        clear pkb0 pkb1 fkb0 fkb1
        have pka0 : (w3).cell? ⟨w.heap.size, 0, none⟩ = some (.int .i64 an) := F3ka.out.cell 0
        have fka0 : (w3).frozen? ⟨w.heap.size, 0, none⟩ = false := F3ka.out.frozen 0
        have pka1 : (w3).cell? ⟨w.heap.size, 1, none⟩ = some (.int .i64 ad) := F3ka.out.cell 1
        have fka1 : (w3).frozen? ⟨w.heap.size, 1, none⟩ = false := F3ka.out.frozen 1
        have pkb0 : (w3).cell? ⟨w.heap.size + 1, 0, none⟩ = some (.int .i64 bn) := F3kb.out.cell 0
        have fkb0 : (w3).frozen? ⟨w.heap.size + 1, 0, none⟩ = false := F3kb.out.frozen 0
        have pkb1 : (w3).cell? ⟨w.heap.size + 1, 1, none⟩ = some (.int .i64 bd) := F3kb.out.cell 1
        have fkb1 : (w3).frozen? ⟨w.heap.size + 1, 1, none⟩ = false := F3kb.out.frozen 1
        go_wp2_with fail
        go_quiet (fail)
        go_wp2_with fail
        go_ret
        exact ⟨ret_int (by rw [HR.out]; rw [if_neg (by omega), if_neg (by omega)]), Lib.hid (below_drewN HL3.out _)⟩
      · have d1 : decide (x < y) = false := decide_eq_false (by omega)
        have d2 : decide (y < x) = true := decide_eq_true h
        go_enter Tryz.func34, Tryz.ntmps34
        go_wp2_with fail
        obtain ⟨w1, hw⟩ : ∃ z9 : World, z9 = ((w.alloc (.cells #[.int .i64 an, .int .i64 ad] 23)).alloc (.cells #[.int .i64 bn, .int .i64 bd] 23)) := ⟨_, rfl⟩
        have HB1 := Lib.hid (show Below w.heap.size w w1 by rw [hw]; exact below_a2 _ _ _)
        have F1ka := Lib.hid (show Blk w1 (w.heap.size) 23 #[.int .i64 an, .int .i64 ad] by rw [hw]; exact (Blk.new _ _ _).alloc _)
        have F1kb := Lib.hid (show Blk w1 (w.heap.size + 1) 23 #[.int .i64 bn, .int .i64 bd] by rw [hw]; exact Blk.new1 _ _ _ _)
        rw [← hw]
        clear hw
        refine (valid_q an ad w1 a1 a2 a3 a4).mono ?_
        rw [VA.out]
        rintro e w2 ⟨rfl, HB2⟩
        have F2ka := Lib.hid (F1ka.out.belowW HB2.out)
        have F2kb := Lib.hid (F1kb.out.belowW HB2.out)
        have HL2 := Lib.hid (HB1.out.trans (HB2.out.mono HB1.out.size))
        have pkb0 : (w2).cell? ⟨w.heap.size + 1, 0, none⟩ = some (.int .i64 bn) := F2kb.out.cell 0
        have fkb0 : (w2).frozen? ⟨w.heap.size + 1, 0, none⟩ = false := F2kb.out.frozen 0
        have pkb1 : (w2).cell? ⟨w.heap.size + 1, 1, none⟩ = some (.int .i64 bd) := F2kb.out.cell 1
        have fkb1 : (w2).frozen? ⟨w.heap.size + 1, 1, none⟩ = false := F2kb.out.frozen 1
        go_wp2_with fail
        refine (valid_q bn bd w2 b1 b2 b3 b4).mono ?_
        rw [VB.out]
        rintro e w3 ⟨rfl, HB3⟩
        have F3ka := Lib.hid (F2ka.out.belowW HB3.out)
        have F3kb := Lib.hid (F2kb.out.belowW HB3.out)
        have HL3 := Lib.hid (HL2.out.trans (HB3.out.mono HL2.out.size))
        clear pkb0 pkb1 fkb0 fkb1
        have pka0 : (w3).cell? ⟨w.heap.size, 0, none⟩ = some (.int .i64 an) := F3ka.out.cell 0
        have fka0 : (w3).frozen? ⟨w.heap.size, 0, none⟩ = false := F3ka.out.frozen 0
        have pka1 : (w3).cell? ⟨w.heap.size, 1, none⟩ = some (.int .i64 ad) := F3ka.out.cell 1
        have fka1 : (w3).frozen? ⟨w.heap.size, 1, none⟩ = false := F3ka.out.frozen 1
        have pkb0 : (w3).cell? ⟨w.heap.size + 1, 0, none⟩ = some (.int .i64 bn) := F3kb.out.cell 0
        have fkb0 : (w3).frozen? ⟨w.heap.size + 1, 0, none⟩ = false := F3kb.out.frozen 0
        have pkb1 : (w3).cell? ⟨w.heap.size + 1, 1, none⟩ = some (.int .i64 bd) := F3kb.out.cell 1
        have fkb1 : (w3).frozen? ⟨w.heap.size + 1, 1, none⟩ = false := F3kb.out.frozen 1
        go_wp2_with fail
        go_quiet (fail)
        go_wp2_with fail
        go_ret
        exact ⟨ret_int (by rw [HR.out]; rw [if_neg (by omega), if_pos h]), Lib.hid (below_drewN HL3.out _)⟩
end Go.Proofs.YtnogfceojmnjiaaGreatDoor
