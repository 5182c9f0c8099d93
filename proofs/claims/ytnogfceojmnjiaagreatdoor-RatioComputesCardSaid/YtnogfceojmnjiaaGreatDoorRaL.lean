/-
  The walks of the reference's Add, Sub, Mul, Div, order, Cmp.
-/
import Derived.Test.YtnogfceojmnjiaaGreatDoorRaG
import Derived.Test.YtnogfceojmnjiaaGreatDoorRaI
set_option linter.unusedVariables false
namespace Go.Fl.Rt
theorem make_pos {x : Int} {y : Nat} (h : y ≠ 0) : make x (y : Int) = chkR (decide (x < 0)) x.natAbs y := by
  rw [make_chk (by omega)]
  have : decide ((y : Int) < 0) = false := decide_eq_false (by omega)
  rw [this, Bool.bne_false, Int.natAbs_natCast]
end Go.Fl.Rt
namespace Go.Proofs.YtnogfceojmnjiaaGreatDoor
open Go.RowKit Go.Fl Go.Fl.Nm Go.Fl.Dy Go.Fl.Rt

set_option maxHeartbeats 2000000 in
theorem rAdd (an ad bn bd : Int) (w : World) (a1 : -9223372036854775808 ≤ an) (a2 : an ≤ 9223372036854775807) (a3 : -9223372036854775808 ≤ ad) (a4 : ad ≤ 9223372036854775807) (b1 : -9223372036854775808 ≤ bn) (b2 : bn ≤ 9223372036854775807) (b3 : -9223372036854775808 ≤ bd) (b4 : bd ≤ 9223372036854775807) :
    Calls Tryz.prog 30 #[.agg #[.int .i64 an, .int .i64 ad], .agg #[.int .i64 bn, .int .i64 bd]] w (RtE (opE an ad bn bd (addR an ad bn bd)) w) := by
  cases va : vB an ad with
  | false =>
    have VA := Lib.hid va
    have HR := Lib.hid (show opE an ad bn bd (addR an ad bn bd) = (0, 0, 1) by unfold opE; rw [va]; rfl)
    clear va
    go_enter Tryz.func30, Tryz.ntmps30
    go_wp2_with fail
    obtain ⟨w1, hw⟩ : ∃ z9 : World, z9 = (((w.alloc (.cells #[.int .i64 an, .int .i64 ad] 23)).alloc (.cells #[.int .i64 bn, .int .i64 bd] 23)).alloc (.cells #[.int .i64 0, .int .i64 0] 23)) := ⟨_, rfl⟩
    have HB1 := Lib.hid (show Below w.heap.size w w1 by rw [hw]; exact below_a3 _ _ _ _)
    have F1ka := Lib.hid (show Blk w1 (w.heap.size) 23 #[.int .i64 an, .int .i64 ad] by rw [hw]; exact ((Blk.new _ _ _).alloc _).alloc _)
    have F1kb := Lib.hid (show Blk w1 (w.heap.size + 1) 23 #[.int .i64 bn, .int .i64 bd] by rw [hw]; exact (Blk.new1 _ _ _ _).alloc _)
    have F1r := Lib.hid (show Blk w1 (w.heap.size + 1 + 1) 23 #[.int .i64 0, .int .i64 0] by rw [hw]; exact Blk.new2 _ _ _ _ _)
    rw [← hw]
    clear hw
    refine (valid_r an ad w1 a1 a2 a3 a4).mono ?_
    rw [VA.out]
    rintro e w2 ⟨rfl, HB2⟩
    have F2ka := Lib.hid (F1ka.out.belowW HB2.out)
    have F2kb := Lib.hid (F1kb.out.belowW HB2.out)
    have F2r := Lib.hid (F1r.out.belowW HB2.out)
    have HL2 := Lib.hid (HB1.out.trans (HB2.out.mono HB1.out.size))
    have pr0 : (w2).cell? ⟨w.heap.size + 1 + 1, 0, none⟩ = some (.int .i64 0) := F2r.out.cell 0
    have fr0 : (w2).frozen? ⟨w.heap.size + 1 + 1, 0, none⟩ = false := F2r.out.frozen 0
    have pr1 : (w2).cell? ⟨w.heap.size + 1 + 1, 1, none⟩ = some (.int .i64 0) := F2r.out.cell 1
    have fr1 : (w2).frozen? ⟨w.heap.size + 1 + 1, 1, none⟩ = false := F2r.out.frozen 1
    go_wp2_with fail
    refine bodyPost_ret (v := .tuple #[.agg #[.int .i64 0, .int .i64 0], .int .i64 1]) (by simp [results, Tryz.results30, go_sem, pr0, pr1]) rfl ?_
    rw [HR.out]
    exact ⟨rfl, Lib.hid (store2_below HL2.out F2r.out _ _ (by omega))⟩
  | true =>
    have VA := Lib.hid va
    cases vb : vB bn bd with
    | false =>
      have VB := Lib.hid vb
      have HR := Lib.hid (show opE an ad bn bd (addR an ad bn bd) = (0, 0, 1) by unfold opE; rw [vb, Bool.and_false]; rfl)
      clear va vb
      go_enter Tryz.func30, Tryz.ntmps30
      go_wp2_with fail
      obtain ⟨w1, hw⟩ : ∃ z9 : World, z9 = (((w.alloc (.cells #[.int .i64 an, .int .i64 ad] 23)).alloc (.cells #[.int .i64 bn, .int .i64 bd] 23)).alloc (.cells #[.int .i64 0, .int .i64 0] 23)) := ⟨_, rfl⟩
      have HB1 := Lib.hid (show Below w.heap.size w w1 by rw [hw]; exact below_a3 _ _ _ _)
      have F1ka := Lib.hid (show Blk w1 (w.heap.size) 23 #[.int .i64 an, .int .i64 ad] by rw [hw]; exact ((Blk.new _ _ _).alloc _).alloc _)
      have F1kb := Lib.hid (show Blk w1 (w.heap.size + 1) 23 #[.int .i64 bn, .int .i64 bd] by rw [hw]; exact (Blk.new1 _ _ _ _).alloc _)
      have F1r := Lib.hid (show Blk w1 (w.heap.size + 1 + 1) 23 #[.int .i64 0, .int .i64 0] by rw [hw]; exact Blk.new2 _ _ _ _ _)
      rw [← hw]
      clear hw
      refine (valid_r an ad w1 a1 a2 a3 a4).mono ?_
      rw [VA.out]
      rintro e w2 ⟨rfl, HB2⟩
      have F2ka := Lib.hid (F1ka.out.belowW HB2.out)
      have F2kb := Lib.hid (F1kb.out.belowW HB2.out)
      have F2r := Lib.hid (F1r.out.belowW HB2.out)
      have HL2 := Lib.hid (HB1.out.trans (HB2.out.mono HB1.out.size))
      have pkb0 : (w2).cell? ⟨w.heap.size + 1, 0, none⟩ = some (.int .i64 bn) := F2kb.out.cell 0
      have fkb0 : (w2).frozen? ⟨w.heap.size + 1, 0, none⟩ = false := F2kb.out.frozen 0
      have pkb1 : (w2).cell? ⟨w.heap.size + 1, 1, none⟩ = some (.int .i64 bd) := F2kb.out.cell 1
      have fkb1 : (w2).frozen? ⟨w.heap.size + 1, 1, none⟩ = false := F2kb.out.frozen 1
      go_wp2_with fail
      refine (valid_r bn bd w2 b1 b2 b3 b4).mono ?_
      rw [VB.out]
      rintro e w3 ⟨rfl, HB3⟩
      have F3ka := Lib.hid (F2ka.out.belowW HB3.out)
      have F3kb := Lib.hid (F2kb.out.belowW HB3.out)
      have F3r := Lib.hid (F2r.out.belowW HB3.out)
      have HL3 := Lib.hid (HL2.out.trans (HB3.out.mono HL2.out.size))
      have pr0 : (w3).cell? ⟨w.heap.size + 1 + 1, 0, none⟩ = some (.int .i64 0) := F3r.out.cell 0
      have fr0 : (w3).frozen? ⟨w.heap.size + 1 + 1, 0, none⟩ = false := F3r.out.frozen 0
      have pr1 : (w3).cell? ⟨w.heap.size + 1 + 1, 1, none⟩ = some (.int .i64 0) := F3r.out.cell 1
      have fr1 : (w3).frozen? ⟨w.heap.size + 1 + 1, 1, none⟩ = false := F3r.out.frozen 1
      go_wp2_with fail
      refine bodyPost_ret (v := .tuple #[.agg #[.int .i64 0, .int .i64 0], .int .i64 1]) (by simp [results, Tryz.results30, go_sem, pr0, pr1]) rfl ?_
      rw [HR.out]
      exact ⟨rfl, Lib.hid (store2_below HL3.out F3r.out _ _ (by omega))⟩
    | true =>
      have VB := Lib.hid vb
      have ba := vB_bd va
      have bb := vB_bd vb
      have m0 := mulR_bd (a := an) (b := bd) (by omega) (by omega) (by omega) (by omega)
      have m1 := mulR_bd (a := bn) (b := ad) (by omega) (by omega) (by omega) (by omega)
      have m2 := mulR_bd (a := ad) (b := bd) (by omega) (by omega) (by omega) (by omega)
      have hyp : 1 ≤ ad * bd := by have := Int.mul_pos (show 0 < ad by omega) (show 0 < bd by omega); omega
      obtain ⟨Y, hY⟩ : ∃ Y : Nat, (Y : Int) = ad * bd := ⟨(ad * bd).toNat, by omega⟩
      obtain ⟨X, hX⟩ : ∃ X, X = an * bd + bn * ad := ⟨_, rfl⟩
      have hY0 : Y ≠ 0 := by omega
      have hYb : (Y : Int) ≤ 1152921504606846976 := by omega
      have hXb : -4611686018427387904 ≤ X ∧ X ≤ 4611686018427387904 := by rw [hX]; omega
      have HR := Lib.hid (show opE an ad bn bd (addR an ad bn bd) = chkR (decide (X < 0)) X.natAbs Y by
        rw [opE, va, vb]
        show make (an * bd + bn * ad) (ad * bd) = _
        rw [← hX, ← hY]; exact make_pos hY0)
      have HY0 := Lib.hid hY0
      obtain ⟨q0, hq0⟩ : ∃ q, q = an * bd := ⟨_, rfl⟩
      have e0 : an * bd = q0 := hq0.symm
      have s0 : IntKind.i64.wrap (an * bd) = q0 := by rw [← hq0]; exact IntWalk.i64_in _ (by omega)
      have bl0 : -1152921504606846976 ≤ q0 := by rw [hq0]; exact m0.1
      have bu0 : q0 ≤ 1152921504606846976 := by rw [hq0]; exact m0.2
      obtain ⟨q1, hq1⟩ : ∃ q, q = bn * ad := ⟨_, rfl⟩
      have e1 : bn * ad = q1 := hq1.symm
      have s1 : IntKind.i64.wrap (bn * ad) = q1 := by rw [← hq1]; exact IntWalk.i64_in _ (by omega)
      have bl1 : -1152921504606846976 ≤ q1 := by rw [hq1]; exact m1.1
      have bu1 : q1 ≤ 1152921504606846976 := by rw [hq1]; exact m1.2
      have ex : q0 + q1 = X := by rw [hX, hq0, hq1]
      have sx : IntKind.i64.wrap (q0 + q1) = X := by rw [ex]; exact IntWalk.i64_in _ (by omega)
      have ey : ad * bd = (Y : Int) := hY.symm
      have sy : IntKind.u64.wrap (ad * bd) = (Y : Int) := by rw [← hY, IntKind.wrap_u64]; omega
      have sy2 : IntKind.u64.wrap (Y : Int) = Y := by rw [IntKind.wrap_u64]; omega
      have u1 : IntKind.u64.wrap ad = ad := by rw [IntKind.wrap_u64]; omega
      have u2 : IntKind.u64.wrap bd = bd := by rw [IntKind.wrap_u64]; omega
      obtain ⟨sg, hsg⟩ : ∃ z : Bool, z = decide (X < 0) := ⟨_, rfl⟩
      rw [← hsg] at HR
      have dsg : decide (X < 0) = sg := hsg.symm
      have hna : (X.natAbs : Int) < 18446744073709551616 := by omega
      clear va vb hX hY hY0 hyp hsg m0 m1 m2 hq0 hq1
      go_enter Tryz.func30, Tryz.ntmps30
      go_wp2_with fail
      obtain ⟨w1, hw⟩ : ∃ z9 : World, z9 = (((w.alloc (.cells #[.int .i64 an, .int .i64 ad] 23)).alloc (.cells #[.int .i64 bn, .int .i64 bd] 23)).alloc (.cells #[.int .i64 0, .int .i64 0] 23)) := ⟨_, rfl⟩
      have HB1 := Lib.hid (show Below w.heap.size w w1 by rw [hw]; exact below_a3 _ _ _ _)
      have F1ka := Lib.hid (show Blk w1 (w.heap.size) 23 #[.int .i64 an, .int .i64 ad] by rw [hw]; exact ((Blk.new _ _ _).alloc _).alloc _)
      have F1kb := Lib.hid (show Blk w1 (w.heap.size + 1) 23 #[.int .i64 bn, .int .i64 bd] by rw [hw]; exact (Blk.new1 _ _ _ _).alloc _)
      have F1r := Lib.hid (show Blk w1 (w.heap.size + 1 + 1) 23 #[.int .i64 0, .int .i64 0] by rw [hw]; exact Blk.new2 _ _ _ _ _)
      rw [← hw]
      clear hw
      refine (valid_r an ad w1 a1 a2 a3 a4).mono ?_
      rw [VA.out]
      rintro e w2 ⟨rfl, HB2⟩
      have F2ka := Lib.hid (F1ka.out.belowW HB2.out)
      have F2kb := Lib.hid (F1kb.out.belowW HB2.out)
      have F2r := Lib.hid (F1r.out.belowW HB2.out)
      have HL2 := Lib.hid (HB1.out.trans (HB2.out.mono HB1.out.size))
      have pkb0 : (w2).cell? ⟨w.heap.size + 1, 0, none⟩ = some (.int .i64 bn) := F2kb.out.cell 0
      have fkb0 : (w2).frozen? ⟨w.heap.size + 1, 0, none⟩ = false := F2kb.out.frozen 0
      have pkb1 : (w2).cell? ⟨w.heap.size + 1, 1, none⟩ = some (.int .i64 bd) := F2kb.out.cell 1
      have fkb1 : (w2).frozen? ⟨w.heap.size + 1, 1, none⟩ = false := F2kb.out.frozen 1
      go_wp2_with fail
      refine (valid_r bn bd w2 b1 b2 b3 b4).mono ?_
      rw [VB.out]
      rintro e w3 ⟨rfl, HB3⟩
      have F3ka := Lib.hid (F2ka.out.belowW HB3.out)
      have F3kb := Lib.hid (F2kb.out.belowW HB3.out)
      have F3r := Lib.hid (F2r.out.belowW HB3.out)
      have HL3 := Lib.hid (HL2.out.trans (HB3.out.mono HL2.out.size))
      clear pkb0 pkb1 fkb0 fkb1
      have pka0 : (w3).cell? ⟨w.heap.size, 0, none⟩ = some (.int .i64 an) := F3ka.out.cell 0
      have fka0 : (w3).frozen? ⟨w.heap.size, 0, none⟩ = false := F3ka.out.frozen 0
      have pka1 : (w3).cell? ⟨w.heap.size, 1, none⟩ = some (.int .i64 ad) := F3ka.out.cell 1
      have fka1 : (w3).frozen? ⟨w.heap.size, 1, none⟩ = false := F3ka.out.frozen 1
      have pkb0 : (w3).cell? ⟨w.heap.size + 1, 0, none⟩ = some (.int .i64 bn) := F3kb.out.cell 0
      have fkb0 : (w3).frozen? ⟨w.heap.size + 1, 0, none⟩ = false := F3kb.out.frozen 0
      have pkb1 : (w3).cell? ⟨w.heap.size + 1, 1, none⟩ = some (.int .i64 bd) := F3kb.out.cell 1
      have fkb1 : (w3).frozen? ⟨w.heap.size + 1, 1, none⟩ = false := F3kb.out.frozen 1
      go_wp2_with fail
      go_region_held3 (fun w' => w'.cell? ⟨w.heap.size, 1, none⟩ = some (.int .i64 ad) ∧ w'.cell? ⟨w.heap.size + 1, 1, none⟩ = some (.int .i64 bd)) (first | exact ⟨pka1, pkb1⟩ | exact ⟨u3, v3⟩ | exact ⟨store2_far KR3.out u3 (by omega) _ _, store2_far KR3.out v3 (by omega) _ _⟩) (first
        | (go_at_call 51
           refine (size_r X _ (by omega) (by omega)).mono ?_
           rintro e x2 ⟨rfl, rfl⟩)
        | (go_at_call 59
           refine (checkedR_any sg X.natAbs Y _ (by omega) (by omega) HY0.out).mono ?_
           rw [← HR.out]
           rintro e x3 ⟨rfl, HX⟩
           have H3 := Lib.hid (show Below w3.heap.size w3 x3 from ⟨HX.out.os, HX.out.tape, HX.out.output, HX.out.size, HX.out.block⟩)
           have KA3 := Lib.hid (F3ka.out.belowW H3.out)
           have KB3 := Lib.hid (F3kb.out.belowW H3.out)
           have KR3 := Lib.hid (F3r.out.belowW H3.out)
           have u3 : x3.cell? ⟨w.heap.size, 1, none⟩ = some (.int .i64 ad) := KA3.out.cell 1
           have v3 : x3.cell? ⟨w.heap.size + 1, 1, none⟩ = some (.int .i64 bd) := KB3.out.cell 1
           have r0 : x3.cell? ⟨w.heap.size + 1 + 1, 0, none⟩ = some (.int .i64 0) := KR3.out.cell 0
           have r1 : x3.cell? ⟨w.heap.size + 1 + 1, 1, none⟩ = some (.int .i64 0) := KR3.out.cell 1
           have g0 : x3.frozen? ⟨w.heap.size + 1 + 1, 0, none⟩ = false := KR3.out.frozen 0
           have g1 : x3.frozen? ⟨w.heap.size + 1 + 1, 1, none⟩ = false := KR3.out.frozen 1))
      go_wp2_with fail
      refine bodyPost_ret (v := .tuple #[.agg #[.int .i64 (opE an ad bn bd (addR an ad bn bd)).1, .int .i64 (opE an ad bn bd (addR an ad bn bd)).2.1], .int .i64 (opE an ad bn bd (addR an ad bn bd)).2.2]) (by simp [results, Tryz.results30, go_sem, r0, r1]) rfl ?_
      exact ⟨rfl, Lib.hid (store2_below (HL3.out.trans (H3.out.mono HL3.out.size)) KR3.out _ _ (by omega))⟩

set_option maxHeartbeats 2000000 in
theorem rMul (an ad bn bd : Int) (w : World) (a1 : -9223372036854775808 ≤ an) (a2 : an ≤ 9223372036854775807) (a3 : -9223372036854775808 ≤ ad) (a4 : ad ≤ 9223372036854775807) (b1 : -9223372036854775808 ≤ bn) (b2 : bn ≤ 9223372036854775807) (b3 : -9223372036854775808 ≤ bd) (b4 : bd ≤ 9223372036854775807) :
    Calls Tryz.prog 32 #[.agg #[.int .i64 an, .int .i64 ad], .agg #[.int .i64 bn, .int .i64 bd]] w (RtE (opE an ad bn bd (mulR an ad bn bd)) w) := by
  cases va : vB an ad with
  | false =>
    have VA := Lib.hid va
    have HR := Lib.hid (show opE an ad bn bd (mulR an ad bn bd) = (0, 0, 1) by unfold opE; rw [va]; rfl)
    clear va
    go_enter Tryz.func32, Tryz.ntmps32
    go_wp2_with fail
    obtain ⟨w1, hw⟩ : ∃ z9 : World, z9 = (((w.alloc (.cells #[.int .i64 an, .int .i64 ad] 23)).alloc (.cells #[.int .i64 bn, .int .i64 bd] 23)).alloc (.cells #[.int .i64 0, .int .i64 0] 23)) := ⟨_, rfl⟩
    have HB1 := Lib.hid (show Below w.heap.size w w1 by rw [hw]; exact below_a3 _ _ _ _)
    have F1ka := Lib.hid (show Blk w1 (w.heap.size) 23 #[.int .i64 an, .int .i64 ad] by rw [hw]; exact ((Blk.new _ _ _).alloc _).alloc _)
    have F1kb := Lib.hid (show Blk w1 (w.heap.size + 1) 23 #[.int .i64 bn, .int .i64 bd] by rw [hw]; exact (Blk.new1 _ _ _ _).alloc _)
    have F1r := Lib.hid (show Blk w1 (w.heap.size + 1 + 1) 23 #[.int .i64 0, .int .i64 0] by rw [hw]; exact Blk.new2 _ _ _ _ _)
    rw [← hw]
    clear hw
    refine (valid_r an ad w1 a1 a2 a3 a4).mono ?_
    rw [VA.out]
    rintro e w2 ⟨rfl, HB2⟩
    have F2ka := Lib.hid (F1ka.out.belowW HB2.out)
    have F2kb := Lib.hid (F1kb.out.belowW HB2.out)
    have F2r := Lib.hid (F1r.out.belowW HB2.out)
    have HL2 := Lib.hid (HB1.out.trans (HB2.out.mono HB1.out.size))
    have pr0 : (w2).cell? ⟨w.heap.size + 1 + 1, 0, none⟩ = some (.int .i64 0) := F2r.out.cell 0
    have fr0 : (w2).frozen? ⟨w.heap.size + 1 + 1, 0, none⟩ = false := F2r.out.frozen 0
    have pr1 : (w2).cell? ⟨w.heap.size + 1 + 1, 1, none⟩ = some (.int .i64 0) := F2r.out.cell 1
    have fr1 : (w2).frozen? ⟨w.heap.size + 1 + 1, 1, none⟩ = false := F2r.out.frozen 1
    go_wp2_with fail
    refine bodyPost_ret (v := .tuple #[.agg #[.int .i64 0, .int .i64 0], .int .i64 1]) (by simp [results, Tryz.results32, go_sem, pr0, pr1]) rfl ?_
    rw [HR.out]
    exact ⟨rfl, Lib.hid (store2_below HL2.out F2r.out _ _ (by omega))⟩
  | true =>
    have VA := Lib.hid va
    cases vb : vB bn bd with
    | false =>
      have VB := Lib.hid vb
      have HR := Lib.hid (show opE an ad bn bd (mulR an ad bn bd) = (0, 0, 1) by unfold opE; rw [vb, Bool.and_false]; rfl)
      clear va vb
      go_enter Tryz.func32, Tryz.ntmps32
      go_wp2_with fail
      obtain ⟨w1, hw⟩ : ∃ z9 : World, z9 = (((w.alloc (.cells #[.int .i64 an, .int .i64 ad] 23)).alloc (.cells #[.int .i64 bn, .int .i64 bd] 23)).alloc (.cells #[.int .i64 0, .int .i64 0] 23)) := ⟨_, rfl⟩
      have HB1 := Lib.hid (show Below w.heap.size w w1 by rw [hw]; exact below_a3 _ _ _ _)
      have F1ka := Lib.hid (show Blk w1 (w.heap.size) 23 #[.int .i64 an, .int .i64 ad] by rw [hw]; exact ((Blk.new _ _ _).alloc _).alloc _)
      have F1kb := Lib.hid (show Blk w1 (w.heap.size + 1) 23 #[.int .i64 bn, .int .i64 bd] by rw [hw]; exact (Blk.new1 _ _ _ _).alloc _)
      have F1r := Lib.hid (show Blk w1 (w.heap.size + 1 + 1) 23 #[.int .i64 0, .int .i64 0] by rw [hw]; exact Blk.new2 _ _ _ _ _)
      rw [← hw]
      clear hw
      refine (valid_r an ad w1 a1 a2 a3 a4).mono ?_
      rw [VA.out]
      rintro e w2 ⟨rfl, HB2⟩
      have F2ka := Lib.hid (F1ka.out.belowW HB2.out)
      have F2kb := Lib.hid (F1kb.out.belowW HB2.out)
      have F2r := Lib.hid (F1r.out.belowW HB2.out)
      have HL2 := Lib.hid (HB1.out.trans (HB2.out.mono HB1.out.size))
      have pkb0 : (w2).cell? ⟨w.heap.size + 1, 0, none⟩ = some (.int .i64 bn) := F2kb.out.cell 0
      have fkb0 : (w2).frozen? ⟨w.heap.size + 1, 0, none⟩ = false := F2kb.out.frozen 0
      have pkb1 : (w2).cell? ⟨w.heap.size + 1, 1, none⟩ = some (.int .i64 bd) := F2kb.out.cell 1
      have fkb1 : (w2).frozen? ⟨w.heap.size + 1, 1, none⟩ = false := F2kb.out.frozen 1
      go_wp2_with fail
      refine (valid_r bn bd w2 b1 b2 b3 b4).mono ?_
      rw [VB.out]
      rintro e w3 ⟨rfl, HB3⟩
      have F3ka := Lib.hid (F2ka.out.belowW HB3.out)
      have F3kb := Lib.hid (F2kb.out.belowW HB3.out)
      have F3r := Lib.hid (F2r.out.belowW HB3.out)
      have HL3 := Lib.hid (HL2.out.trans (HB3.out.mono HL2.out.size))
      have pr0 : (w3).cell? ⟨w.heap.size + 1 + 1, 0, none⟩ = some (.int .i64 0) := F3r.out.cell 0
      have fr0 : (w3).frozen? ⟨w.heap.size + 1 + 1, 0, none⟩ = false := F3r.out.frozen 0
      have pr1 : (w3).cell? ⟨w.heap.size + 1 + 1, 1, none⟩ = some (.int .i64 0) := F3r.out.cell 1
      have fr1 : (w3).frozen? ⟨w.heap.size + 1 + 1, 1, none⟩ = false := F3r.out.frozen 1
      go_wp2_with fail
      refine bodyPost_ret (v := .tuple #[.agg #[.int .i64 0, .int .i64 0], .int .i64 1]) (by simp [results, Tryz.results32, go_sem, pr0, pr1]) rfl ?_
      rw [HR.out]
      exact ⟨rfl, Lib.hid (store2_below HL3.out F3r.out _ _ (by omega))⟩
    | true =>
      have VB := Lib.hid vb
      have ba := vB_bd va
      have bb := vB_bd vb
      have m0 := mulR_bd (a := an) (b := bn) (by omega) (by omega) (by omega) (by omega)
      have m1 := mulR_bd (a := ad) (b := bd) (by omega) (by omega) (by omega) (by omega)
      have hyp : 1 ≤ ad * bd := by have := Int.mul_pos (show 0 < ad by omega) (show 0 < bd by omega); omega
      obtain ⟨Y, hY⟩ : ∃ Y : Nat, (Y : Int) = ad * bd := ⟨(ad * bd).toNat, by omega⟩
      obtain ⟨X, hX⟩ : ∃ X, X = an * bn := ⟨_, rfl⟩
      have hY0 : Y ≠ 0 := by omega
      have hYb : (Y : Int) ≤ 1152921504606846976 := by omega
      have hXb : -4611686018427387904 ≤ X ∧ X ≤ 4611686018427387904 := by rw [hX]; omega
      have HR := Lib.hid (show opE an ad bn bd (mulR an ad bn bd) = chkR (decide (X < 0)) X.natAbs Y by
        rw [opE, va, vb]
        show make (an * bn) (ad * bd) = _
        rw [← hX, ← hY]; exact make_pos hY0)
      have HY0 := Lib.hid hY0
      obtain ⟨q0, hq0⟩ : ∃ q, q = an * bn := ⟨_, rfl⟩
      have e0 : an * bn = q0 := hq0.symm
      have s0 : IntKind.i64.wrap (an * bn) = q0 := by rw [← hq0]; exact IntWalk.i64_in _ (by omega)
      have bl0 : -1152921504606846976 ≤ q0 := by rw [hq0]; exact m0.1
      have bu0 : q0 ≤ 1152921504606846976 := by rw [hq0]; exact m0.2
      obtain rfl : q0 = X := by rw [hX, hq0]
      have ey : ad * bd = (Y : Int) := hY.symm
      have sy : IntKind.u64.wrap (ad * bd) = (Y : Int) := by rw [← hY, IntKind.wrap_u64]; omega
      have sy2 : IntKind.u64.wrap (Y : Int) = Y := by rw [IntKind.wrap_u64]; omega
      have u1 : IntKind.u64.wrap ad = ad := by rw [IntKind.wrap_u64]; omega
      have u2 : IntKind.u64.wrap bd = bd := by rw [IntKind.wrap_u64]; omega
      obtain ⟨sg, hsg⟩ : ∃ z : Bool, z = decide (q0 < 0) := ⟨_, rfl⟩
      rw [← hsg] at HR
      have dsg : decide (q0 < 0) = sg := hsg.symm
      have hna : (q0.natAbs : Int) < 18446744073709551616 := by omega
      clear va vb hX hY hY0 hyp hsg m0 m1 hq0
      go_enter Tryz.func32, Tryz.ntmps32
      go_wp2_with fail
      obtain ⟨w1, hw⟩ : ∃ z9 : World, z9 = (((w.alloc (.cells #[.int .i64 an, .int .i64 ad] 23)).alloc (.cells #[.int .i64 bn, .int .i64 bd] 23)).alloc (.cells #[.int .i64 0, .int .i64 0] 23)) := ⟨_, rfl⟩
      have HB1 := Lib.hid (show Below w.heap.size w w1 by rw [hw]; exact below_a3 _ _ _ _)
      have F1ka := Lib.hid (show Blk w1 (w.heap.size) 23 #[.int .i64 an, .int .i64 ad] by rw [hw]; exact ((Blk.new _ _ _).alloc _).alloc _)
      have F1kb := Lib.hid (show Blk w1 (w.heap.size + 1) 23 #[.int .i64 bn, .int .i64 bd] by rw [hw]; exact (Blk.new1 _ _ _ _).alloc _)
      have F1r := Lib.hid (show Blk w1 (w.heap.size + 1 + 1) 23 #[.int .i64 0, .int .i64 0] by rw [hw]; exact Blk.new2 _ _ _ _ _)
      rw [← hw]
      clear hw
      refine (valid_r an ad w1 a1 a2 a3 a4).mono ?_
      rw [VA.out]
      rintro e w2 ⟨rfl, HB2⟩
      have F2ka := Lib.hid (F1ka.out.belowW HB2.out)
      have F2kb := Lib.hid (F1kb.out.belowW HB2.out)
      have F2r := Lib.hid (F1r.out.belowW HB2.out)
      have HL2 := Lib.hid (HB1.out.trans (HB2.out.mono HB1.out.size))
      have pkb0 : (w2).cell? ⟨w.heap.size + 1, 0, none⟩ = some (.int .i64 bn) := F2kb.out.cell 0
      have fkb0 : (w2).frozen? ⟨w.heap.size + 1, 0, none⟩ = false := F2kb.out.frozen 0
      have pkb1 : (w2).cell? ⟨w.heap.size + 1, 1, none⟩ = some (.int .i64 bd) := F2kb.out.cell 1
      have fkb1 : (w2).frozen? ⟨w.heap.size + 1, 1, none⟩ = false := F2kb.out.frozen 1
      go_wp2_with fail
      refine (valid_r bn bd w2 b1 b2 b3 b4).mono ?_
      rw [VB.out]
      rintro e w3 ⟨rfl, HB3⟩
      have F3ka := Lib.hid (F2ka.out.belowW HB3.out)
      have F3kb := Lib.hid (F2kb.out.belowW HB3.out)
      have F3r := Lib.hid (F2r.out.belowW HB3.out)
      have HL3 := Lib.hid (HL2.out.trans (HB3.out.mono HL2.out.size))
      clear pkb0 pkb1 fkb0 fkb1
      have pka0 : (w3).cell? ⟨w.heap.size, 0, none⟩ = some (.int .i64 an) := F3ka.out.cell 0
      have fka0 : (w3).frozen? ⟨w.heap.size, 0, none⟩ = false := F3ka.out.frozen 0
      have pka1 : (w3).cell? ⟨w.heap.size, 1, none⟩ = some (.int .i64 ad) := F3ka.out.cell 1
      have fka1 : (w3).frozen? ⟨w.heap.size, 1, none⟩ = false := F3ka.out.frozen 1
      have pkb0 : (w3).cell? ⟨w.heap.size + 1, 0, none⟩ = some (.int .i64 bn) := F3kb.out.cell 0
      have fkb0 : (w3).frozen? ⟨w.heap.size + 1, 0, none⟩ = false := F3kb.out.frozen 0
      have pkb1 : (w3).cell? ⟨w.heap.size + 1, 1, none⟩ = some (.int .i64 bd) := F3kb.out.cell 1
      have fkb1 : (w3).frozen? ⟨w.heap.size + 1, 1, none⟩ = false := F3kb.out.frozen 1
      go_wp2_with fail
      go_region_held3 (fun w' => w'.cell? ⟨w.heap.size, 1, none⟩ = some (.int .i64 ad) ∧ w'.cell? ⟨w.heap.size + 1, 1, none⟩ = some (.int .i64 bd)) (first | exact ⟨pka1, pkb1⟩ | exact ⟨u3, v3⟩ | exact ⟨store2_far KR3.out u3 (by omega) _ _, store2_far KR3.out v3 (by omega) _ _⟩) (first
        | (go_at_call 51
           refine (size_r q0 _ (by omega) (by omega)).mono ?_
           rintro e x2 ⟨rfl, rfl⟩)
        | (go_at_call 59
           refine (checkedR_any sg q0.natAbs Y _ (by omega) (by omega) HY0.out).mono ?_
           rw [← HR.out]
           rintro e x3 ⟨rfl, HX⟩
           have H3 := Lib.hid (show Below w3.heap.size w3 x3 from ⟨HX.out.os, HX.out.tape, HX.out.output, HX.out.size, HX.out.block⟩)
           have KA3 := Lib.hid (F3ka.out.belowW H3.out)
           have KB3 := Lib.hid (F3kb.out.belowW H3.out)
           have KR3 := Lib.hid (F3r.out.belowW H3.out)
           have u3 : x3.cell? ⟨w.heap.size, 1, none⟩ = some (.int .i64 ad) := KA3.out.cell 1
           have v3 : x3.cell? ⟨w.heap.size + 1, 1, none⟩ = some (.int .i64 bd) := KB3.out.cell 1
           have r0 : x3.cell? ⟨w.heap.size + 1 + 1, 0, none⟩ = some (.int .i64 0) := KR3.out.cell 0
           have r1 : x3.cell? ⟨w.heap.size + 1 + 1, 1, none⟩ = some (.int .i64 0) := KR3.out.cell 1
           have g0 : x3.frozen? ⟨w.heap.size + 1 + 1, 0, none⟩ = false := KR3.out.frozen 0
           have g1 : x3.frozen? ⟨w.heap.size + 1 + 1, 1, none⟩ = false := KR3.out.frozen 1))
      go_wp2_with fail
      refine bodyPost_ret (v := .tuple #[.agg #[.int .i64 (opE an ad bn bd (mulR an ad bn bd)).1, .int .i64 (opE an ad bn bd (mulR an ad bn bd)).2.1], .int .i64 (opE an ad bn bd (mulR an ad bn bd)).2.2]) (by simp [results, Tryz.results32, go_sem, r0, r1]) rfl ?_
      exact ⟨rfl, Lib.hid (store2_below (HL3.out.trans (H3.out.mono HL3.out.size)) KR3.out _ _ (by omega))⟩

theorem vB_neg (n d : Int) : vB (-n) d = vB n d := by
  rw [Bool.eq_iff_iff, vB_iff, vB_iff]
  unfold valid
  rw [Int.natAbs_neg]
  constructor
  · rintro ⟨h1, h2, h3, h4, h5⟩; exact ⟨h1, h2, by omega, by omega, h5⟩
  · rintro ⟨h1, h2, h3, h4, h5⟩; exact ⟨h1, h2, by omega, by omega, h5⟩
theorem sub_eq (an ad bn bd : Int) : opE an ad (-bn) bd (addR an ad (-bn) bd) = opE an ad bn bd (subR an ad bn bd) := by
  unfold opE
  rw [vB_neg]
  unfold addR subR
  rw [Int.neg_mul, ← Int.sub_eq_add_neg]
set_option maxHeartbeats 2000000 in
theorem rSub (an ad bn bd : Int) (w : World) (a1 : -9223372036854775808 ≤ an) (a2 : an ≤ 9223372036854775807) (a3 : -9223372036854775808 ≤ ad) (a4 : ad ≤ 9223372036854775807) (b1 : -9223372036854775808 ≤ bn) (b2 : bn ≤ 9223372036854775807) (b3 : -9223372036854775808 ≤ bd) (b4 : bd ≤ 9223372036854775807) :
    Calls Tryz.prog 31 #[.agg #[.int .i64 an, .int .i64 ad], .agg #[.int .i64 bn, .int .i64 bd]] w (RtE (opE an ad bn bd (subR an ad bn bd)) w) := by
  cases vb : vB bn bd with
  | false =>
    have VB := Lib.hid vb
    have HR := Lib.hid (show opE an ad bn bd (subR an ad bn bd) = (0, 0, 1) by unfold opE; rw [vb, Bool.and_false]; rfl)
    clear vb
    go_enter Tryz.func31, Tryz.ntmps31
    go_wp2_with fail
    obtain ⟨w1, hw⟩ : ∃ z9 : World, z9 = (((w.alloc (.cells #[.int .i64 an, .int .i64 ad] 23)).alloc (.cells #[.int .i64 bn, .int .i64 bd] 23)).alloc (.cells #[.int .i64 0, .int .i64 0] 23)) := ⟨_, rfl⟩
    have HB1 := Lib.hid (show Below w.heap.size w w1 by rw [hw]; exact below_a3 _ _ _ _)
    have F1ka := Lib.hid (show Blk w1 (w.heap.size) 23 #[.int .i64 an, .int .i64 ad] by rw [hw]; exact ((Blk.new _ _ _).alloc _).alloc _)
    have F1kb := Lib.hid (show Blk w1 (w.heap.size + 1) 23 #[.int .i64 bn, .int .i64 bd] by rw [hw]; exact (Blk.new1 _ _ _ _).alloc _)
    have F1r := Lib.hid (show Blk w1 (w.heap.size + 1 + 1) 23 #[.int .i64 0, .int .i64 0] by rw [hw]; exact Blk.new2 _ _ _ _ _)
    rw [← hw]
    clear hw
    have pkb0 : (w1).cell? ⟨w.heap.size + 1, 0, none⟩ = some (.int .i64 bn) := F1kb.out.cell 0
    have fkb0 : (w1).frozen? ⟨w.heap.size + 1, 0, none⟩ = false := F1kb.out.frozen 0
    have pkb1 : (w1).cell? ⟨w.heap.size + 1, 1, none⟩ = some (.int .i64 bd) := F1kb.out.cell 1
    have fkb1 : (w1).frozen? ⟨w.heap.size + 1, 1, none⟩ = false := F1kb.out.frozen 1
    refine (valid_r bn bd w1 b1 b2 b3 b4).mono ?_
    rw [VB.out]
    rintro e w2 ⟨rfl, HB2⟩
    have F2ka := Lib.hid (F1ka.out.belowW HB2.out)
    have F2kb := Lib.hid (F1kb.out.belowW HB2.out)
    have F2r := Lib.hid (F1r.out.belowW HB2.out)
    have HL2 := Lib.hid (HB1.out.trans (HB2.out.mono HB1.out.size))
    have pr0 : (w2).cell? ⟨w.heap.size + 1 + 1, 0, none⟩ = some (.int .i64 0) := F2r.out.cell 0
    have fr0 : (w2).frozen? ⟨w.heap.size + 1 + 1, 0, none⟩ = false := F2r.out.frozen 0
    have pr1 : (w2).cell? ⟨w.heap.size + 1 + 1, 1, none⟩ = some (.int .i64 0) := F2r.out.cell 1
    have fr1 : (w2).frozen? ⟨w.heap.size + 1 + 1, 1, none⟩ = false := F2r.out.frozen 1
    go_wp2_with fail
    refine bodyPost_ret (v := .tuple #[.agg #[.int .i64 0, .int .i64 0], .int .i64 1]) (by simp [results, Tryz.results31, go_sem, pr0, pr1]) rfl ?_
    rw [HR.out]
    exact ⟨rfl, Lib.hid (store2_below HL2.out F2r.out _ _ (by omega))⟩
  | true =>
    have VB := Lib.hid vb
    have bb := vB_bd vb
    have HE := Lib.hid (sub_eq an ad bn bd)
    clear vb
    go_enter Tryz.func31, Tryz.ntmps31
    go_wp2_with fail
    obtain ⟨w1, hw⟩ : ∃ z9 : World, z9 = (((w.alloc (.cells #[.int .i64 an, .int .i64 ad] 23)).alloc (.cells #[.int .i64 bn, .int .i64 bd] 23)).alloc (.cells #[.int .i64 0, .int .i64 0] 23)) := ⟨_, rfl⟩
    have HB1 := Lib.hid (show Below w.heap.size w w1 by rw [hw]; exact below_a3 _ _ _ _)
    have F1ka := Lib.hid (show Blk w1 (w.heap.size) 23 #[.int .i64 an, .int .i64 ad] by rw [hw]; exact ((Blk.new _ _ _).alloc _).alloc _)
    have F1kb := Lib.hid (show Blk w1 (w.heap.size + 1) 23 #[.int .i64 bn, .int .i64 bd] by rw [hw]; exact (Blk.new1 _ _ _ _).alloc _)
    have F1r := Lib.hid (show Blk w1 (w.heap.size + 1 + 1) 23 #[.int .i64 0, .int .i64 0] by rw [hw]; exact Blk.new2 _ _ _ _ _)
    rw [← hw]
    clear hw
    have pkb0 : (w1).cell? ⟨w.heap.size + 1, 0, none⟩ = some (.int .i64 bn) := F1kb.out.cell 0
    have fkb0 : (w1).frozen? ⟨w.heap.size + 1, 0, none⟩ = false := F1kb.out.frozen 0
    have pkb1 : (w1).cell? ⟨w.heap.size + 1, 1, none⟩ = some (.int .i64 bd) := F1kb.out.cell 1
    have fkb1 : (w1).frozen? ⟨w.heap.size + 1, 1, none⟩ = false := F1kb.out.frozen 1
    refine (valid_r bn bd w1 b1 b2 b3 b4).mono ?_
    rw [VB.out]
    rintro e w2 ⟨rfl, HB2⟩
    have F2ka := Lib.hid (F1ka.out.belowW HB2.out)
    have F2kb := Lib.hid (F1kb.out.belowW HB2.out)
    have F2r := Lib.hid (F1r.out.belowW HB2.out)
    have HL2 := Lib.hid (HB1.out.trans (HB2.out.mono HB1.out.size))
    clear pkb0 pkb1 fkb0 fkb1
    have pka0 : (w2).cell? ⟨w.heap.size, 0, none⟩ = some (.int .i64 an) := F2ka.out.cell 0
    have fka0 : (w2).frozen? ⟨w.heap.size, 0, none⟩ = false := F2ka.out.frozen 0
    have pka1 : (w2).cell? ⟨w.heap.size, 1, none⟩ = some (.int .i64 ad) := F2ka.out.cell 1
    have fka1 : (w2).frozen? ⟨w.heap.size, 1, none⟩ = false := F2ka.out.frozen 1
    have pkb0 : (w2).cell? ⟨w.heap.size + 1, 0, none⟩ = some (.int .i64 bn) := F2kb.out.cell 0
    have fkb0 : (w2).frozen? ⟨w.heap.size + 1, 0, none⟩ = false := F2kb.out.frozen 0
    have pkb1 : (w2).cell? ⟨w.heap.size + 1, 1, none⟩ = some (.int .i64 bd) := F2kb.out.cell 1
    have fkb1 : (w2).frozen? ⟨w.heap.size + 1, 1, none⟩ = false := F2kb.out.frozen 1
    go_wp2_with fail
    refine (rAdd an ad (-bn) bd w2 a1 a2 a3 a4 (by omega) (by omega) (by omega) (by omega)).mono ?_
    rw [HE.out]
    rintro e w3 ⟨rfl, HB3⟩
    have F3ka := Lib.hid (F2ka.out.belowW HB3.out)
    have F3kb := Lib.hid (F2kb.out.belowW HB3.out)
    have F3r := Lib.hid (F2r.out.belowW HB3.out)
    have HL3 := Lib.hid (HL2.out.trans (HB3.out.mono HL2.out.size))
    have pr0 : (w3).cell? ⟨w.heap.size + 1 + 1, 0, none⟩ = some (.int .i64 0) := F3r.out.cell 0
    have fr0 : (w3).frozen? ⟨w.heap.size + 1 + 1, 0, none⟩ = false := F3r.out.frozen 0
    have pr1 : (w3).cell? ⟨w.heap.size + 1 + 1, 1, none⟩ = some (.int .i64 0) := F3r.out.cell 1
    have fr1 : (w3).frozen? ⟨w.heap.size + 1 + 1, 1, none⟩ = false := F3r.out.frozen 1
    go_wp2_with fail
    refine bodyPost_ret (v := .tuple #[.agg #[.int .i64 (opE an ad bn bd (subR an ad bn bd)).1, .int .i64 (opE an ad bn bd (subR an ad bn bd)).2.1], .int .i64 (opE an ad bn bd (subR an ad bn bd)).2.2]) (by simp [results, Tryz.results31, go_sem, pr0, pr1]) rfl ?_
    exact ⟨rfl, Lib.hid (store2_below HL3.out F3r.out _ _ (by omega))⟩

set_option maxHeartbeats 2000000 in
theorem rDiv (an ad bn bd : Int) (w : World) (a1 : -9223372036854775808 ≤ an) (a2 : an ≤ 9223372036854775807) (a3 : -9223372036854775808 ≤ ad) (a4 : ad ≤ 9223372036854775807) (b1 : -9223372036854775808 ≤ bn) (b2 : bn ≤ 9223372036854775807) (b3 : -9223372036854775808 ≤ bd) (b4 : bd ≤ 9223372036854775807) :
    Calls Tryz.prog 33 #[.agg #[.int .i64 an, .int .i64 ad], .agg #[.int .i64 bn, .int .i64 bd]] w (RtE (opE an ad bn bd (divR an ad bn bd)) w) := by
  cases va : vB an ad with
  | false =>
    have VA := Lib.hid va
    have HR := Lib.hid (show opE an ad bn bd (divR an ad bn bd) = (0, 0, 1) by unfold opE; rw [va]; rfl)
    clear va
    go_enter Tryz.func33, Tryz.ntmps33
    go_wp2_with fail
    obtain ⟨w1, hw⟩ : ∃ z9 : World, z9 = (((w.alloc (.cells #[.int .i64 an, .int .i64 ad] 23)).alloc (.cells #[.int .i64 bn, .int .i64 bd] 23)).alloc (.cells #[.int .i64 0, .int .i64 0] 23)) := ⟨_, rfl⟩
    have HB1 := Lib.hid (show Below w.heap.size w w1 by rw [hw]; exact below_a3 _ _ _ _)
    have F1ka := Lib.hid (show Blk w1 (w.heap.size) 23 #[.int .i64 an, .int .i64 ad] by rw [hw]; exact ((Blk.new _ _ _).alloc _).alloc _)
    have F1kb := Lib.hid (show Blk w1 (w.heap.size + 1) 23 #[.int .i64 bn, .int .i64 bd] by rw [hw]; exact (Blk.new1 _ _ _ _).alloc _)
    have F1r := Lib.hid (show Blk w1 (w.heap.size + 1 + 1) 23 #[.int .i64 0, .int .i64 0] by rw [hw]; exact Blk.new2 _ _ _ _ _)
    rw [← hw]
    clear hw
    refine (valid_r an ad w1 a1 a2 a3 a4).mono ?_
    rw [VA.out]
    rintro e w2 ⟨rfl, HB2⟩
    have F2ka := Lib.hid (F1ka.out.belowW HB2.out)
    have F2kb := Lib.hid (F1kb.out.belowW HB2.out)
    have F2r := Lib.hid (F1r.out.belowW HB2.out)
    have HL2 := Lib.hid (HB1.out.trans (HB2.out.mono HB1.out.size))
    have pr0 : (w2).cell? ⟨w.heap.size + 1 + 1, 0, none⟩ = some (.int .i64 0) := F2r.out.cell 0
    have fr0 : (w2).frozen? ⟨w.heap.size + 1 + 1, 0, none⟩ = false := F2r.out.frozen 0
    have pr1 : (w2).cell? ⟨w.heap.size + 1 + 1, 1, none⟩ = some (.int .i64 0) := F2r.out.cell 1
    have fr1 : (w2).frozen? ⟨w.heap.size + 1 + 1, 1, none⟩ = false := F2r.out.frozen 1
    go_wp2_with fail
    refine bodyPost_ret (v := .tuple #[.agg #[.int .i64 0, .int .i64 0], .int .i64 1]) (by simp [results, Tryz.results33, go_sem, pr0, pr1]) rfl ?_
    rw [HR.out]
    exact ⟨rfl, Lib.hid (store2_below HL2.out F2r.out _ _ (by omega))⟩
  | true =>
    have VA := Lib.hid va
    cases vb : vB bn bd with
    | false =>
      have VB := Lib.hid vb
      have HR := Lib.hid (show opE an ad bn bd (divR an ad bn bd) = (0, 0, 1) by unfold opE; rw [vb, Bool.and_false]; rfl)
      clear va vb
      go_enter Tryz.func33, Tryz.ntmps33
      go_wp2_with fail
      obtain ⟨w1, hw⟩ : ∃ z9 : World, z9 = (((w.alloc (.cells #[.int .i64 an, .int .i64 ad] 23)).alloc (.cells #[.int .i64 bn, .int .i64 bd] 23)).alloc (.cells #[.int .i64 0, .int .i64 0] 23)) := ⟨_, rfl⟩
      have HB1 := Lib.hid (show Below w.heap.size w w1 by rw [hw]; exact below_a3 _ _ _ _)
      have F1ka := Lib.hid (show Blk w1 (w.heap.size) 23 #[.int .i64 an, .int .i64 ad] by rw [hw]; exact ((Blk.new _ _ _).alloc _).alloc _)
      have F1kb := Lib.hid (show Blk w1 (w.heap.size + 1) 23 #[.int .i64 bn, .int .i64 bd] by rw [hw]; exact (Blk.new1 _ _ _ _).alloc _)
      have F1r := Lib.hid (show Blk w1 (w.heap.size + 1 + 1) 23 #[.int .i64 0, .int .i64 0] by rw [hw]; exact Blk.new2 _ _ _ _ _)
      rw [← hw]
      clear hw
      refine (valid_r an ad w1 a1 a2 a3 a4).mono ?_
      rw [VA.out]
      rintro e w2 ⟨rfl, HB2⟩
      have F2ka := Lib.hid (F1ka.out.belowW HB2.out)
      have F2kb := Lib.hid (F1kb.out.belowW HB2.out)
      have F2r := Lib.hid (F1r.out.belowW HB2.out)
      have HL2 := Lib.hid (HB1.out.trans (HB2.out.mono HB1.out.size))
      have pkb0 : (w2).cell? ⟨w.heap.size + 1, 0, none⟩ = some (.int .i64 bn) := F2kb.out.cell 0
      have fkb0 : (w2).frozen? ⟨w.heap.size + 1, 0, none⟩ = false := F2kb.out.frozen 0
      have pkb1 : (w2).cell? ⟨w.heap.size + 1, 1, none⟩ = some (.int .i64 bd) := F2kb.out.cell 1
      have fkb1 : (w2).frozen? ⟨w.heap.size + 1, 1, none⟩ = false := F2kb.out.frozen 1
      go_wp2_with fail
      refine (valid_r bn bd w2 b1 b2 b3 b4).mono ?_
      rw [VB.out]
      rintro e w3 ⟨rfl, HB3⟩
      have F3ka := Lib.hid (F2ka.out.belowW HB3.out)
      have F3kb := Lib.hid (F2kb.out.belowW HB3.out)
      have F3r := Lib.hid (F2r.out.belowW HB3.out)
      have HL3 := Lib.hid (HL2.out.trans (HB3.out.mono HL2.out.size))
      have pr0 : (w3).cell? ⟨w.heap.size + 1 + 1, 0, none⟩ = some (.int .i64 0) := F3r.out.cell 0
      have fr0 : (w3).frozen? ⟨w.heap.size + 1 + 1, 0, none⟩ = false := F3r.out.frozen 0
      have pr1 : (w3).cell? ⟨w.heap.size + 1 + 1, 1, none⟩ = some (.int .i64 0) := F3r.out.cell 1
      have fr1 : (w3).frozen? ⟨w.heap.size + 1 + 1, 1, none⟩ = false := F3r.out.frozen 1
      go_wp2_with fail
      refine bodyPost_ret (v := .tuple #[.agg #[.int .i64 0, .int .i64 0], .int .i64 1]) (by simp [results, Tryz.results33, go_sem, pr0, pr1]) rfl ?_
      rw [HR.out]
      exact ⟨rfl, Lib.hid (store2_below HL3.out F3r.out _ _ (by omega))⟩
    | true =>
      have VB := Lib.hid vb
      have ba := vB_bd va
      have bb := vB_bd vb
      by_cases hz : bn = 0
      · have HR := Lib.hid (show opE an ad bn bd (Rt.divR an ad bn bd) = (0, 0, 10) by rw [opE, va, vb]; show make _ _ = _; rw [hz, Int.mul_zero]; unfold make; rw [if_pos rfl])
        have dz : (bn == 0) = true := by simp [hz]
        clear va vb hz
        go_enter Tryz.func33, Tryz.ntmps33
        go_wp2_with fail
        obtain ⟨w1, hw⟩ : ∃ z9 : World, z9 = (((w.alloc (.cells #[.int .i64 an, .int .i64 ad] 23)).alloc (.cells #[.int .i64 bn, .int .i64 bd] 23)).alloc (.cells #[.int .i64 0, .int .i64 0] 23)) := ⟨_, rfl⟩
        have HB1 := Lib.hid (show Below w.heap.size w w1 by rw [hw]; exact below_a3 _ _ _ _)
        have F1ka := Lib.hid (show Blk w1 (w.heap.size) 23 #[.int .i64 an, .int .i64 ad] by rw [hw]; exact ((Blk.new _ _ _).alloc _).alloc _)
        have F1kb := Lib.hid (show Blk w1 (w.heap.size + 1) 23 #[.int .i64 bn, .int .i64 bd] by rw [hw]; exact (Blk.new1 _ _ _ _).alloc _)
        have F1r := Lib.hid (show Blk w1 (w.heap.size + 1 + 1) 23 #[.int .i64 0, .int .i64 0] by rw [hw]; exact Blk.new2 _ _ _ _ _)
        rw [← hw]
        clear hw
        refine (valid_r an ad w1 a1 a2 a3 a4).mono ?_
        rw [VA.out]
        rintro e w2 ⟨rfl, HB2⟩
        have F2ka := Lib.hid (F1ka.out.belowW HB2.out)
        have F2kb := Lib.hid (F1kb.out.belowW HB2.out)
        have F2r := Lib.hid (F1r.out.belowW HB2.out)
        have HL2 := Lib.hid (HB1.out.trans (HB2.out.mono HB1.out.size))
        have pkb0 : (w2).cell? ⟨w.heap.size + 1, 0, none⟩ = some (.int .i64 bn) := F2kb.out.cell 0
        have fkb0 : (w2).frozen? ⟨w.heap.size + 1, 0, none⟩ = false := F2kb.out.frozen 0
        have pkb1 : (w2).cell? ⟨w.heap.size + 1, 1, none⟩ = some (.int .i64 bd) := F2kb.out.cell 1
        have fkb1 : (w2).frozen? ⟨w.heap.size + 1, 1, none⟩ = false := F2kb.out.frozen 1
        go_wp2_with fail
        refine (valid_r bn bd w2 b1 b2 b3 b4).mono ?_
        rw [VB.out]
        rintro e w3 ⟨rfl, HB3⟩
        have F3ka := Lib.hid (F2ka.out.belowW HB3.out)
        have F3kb := Lib.hid (F2kb.out.belowW HB3.out)
        have F3r := Lib.hid (F2r.out.belowW HB3.out)
        have HL3 := Lib.hid (HL2.out.trans (HB3.out.mono HL2.out.size))
        clear pkb0 pkb1 fkb0 fkb1
        have pka0 : (w3).cell? ⟨w.heap.size, 0, none⟩ = some (.int .i64 an) := F3ka.out.cell 0
        have fka0 : (w3).frozen? ⟨w.heap.size, 0, none⟩ = false := F3ka.out.frozen 0
        have pka1 : (w3).cell? ⟨w.heap.size, 1, none⟩ = some (.int .i64 ad) := F3ka.out.cell 1
        have fka1 : (w3).frozen? ⟨w.heap.size, 1, none⟩ = false := F3ka.out.frozen 1
        have pkb0 : (w3).cell? ⟨w.heap.size + 1, 0, none⟩ = some (.int .i64 bn) := F3kb.out.cell 0
        have fkb0 : (w3).frozen? ⟨w.heap.size + 1, 0, none⟩ = false := F3kb.out.frozen 0
        have pkb1 : (w3).cell? ⟨w.heap.size + 1, 1, none⟩ = some (.int .i64 bd) := F3kb.out.cell 1
        have fkb1 : (w3).frozen? ⟨w.heap.size + 1, 1, none⟩ = false := F3kb.out.frozen 1
        have pr0 : (w3).cell? ⟨w.heap.size + 1 + 1, 0, none⟩ = some (.int .i64 0) := F3r.out.cell 0
        have fr0 : (w3).frozen? ⟨w.heap.size + 1 + 1, 0, none⟩ = false := F3r.out.frozen 0
        have pr1 : (w3).cell? ⟨w.heap.size + 1 + 1, 1, none⟩ = some (.int .i64 0) := F3r.out.cell 1
        have fr1 : (w3).frozen? ⟨w.heap.size + 1 + 1, 1, none⟩ = false := F3r.out.frozen 1
        go_wp2_with fail
        refine bodyPost_ret (v := .tuple #[.agg #[.int .i64 0, .int .i64 0], .int .i64 10]) (by simp [results, Tryz.results33, go_sem, pr0, pr1]) rfl ?_
        rw [HR.out]
        exact ⟨rfl, Lib.hid (store2_below HL3.out F3r.out _ _ (by omega))⟩
      · have dz : (bn == 0) = false := by simp [hz]
        have m0 := mulR_bd (a := an) (b := bd) (by omega) (by omega) (by omega) (by omega)
        have m1 := mulR_bd (a := ad) (b := bn) (by omega) (by omega) (by omega) (by omega)
        obtain ⟨X, hX⟩ : ∃ X, X = an * bd := ⟨_, rfl⟩
        obtain ⟨Y, hY⟩ : ∃ Y, Y = ad * bn := ⟨_, rfl⟩
        have hY0 : Y ≠ 0 := by rw [hY]; exact Int.mul_ne_zero (by omega) hz
        obtain ⟨sg, hsg⟩ : ∃ z : Bool, z = (decide (X < 0) != decide (Y < 0)) := ⟨_, rfl⟩
        have HSG := Lib.hid (show (!(decide (X < 0) == decide (Y < 0))) = sg from hsg.symm)
        have HR := Lib.hid (show opE an ad bn bd (Rt.divR an ad bn bd) = chkR sg X.natAbs Y.natAbs by rw [opE, va, vb]; show make _ _ = _; rw [← hX, ← hY, hsg]; exact make_chk hY0)
        have HY0 := Lib.hid (show Y.natAbs ≠ 0 by omega)
        rw [← hX] at m0
        rw [← hY] at m1
        have e0 : an * bd = X := hX.symm
        have e1 : ad * bn = Y := hY.symm
        have s0 : IntKind.i64.wrap X = X := IntWalk.i64_in _ (by omega)
        have s1 : IntKind.i64.wrap Y = Y := IntWalk.i64_in _ (by omega)
        clear va vb hX hY hY0 hsg hz
        go_enter Tryz.func33, Tryz.ntmps33
        go_wp2_with fail
        obtain ⟨w1, hw⟩ : ∃ z9 : World, z9 = (((w.alloc (.cells #[.int .i64 an, .int .i64 ad] 23)).alloc (.cells #[.int .i64 bn, .int .i64 bd] 23)).alloc (.cells #[.int .i64 0, .int .i64 0] 23)) := ⟨_, rfl⟩
        have HB1 := Lib.hid (show Below w.heap.size w w1 by rw [hw]; exact below_a3 _ _ _ _)
        have F1ka := Lib.hid (show Blk w1 (w.heap.size) 23 #[.int .i64 an, .int .i64 ad] by rw [hw]; exact ((Blk.new _ _ _).alloc _).alloc _)
        have F1kb := Lib.hid (show Blk w1 (w.heap.size + 1) 23 #[.int .i64 bn, .int .i64 bd] by rw [hw]; exact (Blk.new1 _ _ _ _).alloc _)
        have F1r := Lib.hid (show Blk w1 (w.heap.size + 1 + 1) 23 #[.int .i64 0, .int .i64 0] by rw [hw]; exact Blk.new2 _ _ _ _ _)
        rw [← hw]
        clear hw
        refine (valid_r an ad w1 a1 a2 a3 a4).mono ?_
        rw [VA.out]
        rintro e w2 ⟨rfl, HB2⟩
        have F2ka := Lib.hid (F1ka.out.belowW HB2.out)
        have F2kb := Lib.hid (F1kb.out.belowW HB2.out)
        have F2r := Lib.hid (F1r.out.belowW HB2.out)
        have HL2 := Lib.hid (HB1.out.trans (HB2.out.mono HB1.out.size))
        have pkb0 : (w2).cell? ⟨w.heap.size + 1, 0, none⟩ = some (.int .i64 bn) := F2kb.out.cell 0
        have fkb0 : (w2).frozen? ⟨w.heap.size + 1, 0, none⟩ = false := F2kb.out.frozen 0
        have pkb1 : (w2).cell? ⟨w.heap.size + 1, 1, none⟩ = some (.int .i64 bd) := F2kb.out.cell 1
        have fkb1 : (w2).frozen? ⟨w.heap.size + 1, 1, none⟩ = false := F2kb.out.frozen 1
        go_wp2_with fail
        refine (valid_r bn bd w2 b1 b2 b3 b4).mono ?_
        rw [VB.out]
        rintro e w3 ⟨rfl, HB3⟩
        have F3ka := Lib.hid (F2ka.out.belowW HB3.out)
        have F3kb := Lib.hid (F2kb.out.belowW HB3.out)
        have F3r := Lib.hid (F2r.out.belowW HB3.out)
        have HL3 := Lib.hid (HL2.out.trans (HB3.out.mono HL2.out.size))
        clear pkb0 pkb1 fkb0 fkb1
        have pka0 : (w3).cell? ⟨w.heap.size, 0, none⟩ = some (.int .i64 an) := F3ka.out.cell 0
        have fka0 : (w3).frozen? ⟨w.heap.size, 0, none⟩ = false := F3ka.out.frozen 0
        have pka1 : (w3).cell? ⟨w.heap.size, 1, none⟩ = some (.int .i64 ad) := F3ka.out.cell 1
        have fka1 : (w3).frozen? ⟨w.heap.size, 1, none⟩ = false := F3ka.out.frozen 1
        have pkb0 : (w3).cell? ⟨w.heap.size + 1, 0, none⟩ = some (.int .i64 bn) := F3kb.out.cell 0
        have fkb0 : (w3).frozen? ⟨w.heap.size + 1, 0, none⟩ = false := F3kb.out.frozen 0
        have pkb1 : (w3).cell? ⟨w.heap.size + 1, 1, none⟩ = some (.int .i64 bd) := F3kb.out.cell 1
        have fkb1 : (w3).frozen? ⟨w.heap.size + 1, 1, none⟩ = false := F3kb.out.frozen 1
        go_wp2_with fail
        go_quiet (fail)
        rename_i nq
        obtain ⟨w4, hw⟩ : ∃ z9 : World, z9 = w3.drewN nq := ⟨_, rfl⟩
        have HB4 := Lib.hid (show Below w3.heap.size w3 w4 by rw [hw]; exact below_drewN (Below.refl _ _) _)
        rw [← hw]
        clear hw
        have F4ka := Lib.hid (F3ka.out.belowW HB4.out)
        have F4kb := Lib.hid (F3kb.out.belowW HB4.out)
        have F4r := Lib.hid (F3r.out.belowW HB4.out)
        have HL4 := Lib.hid (HL3.out.trans (HB4.out.mono HL3.out.size))
        go_wp2_with fail
        refine (size_r X w4 (by omega) (by omega)).mono ?_
        rintro e w' ⟨rfl, rfl⟩
        go_wp2_with fail
        refine (size_r Y w4 (by omega) (by omega)).mono ?_
        rintro e w' ⟨rfl, rfl⟩
        go_wp2_with fail
        rw [HSG.out]
        refine (checkedR_any sg X.natAbs Y.natAbs w4 (by omega) (by omega) HY0.out).mono ?_
        rw [← HR.out]
        rintro e w5 ⟨rfl, HB5⟩
        have F5ka := Lib.hid (F4ka.out.belowW HB5.out)
        have F5kb := Lib.hid (F4kb.out.belowW HB5.out)
        have F5r := Lib.hid (F4r.out.belowW HB5.out)
        have HL5 := Lib.hid (HL4.out.trans (HB5.out.mono HL4.out.size))
        have pr0 : (w5).cell? ⟨w.heap.size + 1 + 1, 0, none⟩ = some (.int .i64 0) := F5r.out.cell 0
        have fr0 : (w5).frozen? ⟨w.heap.size + 1 + 1, 0, none⟩ = false := F5r.out.frozen 0
        have pr1 : (w5).cell? ⟨w.heap.size + 1 + 1, 1, none⟩ = some (.int .i64 0) := F5r.out.cell 1
        have fr1 : (w5).frozen? ⟨w.heap.size + 1 + 1, 1, none⟩ = false := F5r.out.frozen 1
        go_wp2_with fail
        refine bodyPost_ret (v := .tuple #[.agg #[.int .i64 (opE an ad bn bd (Rt.divR an ad bn bd)).1, .int .i64 (opE an ad bn bd (Rt.divR an ad bn bd)).2.1], .int .i64 (opE an ad bn bd (Rt.divR an ad bn bd)).2.2]) (by simp [results, Tryz.results33, go_sem, pr0, pr1]) rfl ?_
        exact ⟨rfl, Lib.hid (store2_below HL5.out F5r.out _ _ (by omega))⟩
end Go.Proofs.YtnogfceojmnjiaaGreatDoor
