/-
  The walk of the law RatioFractions.
-/
import Derived.Test.YtnogfceojmnjiaaGreatDoorRaF
import Derived.Test.YtnogfceojmnjiaaGreatDoorRaG
set_option linter.unusedVariables false
namespace Go.Fl.Rt
theorem make_bd {x y n d e : Int} (h : make x y = (n, d, e)) : -1073741824 ≤ n ∧ n ≤ 1073741824 ∧ 0 ≤ d ∧ d ≤ 1073741824 := by
  unfold make at h
  split at h
  · simp at h; omega
  · split at h
    · simp at h; omega
    · rename_i hb
      unfold MX at hb
      generalize x.natAbs / Nat.gcd x.natAbs y.natAbs = q1 at *
      generalize y.natAbs / Nat.gcd x.natAbs y.natAbs = q2 at *
      simp only [Prod.mk.injEq] at h
      obtain ⟨h1, h2, _⟩ := h
      split at h1 <;> omega
theorem opE_bd {an ad bn bd x y n d e : Int} (h : opE an ad bn bd (make x y) = (n, d, e)) : -1073741824 ≤ n ∧ n ≤ 1073741824 ∧ 0 ≤ d ∧ d ≤ 1073741824 := by
  unfold opE at h
  split at h
  · exact make_bd h
  · simp at h; omega
theorem opE_yes {an ad bn bd : Int} (r : Int × Int × Int) (ha : vB an ad = true) (hb : vB bn bd = true) : opE an ad bn bd r = r := by unfold opE; rw [ha, hb]; rfl
theorem opE_ok {an ad bn bd n d : Int} {r : Int × Int × Int} (h : opE an ad bn bd r = (n, d, 0)) : vB an ad = true ∧ vB bn bd = true ∧ r = (n, d, 0) := by
  unfold opE at h
  split at h
  · rename_i hv
    rw [Bool.and_eq_true] at hv
    exact ⟨hv.1, hv.2, h⟩
  · simp at h
end Go.Fl.Rt
namespace Go.Proofs.YtnogfceojmnjiaaGreatDoor
open Go.RowKit Go.Fl Go.Fl.Nm Go.Fl.Dy Go.Fl.Rt

set_option maxHeartbeats 8000000 in
set_option maxRecDepth 100000 in
theorem ratioFractions_any (an ad : Int) (bn bd : Int) (cn cd : Int) (w : World) (hT : RX w) (a1 : -9223372036854775808 ≤ an) (a2 : an ≤ 9223372036854775807) (a3 : -9223372036854775808 ≤ ad) (a4 : ad ≤ 9223372036854775807) (b1 : -9223372036854775808 ≤ bn) (b2 : bn ≤ 9223372036854775807) (b3 : -9223372036854775808 ≤ bd) (b4 : bd ≤ 9223372036854775807) (c1 : -9223372036854775808 ≤ cn) (c2 : cn ≤ 9223372036854775807) (c3 : -9223372036854775808 ≤ cd) (c4 : cd ≤ 9223372036854775807) :
    Calls Tryz.prog 8 #[.agg #[.int .i64 an, .int .i64 ad], .agg #[.int .i64 bn, .int .i64 bd], .agg #[.int .i64 cn, .int .i64 cd]] w (Awk w) := by
  have HT := Lib.hid hT
  clear hT
  cases va : vB an ad with
  | false =>
    have Va := Lib.hid va
    clear va
    go_enter Tryz.func8, Tryz.ntmps8
    go_wp2_with fail
    obtain ⟨w1, hw⟩ : ∃ z9 : World, z9 = (((w.alloc (.cells #[.int .i64 an, .int .i64 ad] 23)).alloc (.cells #[.int .i64 bn, .int .i64 bd] 23)).alloc (.cells #[.int .i64 cn, .int .i64 cd] 23)) := ⟨_, rfl⟩
    have HB1 := Lib.hid (show Below w.heap.size w w1 by rw [hw]; exact below_a3 _ _ _ _)
    have F1t := Lib.hid (HT.out.belowW HB1.out)
    have F1ka := Lib.hid (show Blk w1 (w.heap.size) 23 #[.int .i64 an, .int .i64 ad] by rw [hw]; exact ((Blk.new _ _ _).alloc _).alloc _)
    have F1kb := Lib.hid (show Blk w1 (w.heap.size + 1) 23 #[.int .i64 bn, .int .i64 bd] by rw [hw]; exact (Blk.new1 _ _ _ _).alloc _)
    have F1kc := Lib.hid (show Blk w1 (w.heap.size + 1 + 1) 23 #[.int .i64 cn, .int .i64 cd] by rw [hw]; exact Blk.new2 _ _ _ _ _)
    rw [← hw]
    clear hw
    refine (awake_any w1 F1t.out).mono ?_
    rintro e w2 ⟨rfl, HB2⟩
    have F2t := Lib.hid (F1t.out.belowW HB2.out)
    have F2ka := Lib.hid (F1ka.out.belowW HB2.out)
    have F2kb := Lib.hid (F1kb.out.belowW HB2.out)
    have F2kc := Lib.hid (F1kc.out.belowW HB2.out)
    have HL2 := Lib.hid (HB1.out.trans (HB2.out.mono HB1.out.size))
    have pka0 : (w2).cell? ⟨w.heap.size, 0, none⟩ = some (.int .i64 an) := F2ka.out.cell 0
    have fka0 : (w2).frozen? ⟨w.heap.size, 0, none⟩ = false := F2ka.out.frozen 0
    have pka1 : (w2).cell? ⟨w.heap.size, 1, none⟩ = some (.int .i64 ad) := F2ka.out.cell 1
    have fka1 : (w2).frozen? ⟨w.heap.size, 1, none⟩ = false := F2ka.out.frozen 1
    have pkb0 : (w2).cell? ⟨w.heap.size + 1, 0, none⟩ = some (.int .i64 bn) := F2kb.out.cell 0
    have fkb0 : (w2).frozen? ⟨w.heap.size + 1, 0, none⟩ = false := F2kb.out.frozen 0
    have pkb1 : (w2).cell? ⟨w.heap.size + 1, 1, none⟩ = some (.int .i64 bd) := F2kb.out.cell 1
    have fkb1 : (w2).frozen? ⟨w.heap.size + 1, 1, none⟩ = false := F2kb.out.frozen 1
    have pkc0 : (w2).cell? ⟨w.heap.size + 1 + 1, 0, none⟩ = some (.int .i64 cn) := F2kc.out.cell 0
    have fkc0 : (w2).frozen? ⟨w.heap.size + 1 + 1, 0, none⟩ = false := F2kc.out.frozen 0
    have pkc1 : (w2).cell? ⟨w.heap.size + 1 + 1, 1, none⟩ = some (.int .i64 cd) := F2kc.out.cell 1
    have fkc1 : (w2).frozen? ⟨w.heap.size + 1 + 1, 1, none⟩ = false := F2kc.out.frozen 1
    go_wp2_with fail
    refine (valid_q an ad w2 a1 a2 a3 a4).mono ?_
    rw [Va.out]
    rintro e w3 ⟨rfl, HB3⟩
    have F3t := Lib.hid (F2t.out.belowW HB3.out)
    have F3ka := Lib.hid (F2ka.out.belowW HB3.out)
    have F3kb := Lib.hid (F2kb.out.belowW HB3.out)
    have F3kc := Lib.hid (F2kc.out.belowW HB3.out)
    have HL3 := Lib.hid (HL2.out.trans (HB3.out.mono HL2.out.size))
    clear pka0 fka0 pka1 fka1 pkb0 fkb0 pkb1 fkb1 pkc0 fkc0 pkc1 fkc1
    have pka0 : (w3).cell? ⟨w.heap.size, 0, none⟩ = some (.int .i64 an) := F3ka.out.cell 0
    have fka0 : (w3).frozen? ⟨w.heap.size, 0, none⟩ = false := F3ka.out.frozen 0
    have pka1 : (w3).cell? ⟨w.heap.size, 1, none⟩ = some (.int .i64 ad) := F3ka.out.cell 1
    have fka1 : (w3).frozen? ⟨w.heap.size, 1, none⟩ = false := F3ka.out.frozen 1
    have pkb0 : (w3).cell? ⟨w.heap.size + 1, 0, none⟩ = some (.int .i64 bn) := F3kb.out.cell 0
    have fkb0 : (w3).frozen? ⟨w.heap.size + 1, 0, none⟩ = false := F3kb.out.frozen 0
    have pkb1 : (w3).cell? ⟨w.heap.size + 1, 1, none⟩ = some (.int .i64 bd) := F3kb.out.cell 1
    have fkb1 : (w3).frozen? ⟨w.heap.size + 1, 1, none⟩ = false := F3kb.out.frozen 1
    have pkc0 : (w3).cell? ⟨w.heap.size + 1 + 1, 0, none⟩ = some (.int .i64 cn) := F3kc.out.cell 0
    have fkc0 : (w3).frozen? ⟨w.heap.size + 1 + 1, 0, none⟩ = false := F3kc.out.frozen 0
    have pkc1 : (w3).cell? ⟨w.heap.size + 1 + 1, 1, none⟩ = some (.int .i64 cd) := F3kc.out.cell 1
    have fkc1 : (w3).frozen? ⟨w.heap.size + 1 + 1, 1, none⟩ = false := F3kc.out.frozen 1
    go_wp2_with fail
    go_ret
    exact ⟨rfl, HL3⟩
  | true =>
  have Va := Lib.hid va
  have ba := vB_bd va
  have hav := va
  cases vb : vB bn bd with
  | false =>
    have Vb := Lib.hid vb
    clear vb
    go_enter Tryz.func8, Tryz.ntmps8
    go_wp2_with fail
    obtain ⟨w1, hw⟩ : ∃ z9 : World, z9 = (((w.alloc (.cells #[.int .i64 an, .int .i64 ad] 23)).alloc (.cells #[.int .i64 bn, .int .i64 bd] 23)).alloc (.cells #[.int .i64 cn, .int .i64 cd] 23)) := ⟨_, rfl⟩
    have HB1 := Lib.hid (show Below w.heap.size w w1 by rw [hw]; exact below_a3 _ _ _ _)
    have F1t := Lib.hid (HT.out.belowW HB1.out)
    have F1ka := Lib.hid (show Blk w1 (w.heap.size) 23 #[.int .i64 an, .int .i64 ad] by rw [hw]; exact ((Blk.new _ _ _).alloc _).alloc _)
    have F1kb := Lib.hid (show Blk w1 (w.heap.size + 1) 23 #[.int .i64 bn, .int .i64 bd] by rw [hw]; exact (Blk.new1 _ _ _ _).alloc _)
    have F1kc := Lib.hid (show Blk w1 (w.heap.size + 1 + 1) 23 #[.int .i64 cn, .int .i64 cd] by rw [hw]; exact Blk.new2 _ _ _ _ _)
    rw [← hw]
    clear hw
    refine (awake_any w1 F1t.out).mono ?_
    rintro e w2 ⟨rfl, HB2⟩
    have F2t := Lib.hid (F1t.out.belowW HB2.out)
    have F2ka := Lib.hid (F1ka.out.belowW HB2.out)
    have F2kb := Lib.hid (F1kb.out.belowW HB2.out)
    have F2kc := Lib.hid (F1kc.out.belowW HB2.out)
    have HL2 := Lib.hid (HB1.out.trans (HB2.out.mono HB1.out.size))
    have pka0 : (w2).cell? ⟨w.heap.size, 0, none⟩ = some (.int .i64 an) := F2ka.out.cell 0
    have fka0 : (w2).frozen? ⟨w.heap.size, 0, none⟩ = false := F2ka.out.frozen 0
    have pka1 : (w2).cell? ⟨w.heap.size, 1, none⟩ = some (.int .i64 ad) := F2ka.out.cell 1
    have fka1 : (w2).frozen? ⟨w.heap.size, 1, none⟩ = false := F2ka.out.frozen 1
    have pkb0 : (w2).cell? ⟨w.heap.size + 1, 0, none⟩ = some (.int .i64 bn) := F2kb.out.cell 0
    have fkb0 : (w2).frozen? ⟨w.heap.size + 1, 0, none⟩ = false := F2kb.out.frozen 0
    have pkb1 : (w2).cell? ⟨w.heap.size + 1, 1, none⟩ = some (.int .i64 bd) := F2kb.out.cell 1
    have fkb1 : (w2).frozen? ⟨w.heap.size + 1, 1, none⟩ = false := F2kb.out.frozen 1
    have pkc0 : (w2).cell? ⟨w.heap.size + 1 + 1, 0, none⟩ = some (.int .i64 cn) := F2kc.out.cell 0
    have fkc0 : (w2).frozen? ⟨w.heap.size + 1 + 1, 0, none⟩ = false := F2kc.out.frozen 0
    have pkc1 : (w2).cell? ⟨w.heap.size + 1 + 1, 1, none⟩ = some (.int .i64 cd) := F2kc.out.cell 1
    have fkc1 : (w2).frozen? ⟨w.heap.size + 1 + 1, 1, none⟩ = false := F2kc.out.frozen 1
    go_wp2_with fail
    refine (valid_q an ad w2 a1 a2 a3 a4).mono ?_
    rw [Va.out]
    rintro e w3 ⟨rfl, HB3⟩
    have F3t := Lib.hid (F2t.out.belowW HB3.out)
    have F3ka := Lib.hid (F2ka.out.belowW HB3.out)
    have F3kb := Lib.hid (F2kb.out.belowW HB3.out)
    have F3kc := Lib.hid (F2kc.out.belowW HB3.out)
    have HL3 := Lib.hid (HL2.out.trans (HB3.out.mono HL2.out.size))
    clear pka0 fka0 pka1 fka1 pkb0 fkb0 pkb1 fkb1 pkc0 fkc0 pkc1 fkc1
    have pka0 : (w3).cell? ⟨w.heap.size, 0, none⟩ = some (.int .i64 an) := F3ka.out.cell 0
    have fka0 : (w3).frozen? ⟨w.heap.size, 0, none⟩ = false := F3ka.out.frozen 0
    have pka1 : (w3).cell? ⟨w.heap.size, 1, none⟩ = some (.int .i64 ad) := F3ka.out.cell 1
    have fka1 : (w3).frozen? ⟨w.heap.size, 1, none⟩ = false := F3ka.out.frozen 1
    have pkb0 : (w3).cell? ⟨w.heap.size + 1, 0, none⟩ = some (.int .i64 bn) := F3kb.out.cell 0
    have fkb0 : (w3).frozen? ⟨w.heap.size + 1, 0, none⟩ = false := F3kb.out.frozen 0
    have pkb1 : (w3).cell? ⟨w.heap.size + 1, 1, none⟩ = some (.int .i64 bd) := F3kb.out.cell 1
    have fkb1 : (w3).frozen? ⟨w.heap.size + 1, 1, none⟩ = false := F3kb.out.frozen 1
    have pkc0 : (w3).cell? ⟨w.heap.size + 1 + 1, 0, none⟩ = some (.int .i64 cn) := F3kc.out.cell 0
    have fkc0 : (w3).frozen? ⟨w.heap.size + 1 + 1, 0, none⟩ = false := F3kc.out.frozen 0
    have pkc1 : (w3).cell? ⟨w.heap.size + 1 + 1, 1, none⟩ = some (.int .i64 cd) := F3kc.out.cell 1
    have fkc1 : (w3).frozen? ⟨w.heap.size + 1 + 1, 1, none⟩ = false := F3kc.out.frozen 1
    go_wp2_with fail
    refine (valid_q bn bd w3 b1 b2 b3 b4).mono ?_
    rw [Vb.out]
    rintro e w4 ⟨rfl, HB4⟩
    have F4t := Lib.hid (F3t.out.belowW HB4.out)
    have F4ka := Lib.hid (F3ka.out.belowW HB4.out)
    have F4kb := Lib.hid (F3kb.out.belowW HB4.out)
    have F4kc := Lib.hid (F3kc.out.belowW HB4.out)
    have HL4 := Lib.hid (HL3.out.trans (HB4.out.mono HL3.out.size))
    clear pka0 fka0 pka1 fka1 pkb0 fkb0 pkb1 fkb1 pkc0 fkc0 pkc1 fkc1
    have pka0 : (w4).cell? ⟨w.heap.size, 0, none⟩ = some (.int .i64 an) := F4ka.out.cell 0
    have fka0 : (w4).frozen? ⟨w.heap.size, 0, none⟩ = false := F4ka.out.frozen 0
    have pka1 : (w4).cell? ⟨w.heap.size, 1, none⟩ = some (.int .i64 ad) := F4ka.out.cell 1
    have fka1 : (w4).frozen? ⟨w.heap.size, 1, none⟩ = false := F4ka.out.frozen 1
    have pkb0 : (w4).cell? ⟨w.heap.size + 1, 0, none⟩ = some (.int .i64 bn) := F4kb.out.cell 0
    have fkb0 : (w4).frozen? ⟨w.heap.size + 1, 0, none⟩ = false := F4kb.out.frozen 0
    have pkb1 : (w4).cell? ⟨w.heap.size + 1, 1, none⟩ = some (.int .i64 bd) := F4kb.out.cell 1
    have fkb1 : (w4).frozen? ⟨w.heap.size + 1, 1, none⟩ = false := F4kb.out.frozen 1
    have pkc0 : (w4).cell? ⟨w.heap.size + 1 + 1, 0, none⟩ = some (.int .i64 cn) := F4kc.out.cell 0
    have fkc0 : (w4).frozen? ⟨w.heap.size + 1 + 1, 0, none⟩ = false := F4kc.out.frozen 0
    have pkc1 : (w4).cell? ⟨w.heap.size + 1 + 1, 1, none⟩ = some (.int .i64 cd) := F4kc.out.cell 1
    have fkc1 : (w4).frozen? ⟨w.heap.size + 1 + 1, 1, none⟩ = false := F4kc.out.frozen 1
    go_wp2_with fail
    go_ret
    exact ⟨rfl, HL4⟩
  | true =>
  have Vb := Lib.hid vb
  have bb := vB_bd vb
  have hbv := vb
  cases vc : vB cn cd with
  | false =>
    have Vc := Lib.hid vc
    clear vc
    go_enter Tryz.func8, Tryz.ntmps8
    go_wp2_with fail
    obtain ⟨w1, hw⟩ : ∃ z9 : World, z9 = (((w.alloc (.cells #[.int .i64 an, .int .i64 ad] 23)).alloc (.cells #[.int .i64 bn, .int .i64 bd] 23)).alloc (.cells #[.int .i64 cn, .int .i64 cd] 23)) := ⟨_, rfl⟩
    have HB1 := Lib.hid (show Below w.heap.size w w1 by rw [hw]; exact below_a3 _ _ _ _)
    have F1t := Lib.hid (HT.out.belowW HB1.out)
    have F1ka := Lib.hid (show Blk w1 (w.heap.size) 23 #[.int .i64 an, .int .i64 ad] by rw [hw]; exact ((Blk.new _ _ _).alloc _).alloc _)
    have F1kb := Lib.hid (show Blk w1 (w.heap.size + 1) 23 #[.int .i64 bn, .int .i64 bd] by rw [hw]; exact (Blk.new1 _ _ _ _).alloc _)
    have F1kc := Lib.hid (show Blk w1 (w.heap.size + 1 + 1) 23 #[.int .i64 cn, .int .i64 cd] by rw [hw]; exact Blk.new2 _ _ _ _ _)
    rw [← hw]
    clear hw
    refine (awake_any w1 F1t.out).mono ?_
    rintro e w2 ⟨rfl, HB2⟩
    have F2t := Lib.hid (F1t.out.belowW HB2.out)
    have F2ka := Lib.hid (F1ka.out.belowW HB2.out)
    have F2kb := Lib.hid (F1kb.out.belowW HB2.out)
    have F2kc := Lib.hid (F1kc.out.belowW HB2.out)
    have HL2 := Lib.hid (HB1.out.trans (HB2.out.mono HB1.out.size))
    have pka0 : (w2).cell? ⟨w.heap.size, 0, none⟩ = some (.int .i64 an) := F2ka.out.cell 0
    have fka0 : (w2).frozen? ⟨w.heap.size, 0, none⟩ = false := F2ka.out.frozen 0
    have pka1 : (w2).cell? ⟨w.heap.size, 1, none⟩ = some (.int .i64 ad) := F2ka.out.cell 1
    have fka1 : (w2).frozen? ⟨w.heap.size, 1, none⟩ = false := F2ka.out.frozen 1
    have pkb0 : (w2).cell? ⟨w.heap.size + 1, 0, none⟩ = some (.int .i64 bn) := F2kb.out.cell 0
    have fkb0 : (w2).frozen? ⟨w.heap.size + 1, 0, none⟩ = false := F2kb.out.frozen 0
    have pkb1 : (w2).cell? ⟨w.heap.size + 1, 1, none⟩ = some (.int .i64 bd) := F2kb.out.cell 1
    have fkb1 : (w2).frozen? ⟨w.heap.size + 1, 1, none⟩ = false := F2kb.out.frozen 1
    have pkc0 : (w2).cell? ⟨w.heap.size + 1 + 1, 0, none⟩ = some (.int .i64 cn) := F2kc.out.cell 0
    have fkc0 : (w2).frozen? ⟨w.heap.size + 1 + 1, 0, none⟩ = false := F2kc.out.frozen 0
    have pkc1 : (w2).cell? ⟨w.heap.size + 1 + 1, 1, none⟩ = some (.int .i64 cd) := F2kc.out.cell 1
    have fkc1 : (w2).frozen? ⟨w.heap.size + 1 + 1, 1, none⟩ = false := F2kc.out.frozen 1
    go_wp2_with fail
    refine (valid_q an ad w2 a1 a2 a3 a4).mono ?_
    rw [Va.out]
    rintro e w3 ⟨rfl, HB3⟩
    have F3t := Lib.hid (F2t.out.belowW HB3.out)
    have F3ka := Lib.hid (F2ka.out.belowW HB3.out)
    have F3kb := Lib.hid (F2kb.out.belowW HB3.out)
    have F3kc := Lib.hid (F2kc.out.belowW HB3.out)
    have HL3 := Lib.hid (HL2.out.trans (HB3.out.mono HL2.out.size))
    clear pka0 fka0 pka1 fka1 pkb0 fkb0 pkb1 fkb1 pkc0 fkc0 pkc1 fkc1
    have pka0 : (w3).cell? ⟨w.heap.size, 0, none⟩ = some (.int .i64 an) := F3ka.out.cell 0
    have fka0 : (w3).frozen? ⟨w.heap.size, 0, none⟩ = false := F3ka.out.frozen 0
    have pka1 : (w3).cell? ⟨w.heap.size, 1, none⟩ = some (.int .i64 ad) := F3ka.out.cell 1
    have fka1 : (w3).frozen? ⟨w.heap.size, 1, none⟩ = false := F3ka.out.frozen 1
    have pkb0 : (w3).cell? ⟨w.heap.size + 1, 0, none⟩ = some (.int .i64 bn) := F3kb.out.cell 0
    have fkb0 : (w3).frozen? ⟨w.heap.size + 1, 0, none⟩ = false := F3kb.out.frozen 0
    have pkb1 : (w3).cell? ⟨w.heap.size + 1, 1, none⟩ = some (.int .i64 bd) := F3kb.out.cell 1
    have fkb1 : (w3).frozen? ⟨w.heap.size + 1, 1, none⟩ = false := F3kb.out.frozen 1
    have pkc0 : (w3).cell? ⟨w.heap.size + 1 + 1, 0, none⟩ = some (.int .i64 cn) := F3kc.out.cell 0
    have fkc0 : (w3).frozen? ⟨w.heap.size + 1 + 1, 0, none⟩ = false := F3kc.out.frozen 0
    have pkc1 : (w3).cell? ⟨w.heap.size + 1 + 1, 1, none⟩ = some (.int .i64 cd) := F3kc.out.cell 1
    have fkc1 : (w3).frozen? ⟨w.heap.size + 1 + 1, 1, none⟩ = false := F3kc.out.frozen 1
    go_wp2_with fail
    refine (valid_q bn bd w3 b1 b2 b3 b4).mono ?_
    rw [Vb.out]
    rintro e w4 ⟨rfl, HB4⟩
    have F4t := Lib.hid (F3t.out.belowW HB4.out)
    have F4ka := Lib.hid (F3ka.out.belowW HB4.out)
    have F4kb := Lib.hid (F3kb.out.belowW HB4.out)
    have F4kc := Lib.hid (F3kc.out.belowW HB4.out)
    have HL4 := Lib.hid (HL3.out.trans (HB4.out.mono HL3.out.size))
    clear pka0 fka0 pka1 fka1 pkb0 fkb0 pkb1 fkb1 pkc0 fkc0 pkc1 fkc1
    have pka0 : (w4).cell? ⟨w.heap.size, 0, none⟩ = some (.int .i64 an) := F4ka.out.cell 0
    have fka0 : (w4).frozen? ⟨w.heap.size, 0, none⟩ = false := F4ka.out.frozen 0
    have pka1 : (w4).cell? ⟨w.heap.size, 1, none⟩ = some (.int .i64 ad) := F4ka.out.cell 1
    have fka1 : (w4).frozen? ⟨w.heap.size, 1, none⟩ = false := F4ka.out.frozen 1
    have pkb0 : (w4).cell? ⟨w.heap.size + 1, 0, none⟩ = some (.int .i64 bn) := F4kb.out.cell 0
    have fkb0 : (w4).frozen? ⟨w.heap.size + 1, 0, none⟩ = false := F4kb.out.frozen 0
    have pkb1 : (w4).cell? ⟨w.heap.size + 1, 1, none⟩ = some (.int .i64 bd) := F4kb.out.cell 1
    have fkb1 : (w4).frozen? ⟨w.heap.size + 1, 1, none⟩ = false := F4kb.out.frozen 1
    have pkc0 : (w4).cell? ⟨w.heap.size + 1 + 1, 0, none⟩ = some (.int .i64 cn) := F4kc.out.cell 0
    have fkc0 : (w4).frozen? ⟨w.heap.size + 1 + 1, 0, none⟩ = false := F4kc.out.frozen 0
    have pkc1 : (w4).cell? ⟨w.heap.size + 1 + 1, 1, none⟩ = some (.int .i64 cd) := F4kc.out.cell 1
    have fkc1 : (w4).frozen? ⟨w.heap.size + 1 + 1, 1, none⟩ = false := F4kc.out.frozen 1
    go_wp2_with fail
    refine (valid_q cn cd w4 c1 c2 c3 c4).mono ?_
    rw [Vc.out]
    rintro e w5 ⟨rfl, HB5⟩
    have F5t := Lib.hid (F4t.out.belowW HB5.out)
    have F5ka := Lib.hid (F4ka.out.belowW HB5.out)
    have F5kb := Lib.hid (F4kb.out.belowW HB5.out)
    have F5kc := Lib.hid (F4kc.out.belowW HB5.out)
    have HL5 := Lib.hid (HL4.out.trans (HB5.out.mono HL4.out.size))
    clear pka0 fka0 pka1 fka1 pkb0 fkb0 pkb1 fkb1 pkc0 fkc0 pkc1 fkc1
    have pka0 : (w5).cell? ⟨w.heap.size, 0, none⟩ = some (.int .i64 an) := F5ka.out.cell 0
    have fka0 : (w5).frozen? ⟨w.heap.size, 0, none⟩ = false := F5ka.out.frozen 0
    have pka1 : (w5).cell? ⟨w.heap.size, 1, none⟩ = some (.int .i64 ad) := F5ka.out.cell 1
    have fka1 : (w5).frozen? ⟨w.heap.size, 1, none⟩ = false := F5ka.out.frozen 1
    have pkb0 : (w5).cell? ⟨w.heap.size + 1, 0, none⟩ = some (.int .i64 bn) := F5kb.out.cell 0
    have fkb0 : (w5).frozen? ⟨w.heap.size + 1, 0, none⟩ = false := F5kb.out.frozen 0
    have pkb1 : (w5).cell? ⟨w.heap.size + 1, 1, none⟩ = some (.int .i64 bd) := F5kb.out.cell 1
    have fkb1 : (w5).frozen? ⟨w.heap.size + 1, 1, none⟩ = false := F5kb.out.frozen 1
    have pkc0 : (w5).cell? ⟨w.heap.size + 1 + 1, 0, none⟩ = some (.int .i64 cn) := F5kc.out.cell 0
    have fkc0 : (w5).frozen? ⟨w.heap.size + 1 + 1, 0, none⟩ = false := F5kc.out.frozen 0
    have pkc1 : (w5).cell? ⟨w.heap.size + 1 + 1, 1, none⟩ = some (.int .i64 cd) := F5kc.out.cell 1
    have fkc1 : (w5).frozen? ⟨w.heap.size + 1 + 1, 1, none⟩ = false := F5kc.out.frozen 1
    go_wp2_with fail
    go_ret
    exact ⟨rfl, HL5⟩
  | true =>
  have Vc := Lib.hid vc
  have bc := vB_bd vc
  have hcv := vc
  have wa := vB_iff.1 va
  have wb := vB_iff.1 vb
  obtain ⟨sn, sd, se, hs⟩ : ∃ x y z, addR an ad bn bd = (x, y, z) := ⟨_, _, _, rfl⟩
  obtain ⟨mn, md, me, hm⟩ : ∃ x y z, mulR an ad bn bd = (x, y, z) := ⟨_, _, _, rfl⟩
  obtain ⟨kn, kd, ke, hk⟩ : ∃ x y z, mulR cn cd an ad = (x, y, z) := ⟨_, _, _, rfl⟩
  obtain ⟨ln, ld, le, hl⟩ : ∃ x y z, mulR cn cd bn bd = (x, y, z) := ⟨_, _, _, rfl⟩
  obtain ⟨xn, xd, xe, hx⟩ : ∃ x y z, opE cn cd sn sd (mulR cn cd sn sd) = (x, y, z) := ⟨_, _, _, rfl⟩
  obtain ⟨yn, yd, ye, hy⟩ : ∃ x y z, opE kn kd ln ld (addR kn kd ln ld) = (x, y, z) := ⟨_, _, _, rfl⟩
  obtain ⟨dn, dd, de, hd⟩ : ∃ x y z, subR an ad bn bd = (x, y, z) := ⟨_, _, _, rfl⟩
  have bs := make_bd hs
  have bm := make_bd hm
  have bk := make_bd hk
  have bl := make_bd hl
  have bx := opE_bd hx
  have by' := opE_bd hy
  have bd' := make_bd hd
  have HS := Lib.hid ((opE_yes _ va vb).trans hs)
  have HS2 := Lib.hid ((opE_yes _ vb va).trans ((addR_comm _ _ _ _).symm.trans hs))
  have HM := Lib.hid ((opE_yes _ va vb).trans hm)
  have HM2 := Lib.hid ((opE_yes _ vb va).trans ((mulR_comm _ _ _ _).symm.trans hm))
  have HK := Lib.hid ((opE_yes _ vc va).trans hk)
  have HLL := Lib.hid ((opE_yes _ vc vb).trans hl)
  have HX := Lib.hid hx
  have HY := Lib.hid hy
  have HD := Lib.hid ((opE_yes _ va vb).trans hd)
  have HSUB := Lib.hid (show se = 0 → opE sn sd bn bd (subR sn sd bn bd) = (an, ad, 0) from fun h => by
    subst h; rw [opE_yes _ (vB_iff.2 (make_ok hs).1) vb]; exact sub_add wa wb hs)
  have HDIV := Lib.hid (show me = 0 → bn ≠ 0 → opE mn md bn bd (divR mn md bn bd) = (an, ad, 0) from fun h h0 => by
    subst h; rw [opE_yes _ (vB_iff.2 (make_ok hm).1) vb]; exact div_mul wa h0 hm)
  have HDIS := Lib.hid (show se = 0 → ke = 0 → le = 0 → xe = 0 → ye = 0 → xn = yn ∧ xd = yd from fun h1 h2 h3 h4 h5 => by
    subst h1 h2 h3 h4 h5; exact mul_dist hs hk hl (opE_ok hx).2.2 (opE_ok hy).2.2)
  have HCMP := Lib.hid (show de = 0 → cmpE an ad bn bd = cmpE dn dd 0 1 from fun h => by
    subst h
    unfold cmpE
    rw [va, vb, vB_iff.2 (make_ok hd).1, show vB 0 1 = true by decide]
    exact cmp_sub wa wb hd)
  clear va vb vc hav hbv hcv wa wb hs hm hk hl hx hy hd
  have HI := Lib.hid (And.intro a1 (And.intro a2 (And.intro a3 (And.intro a4 (And.intro b1 (And.intro b2 (And.intro b3 (And.intro b4 (And.intro c1 (And.intro c2 (And.intro c3 (And.intro c4 (And.intro ba (And.intro bb (And.intro bc (And.intro bs (And.intro bm (And.intro bk (And.intro bl (And.intro bx (And.intro by' bd')))))))))))))))))))))
  clear a1 a2 a3 a4 b1 b2 b3 b4 c1 c2 c3 c4 ba bb bc bs bm bk bl bx by' bd'
  go_enter Tryz.func8, Tryz.ntmps8
  go_wp2_with fail
  obtain ⟨w1, hw⟩ : ∃ z9 : World, z9 = (((w.alloc (.cells #[.int .i64 an, .int .i64 ad] 23)).alloc (.cells #[.int .i64 bn, .int .i64 bd] 23)).alloc (.cells #[.int .i64 cn, .int .i64 cd] 23)) := ⟨_, rfl⟩
  have HB1 := Lib.hid (show Below w.heap.size w w1 by rw [hw]; exact below_a3 _ _ _ _)
  have F1t := Lib.hid (HT.out.belowW HB1.out)
  have F1ka := Lib.hid (show Blk w1 (w.heap.size) 23 #[.int .i64 an, .int .i64 ad] by rw [hw]; exact ((Blk.new _ _ _).alloc _).alloc _)
  have F1kb := Lib.hid (show Blk w1 (w.heap.size + 1) 23 #[.int .i64 bn, .int .i64 bd] by rw [hw]; exact (Blk.new1 _ _ _ _).alloc _)
  have F1kc := Lib.hid (show Blk w1 (w.heap.size + 1 + 1) 23 #[.int .i64 cn, .int .i64 cd] by rw [hw]; exact Blk.new2 _ _ _ _ _)
  rw [← hw]
  clear hw
  refine (awake_any w1 F1t.out).mono ?_
  rintro e w2 ⟨rfl, HB2⟩
  have F2t := Lib.hid (F1t.out.belowW HB2.out)
  have F2ka := Lib.hid (F1ka.out.belowW HB2.out)
  have F2kb := Lib.hid (F1kb.out.belowW HB2.out)
  have F2kc := Lib.hid (F1kc.out.belowW HB2.out)
  have HL2 := Lib.hid (HB1.out.trans (HB2.out.mono HB1.out.size))
  clear F1t F1ka F1kb F1kc HB1 HB2
  have pka0 : (w2).cell? ⟨w.heap.size, 0, none⟩ = some (.int .i64 an) := F2ka.out.cell 0
  have fka0 : (w2).frozen? ⟨w.heap.size, 0, none⟩ = false := F2ka.out.frozen 0
  have pka1 : (w2).cell? ⟨w.heap.size, 1, none⟩ = some (.int .i64 ad) := F2ka.out.cell 1
  have fka1 : (w2).frozen? ⟨w.heap.size, 1, none⟩ = false := F2ka.out.frozen 1
  have pkb0 : (w2).cell? ⟨w.heap.size + 1, 0, none⟩ = some (.int .i64 bn) := F2kb.out.cell 0
  have fkb0 : (w2).frozen? ⟨w.heap.size + 1, 0, none⟩ = false := F2kb.out.frozen 0
  have pkb1 : (w2).cell? ⟨w.heap.size + 1, 1, none⟩ = some (.int .i64 bd) := F2kb.out.cell 1
  have fkb1 : (w2).frozen? ⟨w.heap.size + 1, 1, none⟩ = false := F2kb.out.frozen 1
  have pkc0 : (w2).cell? ⟨w.heap.size + 1 + 1, 0, none⟩ = some (.int .i64 cn) := F2kc.out.cell 0
  have fkc0 : (w2).frozen? ⟨w.heap.size + 1 + 1, 0, none⟩ = false := F2kc.out.frozen 0
  have pkc1 : (w2).cell? ⟨w.heap.size + 1 + 1, 1, none⟩ = some (.int .i64 cd) := F2kc.out.cell 1
  have fkc1 : (w2).frozen? ⟨w.heap.size + 1 + 1, 1, none⟩ = false := F2kc.out.frozen 1
  go_wp2_with fail
  refine (valid_q an ad w2 (by have := HI.out; omega) (by have := HI.out; omega) (by have := HI.out; omega) (by have := HI.out; omega)).mono ?_
  rw [Va.out]
  rintro e w3 ⟨rfl, HB3⟩
  have F3t := Lib.hid (F2t.out.belowW HB3.out)
  have F3ka := Lib.hid (F2ka.out.belowW HB3.out)
  have F3kb := Lib.hid (F2kb.out.belowW HB3.out)
  have F3kc := Lib.hid (F2kc.out.belowW HB3.out)
  have HL3 := Lib.hid (HL2.out.trans (HB3.out.mono HL2.out.size))
  clear F2t F2ka F2kb F2kc HL2 HB3
  clear pka0 fka0 pka1 fka1 pkb0 fkb0 pkb1 fkb1 pkc0 fkc0 pkc1 fkc1
  have pka0 : (w3).cell? ⟨w.heap.size, 0, none⟩ = some (.int .i64 an) := F3ka.out.cell 0
  have fka0 : (w3).frozen? ⟨w.heap.size, 0, none⟩ = false := F3ka.out.frozen 0
  have pka1 : (w3).cell? ⟨w.heap.size, 1, none⟩ = some (.int .i64 ad) := F3ka.out.cell 1
  have fka1 : (w3).frozen? ⟨w.heap.size, 1, none⟩ = false := F3ka.out.frozen 1
  have pkb0 : (w3).cell? ⟨w.heap.size + 1, 0, none⟩ = some (.int .i64 bn) := F3kb.out.cell 0
  have fkb0 : (w3).frozen? ⟨w.heap.size + 1, 0, none⟩ = false := F3kb.out.frozen 0
  have pkb1 : (w3).cell? ⟨w.heap.size + 1, 1, none⟩ = some (.int .i64 bd) := F3kb.out.cell 1
  have fkb1 : (w3).frozen? ⟨w.heap.size + 1, 1, none⟩ = false := F3kb.out.frozen 1
  have pkc0 : (w3).cell? ⟨w.heap.size + 1 + 1, 0, none⟩ = some (.int .i64 cn) := F3kc.out.cell 0
  have fkc0 : (w3).frozen? ⟨w.heap.size + 1 + 1, 0, none⟩ = false := F3kc.out.frozen 0
  have pkc1 : (w3).cell? ⟨w.heap.size + 1 + 1, 1, none⟩ = some (.int .i64 cd) := F3kc.out.cell 1
  have fkc1 : (w3).frozen? ⟨w.heap.size + 1 + 1, 1, none⟩ = false := F3kc.out.frozen 1
  go_wp2_with fail
  refine (valid_q bn bd w3 (by have := HI.out; omega) (by have := HI.out; omega) (by have := HI.out; omega) (by have := HI.out; omega)).mono ?_
  rw [Vb.out]
  rintro e w4 ⟨rfl, HB4⟩
  have F4t := Lib.hid (F3t.out.belowW HB4.out)
  have F4ka := Lib.hid (F3ka.out.belowW HB4.out)
  have F4kb := Lib.hid (F3kb.out.belowW HB4.out)
  have F4kc := Lib.hid (F3kc.out.belowW HB4.out)
  have HL4 := Lib.hid (HL3.out.trans (HB4.out.mono HL3.out.size))
  clear F3t F3ka F3kb F3kc HL3 HB4
  clear pka0 fka0 pka1 fka1 pkb0 fkb0 pkb1 fkb1 pkc0 fkc0 pkc1 fkc1
  have pka0 : (w4).cell? ⟨w.heap.size, 0, none⟩ = some (.int .i64 an) := F4ka.out.cell 0
  have fka0 : (w4).frozen? ⟨w.heap.size, 0, none⟩ = false := F4ka.out.frozen 0
  have pka1 : (w4).cell? ⟨w.heap.size, 1, none⟩ = some (.int .i64 ad) := F4ka.out.cell 1
  have fka1 : (w4).frozen? ⟨w.heap.size, 1, none⟩ = false := F4ka.out.frozen 1
  have pkb0 : (w4).cell? ⟨w.heap.size + 1, 0, none⟩ = some (.int .i64 bn) := F4kb.out.cell 0
  have fkb0 : (w4).frozen? ⟨w.heap.size + 1, 0, none⟩ = false := F4kb.out.frozen 0
  have pkb1 : (w4).cell? ⟨w.heap.size + 1, 1, none⟩ = some (.int .i64 bd) := F4kb.out.cell 1
  have fkb1 : (w4).frozen? ⟨w.heap.size + 1, 1, none⟩ = false := F4kb.out.frozen 1
  have pkc0 : (w4).cell? ⟨w.heap.size + 1 + 1, 0, none⟩ = some (.int .i64 cn) := F4kc.out.cell 0
  have fkc0 : (w4).frozen? ⟨w.heap.size + 1 + 1, 0, none⟩ = false := F4kc.out.frozen 0
  have pkc1 : (w4).cell? ⟨w.heap.size + 1 + 1, 1, none⟩ = some (.int .i64 cd) := F4kc.out.cell 1
  have fkc1 : (w4).frozen? ⟨w.heap.size + 1 + 1, 1, none⟩ = false := F4kc.out.frozen 1
  go_wp2_with fail
  refine (valid_q cn cd w4 (by have := HI.out; omega) (by have := HI.out; omega) (by have := HI.out; omega) (by have := HI.out; omega)).mono ?_
  rw [Vc.out]
  rintro e w5 ⟨rfl, HB5⟩
  have F5t := Lib.hid (F4t.out.belowW HB5.out)
  have F5ka := Lib.hid (F4ka.out.belowW HB5.out)
  have F5kb := Lib.hid (F4kb.out.belowW HB5.out)
  have F5kc := Lib.hid (F4kc.out.belowW HB5.out)
  have HL5 := Lib.hid (HL4.out.trans (HB5.out.mono HL4.out.size))
  clear F4t F4ka F4kb F4kc HL4 HB5
  clear pka0 fka0 pka1 fka1 pkb0 fkb0 pkb1 fkb1 pkc0 fkc0 pkc1 fkc1
  have pka0 : (w5).cell? ⟨w.heap.size, 0, none⟩ = some (.int .i64 an) := F5ka.out.cell 0
  have fka0 : (w5).frozen? ⟨w.heap.size, 0, none⟩ = false := F5ka.out.frozen 0
  have pka1 : (w5).cell? ⟨w.heap.size, 1, none⟩ = some (.int .i64 ad) := F5ka.out.cell 1
  have fka1 : (w5).frozen? ⟨w.heap.size, 1, none⟩ = false := F5ka.out.frozen 1
  have pkb0 : (w5).cell? ⟨w.heap.size + 1, 0, none⟩ = some (.int .i64 bn) := F5kb.out.cell 0
  have fkb0 : (w5).frozen? ⟨w.heap.size + 1, 0, none⟩ = false := F5kb.out.frozen 0
  have pkb1 : (w5).cell? ⟨w.heap.size + 1, 1, none⟩ = some (.int .i64 bd) := F5kb.out.cell 1
  have fkb1 : (w5).frozen? ⟨w.heap.size + 1, 1, none⟩ = false := F5kb.out.frozen 1
  have pkc0 : (w5).cell? ⟨w.heap.size + 1 + 1, 0, none⟩ = some (.int .i64 cn) := F5kc.out.cell 0
  have fkc0 : (w5).frozen? ⟨w.heap.size + 1 + 1, 0, none⟩ = false := F5kc.out.frozen 0
  have pkc1 : (w5).cell? ⟨w.heap.size + 1 + 1, 1, none⟩ = some (.int .i64 cd) := F5kc.out.cell 1
  have fkc1 : (w5).frozen? ⟨w.heap.size + 1 + 1, 1, none⟩ = false := F5kc.out.frozen 1
  go_wp2_with fail
  refine (qAdd an ad bn bd w5 (by have := HI.out; omega) (by have := HI.out; omega) (by have := HI.out; omega) (by have := HI.out; omega) (by have := HI.out; omega) (by have := HI.out; omega) (by have := HI.out; omega) (by have := HI.out; omega)).mono ?_
  rw [HS.out]
  rintro e w6 ⟨rfl, HB6⟩
  have F6t := Lib.hid (F5t.out.belowW HB6.out)
  have F6ka := Lib.hid (F5ka.out.belowW HB6.out)
  have F6kb := Lib.hid (F5kb.out.belowW HB6.out)
  have F6kc := Lib.hid (F5kc.out.belowW HB6.out)
  have HL6 := Lib.hid (HL5.out.trans (HB6.out.mono HL5.out.size))
  clear F5t F5ka F5kb F5kc HL5 HB6
  go_upto_region 6 with (fail)
  obtain ⟨w7, hw⟩ : ∃ z9 : World, z9 = w6.alloc (.cells #[.int .i64 sn, .int .i64 sd] 23) := ⟨_, rfl⟩
  have HB7 := Lib.hid (show Below w6.heap.size w6 w7 by rw [hw]; exact below_a1 _ _)
  have F7ab := Lib.hid (show Blk w7 w6.heap.size 23 #[.int .i64 sn, .int .i64 sd] by rw [hw]; exact Blk.new _ _ _)
  rw [← hw]
  clear hw
  have F7t := Lib.hid (F6t.out.belowW HB7.out)
  have F7ka := Lib.hid (F6ka.out.belowW HB7.out)
  have F7kb := Lib.hid (F6kb.out.belowW HB7.out)
  have F7kc := Lib.hid (F6kc.out.belowW HB7.out)
  have HL7 := Lib.hid (HL6.out.trans (HB7.out.mono HL6.out.size))
  clear F6t F6ka F6kb F6kc HL6 HB7
  clear pka0 fka0 pka1 fka1 pkb0 fkb0 pkb1 fkb1 pkc0 fkc0 pkc1 fkc1
  have pka0 : (w7).cell? ⟨w.heap.size, 0, none⟩ = some (.int .i64 an) := F7ka.out.cell 0
  have fka0 : (w7).frozen? ⟨w.heap.size, 0, none⟩ = false := F7ka.out.frozen 0
  have pka1 : (w7).cell? ⟨w.heap.size, 1, none⟩ = some (.int .i64 ad) := F7ka.out.cell 1
  have fka1 : (w7).frozen? ⟨w.heap.size, 1, none⟩ = false := F7ka.out.frozen 1
  have pkb0 : (w7).cell? ⟨w.heap.size + 1, 0, none⟩ = some (.int .i64 bn) := F7kb.out.cell 0
  have fkb0 : (w7).frozen? ⟨w.heap.size + 1, 0, none⟩ = false := F7kb.out.frozen 0
  have pkb1 : (w7).cell? ⟨w.heap.size + 1, 1, none⟩ = some (.int .i64 bd) := F7kb.out.cell 1
  have fkb1 : (w7).frozen? ⟨w.heap.size + 1, 1, none⟩ = false := F7kb.out.frozen 1
  have pkc0 : (w7).cell? ⟨w.heap.size + 1 + 1, 0, none⟩ = some (.int .i64 cn) := F7kc.out.cell 0
  have fkc0 : (w7).frozen? ⟨w.heap.size + 1 + 1, 0, none⟩ = false := F7kc.out.frozen 0
  have pkc1 : (w7).cell? ⟨w.heap.size + 1 + 1, 1, none⟩ = some (.int .i64 cd) := F7kc.out.cell 1
  have fkc1 : (w7).frozen? ⟨w.heap.size + 1 + 1, 1, none⟩ = false := F7kc.out.frozen 1
  go_wp2_with fail
  refine (qAdd bn bd an ad w7 (by have := HI.out; omega) (by have := HI.out; omega) (by have := HI.out; omega) (by have := HI.out; omega) (by have := HI.out; omega) (by have := HI.out; omega) (by have := HI.out; omega) (by have := HI.out; omega)).mono ?_
  rw [HS2.out]
  rintro e w8 ⟨rfl, HB8⟩
  have F8t := Lib.hid (F7t.out.belowW HB8.out)
  have F8ka := Lib.hid (F7ka.out.belowW HB8.out)
  have F8kb := Lib.hid (F7kb.out.belowW HB8.out)
  have F8kc := Lib.hid (F7kc.out.belowW HB8.out)
  have F8ab := Lib.hid (F7ab.out.belowW HB8.out)
  have HL8 := Lib.hid (HL7.out.trans (HB8.out.mono HL7.out.size))
  clear F7t F7ka F7kb F7kc F7ab HL7 HB8
  go_upto_region 7 with (fail)
  obtain ⟨w9, hw⟩ : ∃ z9 : World, z9 = w8.alloc (.cells #[.int .i64 sn, .int .i64 sd] 23) := ⟨_, rfl⟩
  have HB9 := Lib.hid (show Below w8.heap.size w8 w9 by rw [hw]; exact below_a1 _ _)
  have F9ba := Lib.hid (show Blk w9 w8.heap.size 23 #[.int .i64 sn, .int .i64 sd] by rw [hw]; exact Blk.new _ _ _)
  rw [← hw]
  clear hw
  have F9t := Lib.hid (F8t.out.belowW HB9.out)
  have F9ka := Lib.hid (F8ka.out.belowW HB9.out)
  have F9kb := Lib.hid (F8kb.out.belowW HB9.out)
  have F9kc := Lib.hid (F8kc.out.belowW HB9.out)
  have F9ab := Lib.hid (F8ab.out.belowW HB9.out)
  have HL9 := Lib.hid (HL8.out.trans (HB9.out.mono HL8.out.size))
  clear F8t F8ka F8kb F8kc F8ab HL8 HB9
  clear pka0 fka0 pka1 fka1 pkb0 fkb0 pkb1 fkb1 pkc0 fkc0 pkc1 fkc1
  have pka0 : (w9).cell? ⟨w.heap.size, 0, none⟩ = some (.int .i64 an) := F9ka.out.cell 0
  have fka0 : (w9).frozen? ⟨w.heap.size, 0, none⟩ = false := F9ka.out.frozen 0
  have pka1 : (w9).cell? ⟨w.heap.size, 1, none⟩ = some (.int .i64 ad) := F9ka.out.cell 1
  have fka1 : (w9).frozen? ⟨w.heap.size, 1, none⟩ = false := F9ka.out.frozen 1
  have pkb0 : (w9).cell? ⟨w.heap.size + 1, 0, none⟩ = some (.int .i64 bn) := F9kb.out.cell 0
  have fkb0 : (w9).frozen? ⟨w.heap.size + 1, 0, none⟩ = false := F9kb.out.frozen 0
  have pkb1 : (w9).cell? ⟨w.heap.size + 1, 1, none⟩ = some (.int .i64 bd) := F9kb.out.cell 1
  have fkb1 : (w9).frozen? ⟨w.heap.size + 1, 1, none⟩ = false := F9kb.out.frozen 1
  have pkc0 : (w9).cell? ⟨w.heap.size + 1 + 1, 0, none⟩ = some (.int .i64 cn) := F9kc.out.cell 0
  have fkc0 : (w9).frozen? ⟨w.heap.size + 1 + 1, 0, none⟩ = false := F9kc.out.frozen 0
  have pkc1 : (w9).cell? ⟨w.heap.size + 1 + 1, 1, none⟩ = some (.int .i64 cd) := F9kc.out.cell 1
  have fkc1 : (w9).frozen? ⟨w.heap.size + 1 + 1, 1, none⟩ = false := F9kc.out.frozen 1
  go_wp2_with fail
  refine (qMul an ad bn bd w9 (by have := HI.out; omega) (by have := HI.out; omega) (by have := HI.out; omega) (by have := HI.out; omega) (by have := HI.out; omega) (by have := HI.out; omega) (by have := HI.out; omega) (by have := HI.out; omega)).mono ?_
  rw [HM.out]
  rintro e w10 ⟨rfl, HB10⟩
  have F10t := Lib.hid (F9t.out.belowW HB10.out)
  have F10ka := Lib.hid (F9ka.out.belowW HB10.out)
  have F10kb := Lib.hid (F9kb.out.belowW HB10.out)
  have F10kc := Lib.hid (F9kc.out.belowW HB10.out)
  have F10ab := Lib.hid (F9ab.out.belowW HB10.out)
  have F10ba := Lib.hid (F9ba.out.belowW HB10.out)
  have HL10 := Lib.hid (HL9.out.trans (HB10.out.mono HL9.out.size))
  clear F9t F9ka F9kb F9kc F9ab F9ba HL9 HB10
  go_upto_region 8 with (fail)
  obtain ⟨w11, hw⟩ : ∃ z9 : World, z9 = w10.alloc (.cells #[.int .i64 mn, .int .i64 md] 23) := ⟨_, rfl⟩
  have HB11 := Lib.hid (show Below w10.heap.size w10 w11 by rw [hw]; exact below_a1 _ _)
  have F11m := Lib.hid (show Blk w11 w10.heap.size 23 #[.int .i64 mn, .int .i64 md] by rw [hw]; exact Blk.new _ _ _)
  rw [← hw]
  clear hw
  have F11t := Lib.hid (F10t.out.belowW HB11.out)
  have F11ka := Lib.hid (F10ka.out.belowW HB11.out)
  have F11kb := Lib.hid (F10kb.out.belowW HB11.out)
  have F11kc := Lib.hid (F10kc.out.belowW HB11.out)
  have F11ab := Lib.hid (F10ab.out.belowW HB11.out)
  have F11ba := Lib.hid (F10ba.out.belowW HB11.out)
  have HL11 := Lib.hid (HL10.out.trans (HB11.out.mono HL10.out.size))
  clear F10t F10ka F10kb F10kc F10ab F10ba HL10 HB11
  clear pka0 fka0 pka1 fka1 pkb0 fkb0 pkb1 fkb1 pkc0 fkc0 pkc1 fkc1
  have pka0 : (w11).cell? ⟨w.heap.size, 0, none⟩ = some (.int .i64 an) := F11ka.out.cell 0
  have fka0 : (w11).frozen? ⟨w.heap.size, 0, none⟩ = false := F11ka.out.frozen 0
  have pka1 : (w11).cell? ⟨w.heap.size, 1, none⟩ = some (.int .i64 ad) := F11ka.out.cell 1
  have fka1 : (w11).frozen? ⟨w.heap.size, 1, none⟩ = false := F11ka.out.frozen 1
  have pkb0 : (w11).cell? ⟨w.heap.size + 1, 0, none⟩ = some (.int .i64 bn) := F11kb.out.cell 0
  have fkb0 : (w11).frozen? ⟨w.heap.size + 1, 0, none⟩ = false := F11kb.out.frozen 0
  have pkb1 : (w11).cell? ⟨w.heap.size + 1, 1, none⟩ = some (.int .i64 bd) := F11kb.out.cell 1
  have fkb1 : (w11).frozen? ⟨w.heap.size + 1, 1, none⟩ = false := F11kb.out.frozen 1
  have pkc0 : (w11).cell? ⟨w.heap.size + 1 + 1, 0, none⟩ = some (.int .i64 cn) := F11kc.out.cell 0
  have fkc0 : (w11).frozen? ⟨w.heap.size + 1 + 1, 0, none⟩ = false := F11kc.out.frozen 0
  have pkc1 : (w11).cell? ⟨w.heap.size + 1 + 1, 1, none⟩ = some (.int .i64 cd) := F11kc.out.cell 1
  have fkc1 : (w11).frozen? ⟨w.heap.size + 1 + 1, 1, none⟩ = false := F11kc.out.frozen 1
  go_wp2_with fail
  refine (qMul bn bd an ad w11 (by have := HI.out; omega) (by have := HI.out; omega) (by have := HI.out; omega) (by have := HI.out; omega) (by have := HI.out; omega) (by have := HI.out; omega) (by have := HI.out; omega) (by have := HI.out; omega)).mono ?_
  rw [HM2.out]
  rintro e w12 ⟨rfl, HB12⟩
  have F12t := Lib.hid (F11t.out.belowW HB12.out)
  have F12ka := Lib.hid (F11ka.out.belowW HB12.out)
  have F12kb := Lib.hid (F11kb.out.belowW HB12.out)
  have F12kc := Lib.hid (F11kc.out.belowW HB12.out)
  have F12ab := Lib.hid (F11ab.out.belowW HB12.out)
  have F12ba := Lib.hid (F11ba.out.belowW HB12.out)
  have F12m := Lib.hid (F11m.out.belowW HB12.out)
  have HL12 := Lib.hid (HL11.out.trans (HB12.out.mono HL11.out.size))
  clear F11t F11ka F11kb F11kc F11ab F11ba F11m HL11 HB12
  go_upto_region 9 with (fail)
  obtain ⟨w13, hw⟩ : ∃ z9 : World, z9 = w12.alloc (.cells #[.int .i64 mn, .int .i64 md] 23) := ⟨_, rfl⟩
  have HB13 := Lib.hid (show Below w12.heap.size w12 w13 by rw [hw]; exact below_a1 _ _)
  have F13n := Lib.hid (show Blk w13 w12.heap.size 23 #[.int .i64 mn, .int .i64 md] by rw [hw]; exact Blk.new _ _ _)
  rw [← hw]
  clear hw
  have F13t := Lib.hid (F12t.out.belowW HB13.out)
  have F13ka := Lib.hid (F12ka.out.belowW HB13.out)
  have F13kb := Lib.hid (F12kb.out.belowW HB13.out)
  have F13kc := Lib.hid (F12kc.out.belowW HB13.out)
  have F13ab := Lib.hid (F12ab.out.belowW HB13.out)
  have F13ba := Lib.hid (F12ba.out.belowW HB13.out)
  have F13m := Lib.hid (F12m.out.belowW HB13.out)
  have HL13 := Lib.hid (HL12.out.trans (HB13.out.mono HL12.out.size))
  clear F12t F12ka F12kb F12kc F12ab F12ba F12m HL12 HB13
  clear pka0 fka0 pka1 fka1 pkb0 fkb0 pkb1 fkb1 pkc0 fkc0 pkc1 fkc1
  have pka0 : (w13).cell? ⟨w.heap.size, 0, none⟩ = some (.int .i64 an) := F13ka.out.cell 0
  have fka0 : (w13).frozen? ⟨w.heap.size, 0, none⟩ = false := F13ka.out.frozen 0
  have pka1 : (w13).cell? ⟨w.heap.size, 1, none⟩ = some (.int .i64 ad) := F13ka.out.cell 1
  have fka1 : (w13).frozen? ⟨w.heap.size, 1, none⟩ = false := F13ka.out.frozen 1
  have pkb0 : (w13).cell? ⟨w.heap.size + 1, 0, none⟩ = some (.int .i64 bn) := F13kb.out.cell 0
  have fkb0 : (w13).frozen? ⟨w.heap.size + 1, 0, none⟩ = false := F13kb.out.frozen 0
  have pkb1 : (w13).cell? ⟨w.heap.size + 1, 1, none⟩ = some (.int .i64 bd) := F13kb.out.cell 1
  have fkb1 : (w13).frozen? ⟨w.heap.size + 1, 1, none⟩ = false := F13kb.out.frozen 1
  have pkc0 : (w13).cell? ⟨w.heap.size + 1 + 1, 0, none⟩ = some (.int .i64 cn) := F13kc.out.cell 0
  have fkc0 : (w13).frozen? ⟨w.heap.size + 1 + 1, 0, none⟩ = false := F13kc.out.frozen 0
  have pkc1 : (w13).cell? ⟨w.heap.size + 1 + 1, 1, none⟩ = some (.int .i64 cd) := F13kc.out.cell 1
  have fkc1 : (w13).frozen? ⟨w.heap.size + 1 + 1, 1, none⟩ = false := F13kc.out.frozen 1
  have pab0 : (w13).cell? ⟨w6.heap.size, 0, none⟩ = some (.int .i64 sn) := F13ab.out.cell 0
  have fab0 : (w13).frozen? ⟨w6.heap.size, 0, none⟩ = false := F13ab.out.frozen 0
  have pab1 : (w13).cell? ⟨w6.heap.size, 1, none⟩ = some (.int .i64 sd) := F13ab.out.cell 1
  have fab1 : (w13).frozen? ⟨w6.heap.size, 1, none⟩ = false := F13ab.out.frozen 1
  have pba0 : (w13).cell? ⟨w8.heap.size, 0, none⟩ = some (.int .i64 sn) := F13ba.out.cell 0
  have fba0 : (w13).frozen? ⟨w8.heap.size, 0, none⟩ = false := F13ba.out.frozen 0
  have pba1 : (w13).cell? ⟨w8.heap.size, 1, none⟩ = some (.int .i64 sd) := F13ba.out.cell 1
  have fba1 : (w13).frozen? ⟨w8.heap.size, 1, none⟩ = false := F13ba.out.frozen 1
  have pm0 : (w13).cell? ⟨w10.heap.size, 0, none⟩ = some (.int .i64 mn) := F13m.out.cell 0
  have fm0 : (w13).frozen? ⟨w10.heap.size, 0, none⟩ = false := F13m.out.frozen 0
  have pm1 : (w13).cell? ⟨w10.heap.size, 1, none⟩ = some (.int .i64 md) := F13m.out.cell 1
  have fm1 : (w13).frozen? ⟨w10.heap.size, 1, none⟩ = false := F13m.out.frozen 1
  have pn0 : (w13).cell? ⟨w12.heap.size, 0, none⟩ = some (.int .i64 mn) := F13n.out.cell 0
  have fn0 : (w13).frozen? ⟨w12.heap.size, 0, none⟩ = false := F13n.out.frozen 0
  have pn1 : (w13).cell? ⟨w12.heap.size, 1, none⟩ = some (.int .i64 md) := F13n.out.cell 1
  have fn1 : (w13).frozen? ⟨w12.heap.size, 1, none⟩ = false := F13n.out.frozen 1
  go_upto_if 87 with (fail)
  clear pba0 fba0 pba1 fba1 pn0 fn0 pn1 fn1
  go_cut [] (fun wx => Hid (Below w13.heap.size w13 wx))
  case first =>
    by_cases h0 : se = 0
    · have e0 : (se == 0) = true := by simp [h0]
      have HZ := Lib.hid (HSUB.out h0)
      clear h0
      go_wp2_with fail
      refine (qSub sn sd bn bd w13 (by have := HI.out; omega) (by have := HI.out; omega) (by have := HI.out; omega) (by have := HI.out; omega) (by have := HI.out; omega) (by have := HI.out; omega) (by have := HI.out; omega) (by have := HI.out; omega)).mono ?_
      rw [HZ.out]
      rintro e w14 ⟨rfl, HB14⟩
      have F14t := Lib.hid (F13t.out.belowW HB14.out)
      have F14ka := Lib.hid (F13ka.out.belowW HB14.out)
      have F14kb := Lib.hid (F13kb.out.belowW HB14.out)
      have F14kc := Lib.hid (F13kc.out.belowW HB14.out)
      have F14ab := Lib.hid (F13ab.out.belowW HB14.out)
      have F14ba := Lib.hid (F13ba.out.belowW HB14.out)
      have F14m := Lib.hid (F13m.out.belowW HB14.out)
      have F14n := Lib.hid (F13n.out.belowW HB14.out)
      clear F13t F13ka F13kb F13kc F13ab F13ba F13m F13n
      clear pka0 pka1 fka0 fka1
      have pka0 : (w14).cell? ⟨w.heap.size, 0, none⟩ = some (.int .i64 an) := F14ka.out.cell 0
      have fka0 : (w14).frozen? ⟨w.heap.size, 0, none⟩ = false := F14ka.out.frozen 0
      have pka1 : (w14).cell? ⟨w.heap.size, 1, none⟩ = some (.int .i64 ad) := F14ka.out.cell 1
      have fka1 : (w14).frozen? ⟨w.heap.size, 1, none⟩ = false := F14ka.out.frozen 1
      go_upto_region 13 with (fail)
      obtain ⟨w15, hw⟩ : ∃ z9 : World, z9 = w14.alloc (.cells #[.int .i64 an, .int .i64 ad] 23) := ⟨_, rfl⟩
      have HB15 := Lib.hid (show Below w14.heap.size w14 w15 by rw [hw]; exact below_a1 _ _)
      have F15x := Lib.hid (show Blk w15 w14.heap.size 23 #[.int .i64 an, .int .i64 ad] by rw [hw]; exact Blk.new _ _ _)
      rw [← hw]
      clear hw
      have F15t := Lib.hid (F14t.out.belowW HB15.out)
      have F15ka := Lib.hid (F14ka.out.belowW HB15.out)
      have F15kb := Lib.hid (F14kb.out.belowW HB15.out)
      have F15kc := Lib.hid (F14kc.out.belowW HB15.out)
      have F15ab := Lib.hid (F14ab.out.belowW HB15.out)
      have F15ba := Lib.hid (F14ba.out.belowW HB15.out)
      have F15m := Lib.hid (F14m.out.belowW HB15.out)
      have F15n := Lib.hid (F14n.out.belowW HB15.out)
      have HL15 := Lib.hid (HB14.out.trans (HB15.out.mono HB14.out.size))
      clear F14t F14ka F14kb F14kc F14ab F14ba F14m F14n HB14 HB15
      clear pka0 pka1 fka0 fka1
      have pka0 : (w15).cell? ⟨w.heap.size, 0, none⟩ = some (.int .i64 an) := F15ka.out.cell 0
      have fka0 : (w15).frozen? ⟨w.heap.size, 0, none⟩ = false := F15ka.out.frozen 0
      have pka1 : (w15).cell? ⟨w.heap.size, 1, none⟩ = some (.int .i64 ad) := F15ka.out.cell 1
      have fka1 : (w15).frozen? ⟨w.heap.size, 1, none⟩ = false := F15ka.out.frozen 1
      have px0 : (w15).cell? ⟨w14.heap.size, 0, none⟩ = some (.int .i64 an) := F15x.out.cell 0
      have fx0 : (w15).frozen? ⟨w14.heap.size, 0, none⟩ = false := F15x.out.frozen 0
      have px1 : (w15).cell? ⟨w14.heap.size, 1, none⟩ = some (.int .i64 ad) := F15x.out.cell 1
      have fx1 : (w15).frozen? ⟨w14.heap.size, 1, none⟩ = false := F15x.out.frozen 1
      go_wp2_with fail
      go_meet
      exact HL15
    · have e0 : (se == 0) = false := by simp [h0]
      clear h0
      go_wp2_with fail
      go_meet
      exact Lib.hid (Below.refl _ _)
  case rest =>
    obtain ⟨w33, hw⟩ : ∃ z9 : World, z9 = wc := ⟨_, rfl⟩
    rw [← hw] at hcut ⊢
    clear hw
    have HQ33 := hcut
    clear hcut
    have F33t := Lib.hid (F13t.out.belowW HQ33.out)
    have F33ka := Lib.hid (F13ka.out.belowW HQ33.out)
    have F33kb := Lib.hid (F13kb.out.belowW HQ33.out)
    have F33kc := Lib.hid (F13kc.out.belowW HQ33.out)
    have F33ab := Lib.hid (F13ab.out.belowW HQ33.out)
    have F33m := Lib.hid (F13m.out.belowW HQ33.out)
    have HL33 := Lib.hid (HL13.out.trans (HQ33.out.mono HL13.out.size))
    clear F13t F13ka F13kb F13kc F13ab F13m HL13 HQ33
    clear pka0 fka0 pka1 fka1 pkb0 fkb0 pkb1 fkb1 pkc0 fkc0 pkc1 fkc1
    clear pab0 fab0 pab1 fab1 pm0 fm0 pm1 fm1
    have pka0 : (w33).cell? ⟨w.heap.size, 0, none⟩ = some (.int .i64 an) := F33ka.out.cell 0
    have fka0 : (w33).frozen? ⟨w.heap.size, 0, none⟩ = false := F33ka.out.frozen 0
    have pka1 : (w33).cell? ⟨w.heap.size, 1, none⟩ = some (.int .i64 ad) := F33ka.out.cell 1
    have fka1 : (w33).frozen? ⟨w.heap.size, 1, none⟩ = false := F33ka.out.frozen 1
    have pkb0 : (w33).cell? ⟨w.heap.size + 1, 0, none⟩ = some (.int .i64 bn) := F33kb.out.cell 0
    have fkb0 : (w33).frozen? ⟨w.heap.size + 1, 0, none⟩ = false := F33kb.out.frozen 0
    have pkb1 : (w33).cell? ⟨w.heap.size + 1, 1, none⟩ = some (.int .i64 bd) := F33kb.out.cell 1
    have fkb1 : (w33).frozen? ⟨w.heap.size + 1, 1, none⟩ = false := F33kb.out.frozen 1
    have pkc0 : (w33).cell? ⟨w.heap.size + 1 + 1, 0, none⟩ = some (.int .i64 cn) := F33kc.out.cell 0
    have fkc0 : (w33).frozen? ⟨w.heap.size + 1 + 1, 0, none⟩ = false := F33kc.out.frozen 0
    have pkc1 : (w33).cell? ⟨w.heap.size + 1 + 1, 1, none⟩ = some (.int .i64 cd) := F33kc.out.cell 1
    have fkc1 : (w33).frozen? ⟨w.heap.size + 1 + 1, 1, none⟩ = false := F33kc.out.frozen 1
    have pm0 : (w33).cell? ⟨w10.heap.size, 0, none⟩ = some (.int .i64 mn) := F33m.out.cell 0
    have fm0 : (w33).frozen? ⟨w10.heap.size, 0, none⟩ = false := F33m.out.frozen 0
    have pm1 : (w33).cell? ⟨w10.heap.size, 1, none⟩ = some (.int .i64 md) := F33m.out.cell 1
    have fm1 : (w33).frozen? ⟨w10.heap.size, 1, none⟩ = false := F33m.out.frozen 1
    have pab0 : (w33).cell? ⟨w6.heap.size, 0, none⟩ = some (.int .i64 sn) := F33ab.out.cell 0
    have fab0 : (w33).frozen? ⟨w6.heap.size, 0, none⟩ = false := F33ab.out.frozen 0
    have pab1 : (w33).cell? ⟨w6.heap.size, 1, none⟩ = some (.int .i64 sd) := F33ab.out.cell 1
    have fab1 : (w33).frozen? ⟨w6.heap.size, 1, none⟩ = false := F33ab.out.frozen 1
    go_upto_region 15 with (fail)
    go_cut [107] (fun s wx => s = .bool (decide (me = 0 ∧ bn ≠ 0)) ∧ wx = w33)
    case first =>
      by_cases h0 : me = 0
      · have e0 : (me == 0) = true := by simp [h0]
        by_cases h1 : bn = 0
        · have e1 : (bn != 0) = false := by simp [h1]
          go_wp2_with fail
          go_meet
          exact ⟨by simp [h1], rfl⟩
        · have e1 : (bn != 0) = true := by simp [h1]
          go_wp2_with fail
          go_meet
          exact ⟨by simp [h0, h1], rfl⟩
      · have e0 : (me == 0) = false := by simp [h0]
        go_wp2_with fail
        go_meet
        exact ⟨by simp [h0], rfl⟩
    case rest =>
      obtain ⟨rfl, hwc⟩ := hcut
      rw [hwc]
      clear hwc
      obtain ⟨bq, hbq⟩ : ∃ z : Bool, z = decide (me = 0 ∧ bn ≠ 0) := ⟨_, rfl⟩
      rw [← hbq]
      have Hbq := Lib.hid hbq
      clear hbq
      go_upto_if 107 with (fail)
      go_cut [] (fun wx => Hid (Below w33.heap.size w33 wx))
      case first =>
        cases bq with
        | true =>
          have hq := of_decide_eq_true Hbq.out.symm
          have HZ := Lib.hid (HDIV.out hq.1 hq.2)
          clear hq
          go_wp2_with fail
          refine (qDiv mn md bn bd w33 (by have := HI.out; omega) (by have := HI.out; omega) (by have := HI.out; omega) (by have := HI.out; omega) (by have := HI.out; omega) (by have := HI.out; omega) (by have := HI.out; omega) (by have := HI.out; omega)).mono ?_
          rw [HZ.out]
          rintro e w34 ⟨rfl, HB34⟩
          have F34t := Lib.hid (F33t.out.belowW HB34.out)
          have F34ka := Lib.hid (F33ka.out.belowW HB34.out)
          have F34kb := Lib.hid (F33kb.out.belowW HB34.out)
          have F34kc := Lib.hid (F33kc.out.belowW HB34.out)
          have F34ab := Lib.hid (F33ab.out.belowW HB34.out)
          have F34m := Lib.hid (F33m.out.belowW HB34.out)
          clear F33t F33ka F33kb F33kc F33ab F33m
          clear pka0 pka1 fka0 fka1
          have pka0 : (w34).cell? ⟨w.heap.size, 0, none⟩ = some (.int .i64 an) := F34ka.out.cell 0
          have fka0 : (w34).frozen? ⟨w.heap.size, 0, none⟩ = false := F34ka.out.frozen 0
          have pka1 : (w34).cell? ⟨w.heap.size, 1, none⟩ = some (.int .i64 ad) := F34ka.out.cell 1
          have fka1 : (w34).frozen? ⟨w.heap.size, 1, none⟩ = false := F34ka.out.frozen 1
          go_upto_region 17 with (fail)
          obtain ⟨w35, hw⟩ : ∃ z9 : World, z9 = w34.alloc (.cells #[.int .i64 an, .int .i64 ad] 23) := ⟨_, rfl⟩
          have HB35 := Lib.hid (show Below w34.heap.size w34 w35 by rw [hw]; exact below_a1 _ _)
          have F35x := Lib.hid (show Blk w35 w34.heap.size 23 #[.int .i64 an, .int .i64 ad] by rw [hw]; exact Blk.new _ _ _)
          rw [← hw]
          clear hw
          have F35t := Lib.hid (F34t.out.belowW HB35.out)
          have F35ka := Lib.hid (F34ka.out.belowW HB35.out)
          have F35kb := Lib.hid (F34kb.out.belowW HB35.out)
          have F35kc := Lib.hid (F34kc.out.belowW HB35.out)
          have F35ab := Lib.hid (F34ab.out.belowW HB35.out)
          have F35m := Lib.hid (F34m.out.belowW HB35.out)
          have HL35 := Lib.hid (HB34.out.trans (HB35.out.mono HB34.out.size))
          clear F34t F34ka F34kb F34kc F34ab F34m HB34 HB35
          clear pka0 pka1 fka0 fka1
          have pka0 : (w35).cell? ⟨w.heap.size, 0, none⟩ = some (.int .i64 an) := F35ka.out.cell 0
          have fka0 : (w35).frozen? ⟨w.heap.size, 0, none⟩ = false := F35ka.out.frozen 0
          have pka1 : (w35).cell? ⟨w.heap.size, 1, none⟩ = some (.int .i64 ad) := F35ka.out.cell 1
          have fka1 : (w35).frozen? ⟨w.heap.size, 1, none⟩ = false := F35ka.out.frozen 1
          have px0 : (w35).cell? ⟨w34.heap.size, 0, none⟩ = some (.int .i64 an) := F35x.out.cell 0
          have fx0 : (w35).frozen? ⟨w34.heap.size, 0, none⟩ = false := F35x.out.frozen 0
          have px1 : (w35).cell? ⟨w34.heap.size, 1, none⟩ = some (.int .i64 ad) := F35x.out.cell 1
          have fx1 : (w35).frozen? ⟨w34.heap.size, 1, none⟩ = false := F35x.out.frozen 1
          go_wp2_with fail
          go_meet
          exact HL35
        | false =>
          go_wp2_with fail
          go_meet
          exact Lib.hid (Below.refl _ _)
      case rest =>
        obtain ⟨w53, hw⟩ : ∃ z9 : World, z9 = wc := ⟨_, rfl⟩
        rw [← hw] at hcut ⊢
        clear hw
        have HQ53 := hcut
        clear hcut
        have F53t := Lib.hid (F33t.out.belowW HQ53.out)
        have F53ka := Lib.hid (F33ka.out.belowW HQ53.out)
        have F53kb := Lib.hid (F33kb.out.belowW HQ53.out)
        have F53kc := Lib.hid (F33kc.out.belowW HQ53.out)
        have F53ab := Lib.hid (F33ab.out.belowW HQ53.out)
        have HL53 := Lib.hid (HL33.out.trans (HQ53.out.mono HL33.out.size))
        clear F33t F33ka F33kb F33kc F33ab HL33 HQ53
        clear pka0 fka0 pka1 fka1 pkb0 fkb0 pkb1 fkb1 pkc0 fkc0 pkc1 fkc1
        clear pab0 fab0 pab1 fab1 pm0 fm0 pm1 fm1
        have pka0 : (w53).cell? ⟨w.heap.size, 0, none⟩ = some (.int .i64 an) := F53ka.out.cell 0
        have fka0 : (w53).frozen? ⟨w.heap.size, 0, none⟩ = false := F53ka.out.frozen 0
        have pka1 : (w53).cell? ⟨w.heap.size, 1, none⟩ = some (.int .i64 ad) := F53ka.out.cell 1
        have fka1 : (w53).frozen? ⟨w.heap.size, 1, none⟩ = false := F53ka.out.frozen 1
        have pkb0 : (w53).cell? ⟨w.heap.size + 1, 0, none⟩ = some (.int .i64 bn) := F53kb.out.cell 0
        have fkb0 : (w53).frozen? ⟨w.heap.size + 1, 0, none⟩ = false := F53kb.out.frozen 0
        have pkb1 : (w53).cell? ⟨w.heap.size + 1, 1, none⟩ = some (.int .i64 bd) := F53kb.out.cell 1
        have fkb1 : (w53).frozen? ⟨w.heap.size + 1, 1, none⟩ = false := F53kb.out.frozen 1
        have pkc0 : (w53).cell? ⟨w.heap.size + 1 + 1, 0, none⟩ = some (.int .i64 cn) := F53kc.out.cell 0
        have fkc0 : (w53).frozen? ⟨w.heap.size + 1 + 1, 0, none⟩ = false := F53kc.out.frozen 0
        have pkc1 : (w53).cell? ⟨w.heap.size + 1 + 1, 1, none⟩ = some (.int .i64 cd) := F53kc.out.cell 1
        have fkc1 : (w53).frozen? ⟨w.heap.size + 1 + 1, 1, none⟩ = false := F53kc.out.frozen 1
        have pab0 : (w53).cell? ⟨w6.heap.size, 0, none⟩ = some (.int .i64 sn) := F53ab.out.cell 0
        have fab0 : (w53).frozen? ⟨w6.heap.size, 0, none⟩ = false := F53ab.out.frozen 0
        have pab1 : (w53).cell? ⟨w6.heap.size, 1, none⟩ = some (.int .i64 sd) := F53ab.out.cell 1
        have fab1 : (w53).frozen? ⟨w6.heap.size, 1, none⟩ = false := F53ab.out.frozen 1
        go_wp2_with fail
        refine (qMul cn cd an ad w53 (by have := HI.out; omega) (by have := HI.out; omega) (by have := HI.out; omega) (by have := HI.out; omega) (by have := HI.out; omega) (by have := HI.out; omega) (by have := HI.out; omega) (by have := HI.out; omega)).mono ?_
        rw [HK.out]
        rintro e w54 ⟨rfl, HB54⟩
        have F54t := Lib.hid (F53t.out.belowW HB54.out)
        have F54ka := Lib.hid (F53ka.out.belowW HB54.out)
        have F54kb := Lib.hid (F53kb.out.belowW HB54.out)
        have F54kc := Lib.hid (F53kc.out.belowW HB54.out)
        have F54ab := Lib.hid (F53ab.out.belowW HB54.out)
        have HL54 := Lib.hid (HL53.out.trans (HB54.out.mono HL53.out.size))
        clear F53t F53ka F53kb F53kc F53ab HL53 HB54
        go_upto_region 20 with (fail)
        obtain ⟨w55, hw⟩ : ∃ z9 : World, z9 = w54.alloc (.cells #[.int .i64 kn, .int .i64 kd] 23) := ⟨_, rfl⟩
        have HB55 := Lib.hid (show Below w54.heap.size w54 w55 by rw [hw]; exact below_a1 _ _)
        have F55k := Lib.hid (show Blk w55 w54.heap.size 23 #[.int .i64 kn, .int .i64 kd] by rw [hw]; exact Blk.new _ _ _)
        rw [← hw]
        clear hw
        have F55t := Lib.hid (F54t.out.belowW HB55.out)
        have F55ka := Lib.hid (F54ka.out.belowW HB55.out)
        have F55kb := Lib.hid (F54kb.out.belowW HB55.out)
        have F55kc := Lib.hid (F54kc.out.belowW HB55.out)
        have F55ab := Lib.hid (F54ab.out.belowW HB55.out)
        have HL55 := Lib.hid (HL54.out.trans (HB55.out.mono HL54.out.size))
        clear F54t F54ka F54kb F54kc F54ab HL54 HB55
        clear pka0 fka0 pka1 fka1 pkb0 fkb0 pkb1 fkb1 pkc0 fkc0 pkc1 fkc1
        have pka0 : (w55).cell? ⟨w.heap.size, 0, none⟩ = some (.int .i64 an) := F55ka.out.cell 0
        have fka0 : (w55).frozen? ⟨w.heap.size, 0, none⟩ = false := F55ka.out.frozen 0
        have pka1 : (w55).cell? ⟨w.heap.size, 1, none⟩ = some (.int .i64 ad) := F55ka.out.cell 1
        have fka1 : (w55).frozen? ⟨w.heap.size, 1, none⟩ = false := F55ka.out.frozen 1
        have pkb0 : (w55).cell? ⟨w.heap.size + 1, 0, none⟩ = some (.int .i64 bn) := F55kb.out.cell 0
        have fkb0 : (w55).frozen? ⟨w.heap.size + 1, 0, none⟩ = false := F55kb.out.frozen 0
        have pkb1 : (w55).cell? ⟨w.heap.size + 1, 1, none⟩ = some (.int .i64 bd) := F55kb.out.cell 1
        have fkb1 : (w55).frozen? ⟨w.heap.size + 1, 1, none⟩ = false := F55kb.out.frozen 1
        have pkc0 : (w55).cell? ⟨w.heap.size + 1 + 1, 0, none⟩ = some (.int .i64 cn) := F55kc.out.cell 0
        have fkc0 : (w55).frozen? ⟨w.heap.size + 1 + 1, 0, none⟩ = false := F55kc.out.frozen 0
        have pkc1 : (w55).cell? ⟨w.heap.size + 1 + 1, 1, none⟩ = some (.int .i64 cd) := F55kc.out.cell 1
        have fkc1 : (w55).frozen? ⟨w.heap.size + 1 + 1, 1, none⟩ = false := F55kc.out.frozen 1
        go_wp2_with fail
        refine (qMul cn cd bn bd w55 (by have := HI.out; omega) (by have := HI.out; omega) (by have := HI.out; omega) (by have := HI.out; omega) (by have := HI.out; omega) (by have := HI.out; omega) (by have := HI.out; omega) (by have := HI.out; omega)).mono ?_
        rw [HLL.out]
        rintro e w56 ⟨rfl, HB56⟩
        have F56t := Lib.hid (F55t.out.belowW HB56.out)
        have F56ka := Lib.hid (F55ka.out.belowW HB56.out)
        have F56kb := Lib.hid (F55kb.out.belowW HB56.out)
        have F56kc := Lib.hid (F55kc.out.belowW HB56.out)
        have F56ab := Lib.hid (F55ab.out.belowW HB56.out)
        have F56k := Lib.hid (F55k.out.belowW HB56.out)
        have HL56 := Lib.hid (HL55.out.trans (HB56.out.mono HL55.out.size))
        clear F55t F55ka F55kb F55kc F55ab F55k HL55 HB56
        go_upto_region 21 with (fail)
        obtain ⟨w57, hw⟩ : ∃ z9 : World, z9 = w56.alloc (.cells #[.int .i64 ln, .int .i64 ld] 23) := ⟨_, rfl⟩
        have HB57 := Lib.hid (show Below w56.heap.size w56 w57 by rw [hw]; exact below_a1 _ _)
        have F57l := Lib.hid (show Blk w57 w56.heap.size 23 #[.int .i64 ln, .int .i64 ld] by rw [hw]; exact Blk.new _ _ _)
        rw [← hw]
        clear hw
        have F57t := Lib.hid (F56t.out.belowW HB57.out)
        have F57ka := Lib.hid (F56ka.out.belowW HB57.out)
        have F57kb := Lib.hid (F56kb.out.belowW HB57.out)
        have F57kc := Lib.hid (F56kc.out.belowW HB57.out)
        have F57ab := Lib.hid (F56ab.out.belowW HB57.out)
        have F57k := Lib.hid (F56k.out.belowW HB57.out)
        have HL57 := Lib.hid (HL56.out.trans (HB57.out.mono HL56.out.size))
        clear F56t F56ka F56kb F56kc F56ab F56k HL56 HB57
        clear pka0 fka0 pka1 fka1 pkb0 fkb0 pkb1 fkb1 pkc0 fkc0 pkc1 fkc1
        have pka0 : (w57).cell? ⟨w.heap.size, 0, none⟩ = some (.int .i64 an) := F57ka.out.cell 0
        have fka0 : (w57).frozen? ⟨w.heap.size, 0, none⟩ = false := F57ka.out.frozen 0
        have pka1 : (w57).cell? ⟨w.heap.size, 1, none⟩ = some (.int .i64 ad) := F57ka.out.cell 1
        have fka1 : (w57).frozen? ⟨w.heap.size, 1, none⟩ = false := F57ka.out.frozen 1
        have pkb0 : (w57).cell? ⟨w.heap.size + 1, 0, none⟩ = some (.int .i64 bn) := F57kb.out.cell 0
        have fkb0 : (w57).frozen? ⟨w.heap.size + 1, 0, none⟩ = false := F57kb.out.frozen 0
        have pkb1 : (w57).cell? ⟨w.heap.size + 1, 1, none⟩ = some (.int .i64 bd) := F57kb.out.cell 1
        have fkb1 : (w57).frozen? ⟨w.heap.size + 1, 1, none⟩ = false := F57kb.out.frozen 1
        have pkc0 : (w57).cell? ⟨w.heap.size + 1 + 1, 0, none⟩ = some (.int .i64 cn) := F57kc.out.cell 0
        have fkc0 : (w57).frozen? ⟨w.heap.size + 1 + 1, 0, none⟩ = false := F57kc.out.frozen 0
        have pkc1 : (w57).cell? ⟨w.heap.size + 1 + 1, 1, none⟩ = some (.int .i64 cd) := F57kc.out.cell 1
        have fkc1 : (w57).frozen? ⟨w.heap.size + 1 + 1, 1, none⟩ = false := F57kc.out.frozen 1
        clear pab0 fab0 pab1 fab1
        have pab0 : (w57).cell? ⟨w6.heap.size, 0, none⟩ = some (.int .i64 sn) := F57ab.out.cell 0
        have fab0 : (w57).frozen? ⟨w6.heap.size, 0, none⟩ = false := F57ab.out.frozen 0
        have pab1 : (w57).cell? ⟨w6.heap.size, 1, none⟩ = some (.int .i64 sd) := F57ab.out.cell 1
        have fab1 : (w57).frozen? ⟨w6.heap.size, 1, none⟩ = false := F57ab.out.frozen 1
        go_wp2_with fail
        refine (qMul cn cd sn sd w57 (by have := HI.out; omega) (by have := HI.out; omega) (by have := HI.out; omega) (by have := HI.out; omega) (by have := HI.out; omega) (by have := HI.out; omega) (by have := HI.out; omega) (by have := HI.out; omega)).mono ?_
        rw [HX.out]
        rintro e w58 ⟨rfl, HB58⟩
        have F58t := Lib.hid (F57t.out.belowW HB58.out)
        have F58ka := Lib.hid (F57ka.out.belowW HB58.out)
        have F58kb := Lib.hid (F57kb.out.belowW HB58.out)
        have F58kc := Lib.hid (F57kc.out.belowW HB58.out)
        have F58ab := Lib.hid (F57ab.out.belowW HB58.out)
        have F58k := Lib.hid (F57k.out.belowW HB58.out)
        have F58l := Lib.hid (F57l.out.belowW HB58.out)
        have HL58 := Lib.hid (HL57.out.trans (HB58.out.mono HL57.out.size))
        clear F57t F57ka F57kb F57kc F57ab F57k F57l HL57 HB58
        go_upto_region 22 with (fail)
        obtain ⟨w59, hw⟩ : ∃ z9 : World, z9 = w58.alloc (.cells #[.int .i64 xn, .int .i64 xd] 23) := ⟨_, rfl⟩
        have HB59 := Lib.hid (show Below w58.heap.size w58 w59 by rw [hw]; exact below_a1 _ _)
        have F59lf := Lib.hid (show Blk w59 w58.heap.size 23 #[.int .i64 xn, .int .i64 xd] by rw [hw]; exact Blk.new _ _ _)
        rw [← hw]
        clear hw
        have F59t := Lib.hid (F58t.out.belowW HB59.out)
        have F59ka := Lib.hid (F58ka.out.belowW HB59.out)
        have F59kb := Lib.hid (F58kb.out.belowW HB59.out)
        have F59kc := Lib.hid (F58kc.out.belowW HB59.out)
        have F59ab := Lib.hid (F58ab.out.belowW HB59.out)
        have F59k := Lib.hid (F58k.out.belowW HB59.out)
        have F59l := Lib.hid (F58l.out.belowW HB59.out)
        have HL59 := Lib.hid (HL58.out.trans (HB59.out.mono HL58.out.size))
        clear F58t F58ka F58kb F58kc F58ab F58k F58l HL58 HB59
        clear pka0 fka0 pka1 fka1 pkb0 fkb0 pkb1 fkb1 pkc0 fkc0 pkc1 fkc1
        have pka0 : (w59).cell? ⟨w.heap.size, 0, none⟩ = some (.int .i64 an) := F59ka.out.cell 0
        have fka0 : (w59).frozen? ⟨w.heap.size, 0, none⟩ = false := F59ka.out.frozen 0
        have pka1 : (w59).cell? ⟨w.heap.size, 1, none⟩ = some (.int .i64 ad) := F59ka.out.cell 1
        have fka1 : (w59).frozen? ⟨w.heap.size, 1, none⟩ = false := F59ka.out.frozen 1
        have pkb0 : (w59).cell? ⟨w.heap.size + 1, 0, none⟩ = some (.int .i64 bn) := F59kb.out.cell 0
        have fkb0 : (w59).frozen? ⟨w.heap.size + 1, 0, none⟩ = false := F59kb.out.frozen 0
        have pkb1 : (w59).cell? ⟨w.heap.size + 1, 1, none⟩ = some (.int .i64 bd) := F59kb.out.cell 1
        have fkb1 : (w59).frozen? ⟨w.heap.size + 1, 1, none⟩ = false := F59kb.out.frozen 1
        have pkc0 : (w59).cell? ⟨w.heap.size + 1 + 1, 0, none⟩ = some (.int .i64 cn) := F59kc.out.cell 0
        have fkc0 : (w59).frozen? ⟨w.heap.size + 1 + 1, 0, none⟩ = false := F59kc.out.frozen 0
        have pkc1 : (w59).cell? ⟨w.heap.size + 1 + 1, 1, none⟩ = some (.int .i64 cd) := F59kc.out.cell 1
        have fkc1 : (w59).frozen? ⟨w.heap.size + 1 + 1, 1, none⟩ = false := F59kc.out.frozen 1
        have pk0 : (w59).cell? ⟨w54.heap.size, 0, none⟩ = some (.int .i64 kn) := F59k.out.cell 0
        have fk0 : (w59).frozen? ⟨w54.heap.size, 0, none⟩ = false := F59k.out.frozen 0
        have pk1 : (w59).cell? ⟨w54.heap.size, 1, none⟩ = some (.int .i64 kd) := F59k.out.cell 1
        have fk1 : (w59).frozen? ⟨w54.heap.size, 1, none⟩ = false := F59k.out.frozen 1
        have pl0 : (w59).cell? ⟨w56.heap.size, 0, none⟩ = some (.int .i64 ln) := F59l.out.cell 0
        have fl0 : (w59).frozen? ⟨w56.heap.size, 0, none⟩ = false := F59l.out.frozen 0
        have pl1 : (w59).cell? ⟨w56.heap.size, 1, none⟩ = some (.int .i64 ld) := F59l.out.cell 1
        have fl1 : (w59).frozen? ⟨w56.heap.size, 1, none⟩ = false := F59l.out.frozen 1
        go_wp2_with fail
        refine (qAdd kn kd ln ld w59 (by have := HI.out; omega) (by have := HI.out; omega) (by have := HI.out; omega) (by have := HI.out; omega) (by have := HI.out; omega) (by have := HI.out; omega) (by have := HI.out; omega) (by have := HI.out; omega)).mono ?_
        rw [HY.out]
        rintro e w60 ⟨rfl, HB60⟩
        have F60t := Lib.hid (F59t.out.belowW HB60.out)
        have F60ka := Lib.hid (F59ka.out.belowW HB60.out)
        have F60kb := Lib.hid (F59kb.out.belowW HB60.out)
        have F60kc := Lib.hid (F59kc.out.belowW HB60.out)
        have F60ab := Lib.hid (F59ab.out.belowW HB60.out)
        have F60k := Lib.hid (F59k.out.belowW HB60.out)
        have F60l := Lib.hid (F59l.out.belowW HB60.out)
        have F60lf := Lib.hid (F59lf.out.belowW HB60.out)
        have HL60 := Lib.hid (HL59.out.trans (HB60.out.mono HL59.out.size))
        clear F59t F59ka F59kb F59kc F59ab F59k F59l F59lf HL59 HB60
        go_upto_region 23 with (fail)
        obtain ⟨w61, hw⟩ : ∃ z9 : World, z9 = w60.alloc (.cells #[.int .i64 yn, .int .i64 yd] 23) := ⟨_, rfl⟩
        have HB61 := Lib.hid (show Below w60.heap.size w60 w61 by rw [hw]; exact below_a1 _ _)
        have F61rg := Lib.hid (show Blk w61 w60.heap.size 23 #[.int .i64 yn, .int .i64 yd] by rw [hw]; exact Blk.new _ _ _)
        rw [← hw]
        clear hw
        have F61t := Lib.hid (F60t.out.belowW HB61.out)
        have F61ka := Lib.hid (F60ka.out.belowW HB61.out)
        have F61kb := Lib.hid (F60kb.out.belowW HB61.out)
        have F61kc := Lib.hid (F60kc.out.belowW HB61.out)
        have F61ab := Lib.hid (F60ab.out.belowW HB61.out)
        have F61k := Lib.hid (F60k.out.belowW HB61.out)
        have F61l := Lib.hid (F60l.out.belowW HB61.out)
        have F61lf := Lib.hid (F60lf.out.belowW HB61.out)
        have HL61 := Lib.hid (HL60.out.trans (HB61.out.mono HL60.out.size))
        clear F60t F60ka F60kb F60kc F60ab F60k F60l F60lf HL60 HB61
        clear pka0 fka0 pka1 fka1 pkb0 fkb0 pkb1 fkb1 pkc0 fkc0 pkc1 fkc1
        have pka0 : (w61).cell? ⟨w.heap.size, 0, none⟩ = some (.int .i64 an) := F61ka.out.cell 0
        have fka0 : (w61).frozen? ⟨w.heap.size, 0, none⟩ = false := F61ka.out.frozen 0
        have pka1 : (w61).cell? ⟨w.heap.size, 1, none⟩ = some (.int .i64 ad) := F61ka.out.cell 1
        have fka1 : (w61).frozen? ⟨w.heap.size, 1, none⟩ = false := F61ka.out.frozen 1
        have pkb0 : (w61).cell? ⟨w.heap.size + 1, 0, none⟩ = some (.int .i64 bn) := F61kb.out.cell 0
        have fkb0 : (w61).frozen? ⟨w.heap.size + 1, 0, none⟩ = false := F61kb.out.frozen 0
        have pkb1 : (w61).cell? ⟨w.heap.size + 1, 1, none⟩ = some (.int .i64 bd) := F61kb.out.cell 1
        have fkb1 : (w61).frozen? ⟨w.heap.size + 1, 1, none⟩ = false := F61kb.out.frozen 1
        have pkc0 : (w61).cell? ⟨w.heap.size + 1 + 1, 0, none⟩ = some (.int .i64 cn) := F61kc.out.cell 0
        have fkc0 : (w61).frozen? ⟨w.heap.size + 1 + 1, 0, none⟩ = false := F61kc.out.frozen 0
        have pkc1 : (w61).cell? ⟨w.heap.size + 1 + 1, 1, none⟩ = some (.int .i64 cd) := F61kc.out.cell 1
        have fkc1 : (w61).frozen? ⟨w.heap.size + 1 + 1, 1, none⟩ = false := F61kc.out.frozen 1
        have plf0 : (w61).cell? ⟨w58.heap.size, 0, none⟩ = some (.int .i64 xn) := F61lf.out.cell 0
        have flf0 : (w61).frozen? ⟨w58.heap.size, 0, none⟩ = false := F61lf.out.frozen 0
        have plf1 : (w61).cell? ⟨w58.heap.size, 1, none⟩ = some (.int .i64 xd) := F61lf.out.cell 1
        have flf1 : (w61).frozen? ⟨w58.heap.size, 1, none⟩ = false := F61lf.out.frozen 1
        have prg0 : (w61).cell? ⟨w60.heap.size, 0, none⟩ = some (.int .i64 yn) := F61rg.out.cell 0
        have frg0 : (w61).frozen? ⟨w60.heap.size, 0, none⟩ = false := F61rg.out.frozen 0
        have prg1 : (w61).cell? ⟨w60.heap.size, 1, none⟩ = some (.int .i64 yd) := F61rg.out.cell 1
        have frg1 : (w61).frozen? ⟨w60.heap.size, 1, none⟩ = false := F61rg.out.frozen 1
        go_cut [167] (fun s wx => s = .bool false ∧ wx = w61)
        case first =>
          by_cases h0 : se = 0
          · have e0 : (se == 0) = true := by simp [h0]
            have H0 := Lib.hid h0
            clear h0
            by_cases h1 : ke = 0
            · have e1 : (ke == 0) = true := by simp [h1]
              have H1 := Lib.hid h1
              clear h1
              by_cases h2 : le = 0
              · have e2 : (le == 0) = true := by simp [h2]
                have H2 := Lib.hid h2
                clear h2
                by_cases h3 : xe = 0
                · have e3 : (xe == 0) = true := by simp [h3]
                  have H3 := Lib.hid h3
                  clear h3
                  by_cases h4 : ye = 0
                  · have e4 : (ye == 0) = true := by simp [h4]
                    have H4 := Lib.hid h4
                    clear h4
                    obtain ⟨hn, hdd⟩ := HDIS.out H0.out H1.out H2.out H3.out H4.out
                    have en : (xn == yn) = true := by simp [hn]
                    have ed : (xd == yd) = true := by simp [hdd]
                    have en2 : (xn != yn) = false := by simp [hn]
                    have ed2 : (xd != yd) = false := by simp [hdd]
                    clear hn hdd
                    go_wp2_with fail
                    go_meet
                    exact ⟨rfl, rfl⟩
                  · have e4 : (ye == 0) = false := by simp [h4]
                    clear h4
                    go_wp2_with fail
                    go_meet
                    exact ⟨rfl, rfl⟩
                · have e3 : (xe == 0) = false := by simp [h3]
                  clear h3
                  go_wp2_with fail
                  go_meet
                  exact ⟨rfl, rfl⟩
              · have e2 : (le == 0) = false := by simp [h2]
                clear h2
                go_wp2_with fail
                go_meet
                exact ⟨rfl, rfl⟩
            · have e1 : (ke == 0) = false := by simp [h1]
              clear h1
              go_wp2_with fail
              go_meet
              exact ⟨rfl, rfl⟩
          · have e0 : (se == 0) = false := by simp [h0]
            clear h0
            go_wp2_with fail
            go_meet
            exact ⟨rfl, rfl⟩
        case rest =>
          obtain ⟨rfl, hwc⟩ := hcut
          rw [hwc]
          clear hwc
          go_wp2_with fail
          refine (qSub an ad bn bd w61 (by have := HI.out; omega) (by have := HI.out; omega) (by have := HI.out; omega) (by have := HI.out; omega) (by have := HI.out; omega) (by have := HI.out; omega) (by have := HI.out; omega) (by have := HI.out; omega)).mono ?_
          rw [HD.out]
          rintro e w62 ⟨rfl, HB62⟩
          have F62t := Lib.hid (F61t.out.belowW HB62.out)
          have F62ka := Lib.hid (F61ka.out.belowW HB62.out)
          have F62kb := Lib.hid (F61kb.out.belowW HB62.out)
          have F62kc := Lib.hid (F61kc.out.belowW HB62.out)
          have F62ab := Lib.hid (F61ab.out.belowW HB62.out)
          have F62k := Lib.hid (F61k.out.belowW HB62.out)
          have F62l := Lib.hid (F61l.out.belowW HB62.out)
          have F62lf := Lib.hid (F61lf.out.belowW HB62.out)
          have F62rg := Lib.hid (F61rg.out.belowW HB62.out)
          have HL62 := Lib.hid (HL61.out.trans (HB62.out.mono HL61.out.size))
          clear F61t F61ka F61kb F61kc F61ab F61k F61l F61lf F61rg HL61 HB62
          go_upto_region 26 with (fail)
          obtain ⟨w63, hw⟩ : ∃ z9 : World, z9 = w62.alloc (.cells #[.int .i64 dn, .int .i64 dd] 23) := ⟨_, rfl⟩
          have HB63 := Lib.hid (show Below w62.heap.size w62 w63 by rw [hw]; exact below_a1 _ _)
          have F63df := Lib.hid (show Blk w63 w62.heap.size 23 #[.int .i64 dn, .int .i64 dd] by rw [hw]; exact Blk.new _ _ _)
          rw [← hw]
          clear hw
          have F63t := Lib.hid (F62t.out.belowW HB63.out)
          have F63ka := Lib.hid (F62ka.out.belowW HB63.out)
          have F63kb := Lib.hid (F62kb.out.belowW HB63.out)
          have F63kc := Lib.hid (F62kc.out.belowW HB63.out)
          have F63ab := Lib.hid (F62ab.out.belowW HB63.out)
          have F63k := Lib.hid (F62k.out.belowW HB63.out)
          have F63l := Lib.hid (F62l.out.belowW HB63.out)
          have F63lf := Lib.hid (F62lf.out.belowW HB63.out)
          have F63rg := Lib.hid (F62rg.out.belowW HB63.out)
          have HL63 := Lib.hid (HL62.out.trans (HB63.out.mono HL62.out.size))
          clear F62t F62ka F62kb F62kc F62ab F62k F62l F62lf F62rg HL62 HB63
          clear pka0 fka0 pka1 fka1 pkb0 fkb0 pkb1 fkb1 pkc0 fkc0 pkc1 fkc1
          have pka0 : (w63).cell? ⟨w.heap.size, 0, none⟩ = some (.int .i64 an) := F63ka.out.cell 0
          have fka0 : (w63).frozen? ⟨w.heap.size, 0, none⟩ = false := F63ka.out.frozen 0
          have pka1 : (w63).cell? ⟨w.heap.size, 1, none⟩ = some (.int .i64 ad) := F63ka.out.cell 1
          have fka1 : (w63).frozen? ⟨w.heap.size, 1, none⟩ = false := F63ka.out.frozen 1
          have pkb0 : (w63).cell? ⟨w.heap.size + 1, 0, none⟩ = some (.int .i64 bn) := F63kb.out.cell 0
          have fkb0 : (w63).frozen? ⟨w.heap.size + 1, 0, none⟩ = false := F63kb.out.frozen 0
          have pkb1 : (w63).cell? ⟨w.heap.size + 1, 1, none⟩ = some (.int .i64 bd) := F63kb.out.cell 1
          have fkb1 : (w63).frozen? ⟨w.heap.size + 1, 1, none⟩ = false := F63kb.out.frozen 1
          have pkc0 : (w63).cell? ⟨w.heap.size + 1 + 1, 0, none⟩ = some (.int .i64 cn) := F63kc.out.cell 0
          have fkc0 : (w63).frozen? ⟨w.heap.size + 1 + 1, 0, none⟩ = false := F63kc.out.frozen 0
          have pkc1 : (w63).cell? ⟨w.heap.size + 1 + 1, 1, none⟩ = some (.int .i64 cd) := F63kc.out.cell 1
          have fkc1 : (w63).frozen? ⟨w.heap.size + 1 + 1, 1, none⟩ = false := F63kc.out.frozen 1
          have pdf0 : (w63).cell? ⟨w62.heap.size, 0, none⟩ = some (.int .i64 dn) := F63df.out.cell 0
          have fdf0 : (w63).frozen? ⟨w62.heap.size, 0, none⟩ = false := F63df.out.frozen 0
          have pdf1 : (w63).cell? ⟨w62.heap.size, 1, none⟩ = some (.int .i64 dd) := F63df.out.cell 1
          have fdf1 : (w63).frozen? ⟨w62.heap.size, 1, none⟩ = false := F63df.out.frozen 1
          by_cases hde : de = 0
          · have HE := Lib.hid (HCMP.out hde)
            subst hde
            obtain ⟨q, hq⟩ : ∃ q, q = cmpE dn dd 0 1 := ⟨_, rfl⟩
            rw [← hq] at HE
            have HQ := Lib.hid hq.symm
            clear hq
            clear pka0 fka0 pka1 fka1 pkb0 fkb0 pkb1 fkb1 pdf0 fdf0 pdf1 fdf1 pkc0 pkc1 fkc0 fkc1
            have yka0 : w63.cell? ⟨w.heap.size, 0, none⟩ = some (.int .i64 an) := F63ka.out.cell 0
            have yka1 : w63.cell? ⟨w.heap.size, 1, none⟩ = some (.int .i64 ad) := F63ka.out.cell 1
            have ykb0 : w63.cell? ⟨w.heap.size + 1, 0, none⟩ = some (.int .i64 bn) := F63kb.out.cell 0
            have ykb1 : w63.cell? ⟨w.heap.size + 1, 1, none⟩ = some (.int .i64 bd) := F63kb.out.cell 1
            have ydf0 : w63.cell? ⟨w62.heap.size, 0, none⟩ = some (.int .i64 dn) := F63df.out.cell 0
            have ydf1 : w63.cell? ⟨w62.heap.size, 1, none⟩ = some (.int .i64 dd) := F63df.out.cell 1
            have zka0 : w63.drew.cell? ⟨w.heap.size, 0, none⟩ = some (.int .i64 an) := F63ka.out.cell 0
            have zka1 : w63.drew.cell? ⟨w.heap.size, 1, none⟩ = some (.int .i64 ad) := F63ka.out.cell 1
            have zkb0 : w63.drew.cell? ⟨w.heap.size + 1, 0, none⟩ = some (.int .i64 bn) := F63kb.out.cell 0
            have zkb1 : w63.drew.cell? ⟨w.heap.size + 1, 1, none⟩ = some (.int .i64 bd) := F63kb.out.cell 1
            have zdf0 : w63.drew.cell? ⟨w62.heap.size, 0, none⟩ = some (.int .i64 dn) := F63df.out.cell 0
            have zdf1 : w63.drew.cell? ⟨w62.heap.size, 1, none⟩ = some (.int .i64 dd) := F63df.out.cell 1
            have RB1 : Hid ((-9223372036854775808 ≤ an ∧ an ≤ 9223372036854775807) ∧ (-9223372036854775808 ≤ ad ∧ ad ≤ 9223372036854775807) ∧ (-9223372036854775808 ≤ bn ∧ bn ≤ 9223372036854775807) ∧ (-9223372036854775808 ≤ bd ∧ bd ≤ 9223372036854775807) ∧ (-9223372036854775808 ≤ dn ∧ dn ≤ 9223372036854775807) ∧ (-9223372036854775808 ≤ dd ∧ dd ≤ 9223372036854775807)) := Lib.hid (by have := HI.out; omega)
            have KC1 := Lib.hid (fun w => qCmp an ad bn bd w RB1.out.1.1 RB1.out.1.2 RB1.out.2.1.1 RB1.out.2.1.2 RB1.out.2.2.1.1 RB1.out.2.2.1.2 RB1.out.2.2.2.1.1 RB1.out.2.2.2.1.2)
            have KC2 := Lib.hid (fun w => qCmp dn dd 0 1 w RB1.out.2.2.2.2.1.1 RB1.out.2.2.2.2.1.2 RB1.out.2.2.2.2.2.1 RB1.out.2.2.2.2.2.2 (by omega) (by omega) (by omega) (by omega))
            go_region_held3 (fun w' => w'.cell? ⟨w.heap.size, 0, none⟩ = some (.int .i64 an) ∧ w'.cell? ⟨w.heap.size, 1, none⟩ = some (.int .i64 ad) ∧ w'.cell? ⟨w.heap.size + 1, 0, none⟩ = some (.int .i64 bn) ∧ w'.cell? ⟨w.heap.size + 1, 1, none⟩ = some (.int .i64 bd) ∧ w'.cell? ⟨w62.heap.size, 0, none⟩ = some (.int .i64 dn) ∧ w'.cell? ⟨w62.heap.size, 1, none⟩ = some (.int .i64 dd)) (exact ⟨by with_reducible assumption, by with_reducible assumption, by with_reducible assumption, by with_reducible assumption, by with_reducible assumption, by with_reducible assumption⟩) (first
              | (go_at_call_of 34 (Value.agg #[.int .i64 an, .int .i64 ad])
                 first
                 | ((with_reducible refine (KC1.out _).mono ?_)
                    rw [HE.out]
                    rintro e x1 ⟨rfl, HXx1⟩
                    have Hx1 := Lib.hid (show Below w63.heap.size w63 x1 from ⟨HXx1.out.os, HXx1.out.tape, HXx1.out.output, HXx1.out.size, HXx1.out.block⟩)
                    have Kx1ka := Lib.hid (F63ka.out.belowW Hx1.out)
                    have Kx1kb := Lib.hid (F63kb.out.belowW Hx1.out)
                    have Kx1df := Lib.hid (F63df.out.belowW Hx1.out)
                    have cx1ka0 : x1.cell? ⟨w.heap.size, 0, none⟩ = some (.int .i64 an) := Kx1ka.out.cell 0
                    have cx1ka1 : x1.cell? ⟨w.heap.size, 1, none⟩ = some (.int .i64 ad) := Kx1ka.out.cell 1
                    have cx1kb0 : x1.cell? ⟨w.heap.size + 1, 0, none⟩ = some (.int .i64 bn) := Kx1kb.out.cell 0
                    have cx1kb1 : x1.cell? ⟨w.heap.size + 1, 1, none⟩ = some (.int .i64 bd) := Kx1kb.out.cell 1
                    have cx1df0 : x1.cell? ⟨w62.heap.size, 0, none⟩ = some (.int .i64 dn) := Kx1df.out.cell 0
                    have cx1df1 : x1.cell? ⟨w62.heap.size, 1, none⟩ = some (.int .i64 dd) := Kx1df.out.cell 1))
              | (go_at_call_of 34 (Value.agg #[.int .i64 dn, .int .i64 dd])
                 first
                 | ((with_reducible refine (KC2.out _).mono ?_)
                    rw [HQ.out]
                    rintro e x2 ⟨rfl, HXx2⟩
                    have Hx2 := Lib.hid (Hx1.out.trans (HXx2.out.mono Hx1.out.size))
                    have Kx2ka := Lib.hid (F63ka.out.belowW Hx2.out)
                    have Kx2kb := Lib.hid (F63kb.out.belowW Hx2.out)
                    have Kx2df := Lib.hid (F63df.out.belowW Hx2.out)
                    have cx2ka0 : x2.cell? ⟨w.heap.size, 0, none⟩ = some (.int .i64 an) := Kx2ka.out.cell 0
                    have cx2ka1 : x2.cell? ⟨w.heap.size, 1, none⟩ = some (.int .i64 ad) := Kx2ka.out.cell 1
                    have cx2kb0 : x2.cell? ⟨w.heap.size + 1, 0, none⟩ = some (.int .i64 bn) := Kx2kb.out.cell 0
                    have cx2kb1 : x2.cell? ⟨w.heap.size + 1, 1, none⟩ = some (.int .i64 bd) := Kx2kb.out.cell 1
                    have cx2df0 : x2.cell? ⟨w62.heap.size, 0, none⟩ = some (.int .i64 dn) := Kx2df.out.cell 0
                    have cx2df1 : x2.cell? ⟨w62.heap.size, 1, none⟩ = some (.int .i64 dd) := Kx2df.out.cell 1)))
            go_wp2_with fail
            go_ret
            exact ⟨rfl, Lib.hid (HL63.out.trans (Hx2.out.mono HL63.out.size))⟩
          · have e9 : (de != 0) = true := by simp [hde]
            clear hde
            go_quiet (fail)
            go_wp2_with fail
            go_ret
            exact ⟨rfl, Lib.hid (below_drewN HL63.out _)⟩
end Go.Proofs.YtnogfceojmnjiaaGreatDoor
