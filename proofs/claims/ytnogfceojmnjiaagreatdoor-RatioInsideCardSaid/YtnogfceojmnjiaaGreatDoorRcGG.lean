/-
  What RatioInside asks, in plain Lean. Of no program.
  The walk of the law RatioInside.
-/
import Derived.Test.YtnogfceojmnjiaaGreatDoorRaSS
import Derived.Test.YtnogfceojmnjiaaGreatDoorRatPlain6
import Derived.Test.YtnogfceojmnjiaaGreatDoorRbEE
import Derived.Test.YtnogfceojmnjiaaGreatDoorRaF
set_option linter.unusedVariables false
namespace Go.Fl.Dy
open Go.Fl.Nm Go.Fl.Rt Go.Fl.Pop
section
variable {n d : Int} {p : Nat}
/-- The ends of an enclosure: valid, of at most p bits, on both sides of the ratio. -/
theorem ins_vld (hv : vB n d = true) (hp : 8 ≤ p) (hp2 : p ≤ 512) (up : Bool) : vld (encE n d p up) ∧ blen (encE n d p up).k ≤ p := by
  obtain ⟨v1, v2, v3, v4⟩ := vB_bd hv
  exact encE_vld (by omega) (by omega) (by omega) (by omega) (by omega) up
theorem ins_in (hv : vB n d = true) (hp : 8 ≤ p) (hp2 : p ≤ 512) : iv (encE n d p false) * d ≤ n * Z16 ∧ n * Z16 ≤ iv (encE n d p true) * d ∧ (iv (encE n d p false) * d = n * Z16 ↔ n * Z16 = iv (encE n d p true) * d) := by
  obtain ⟨v1, v2, v3, v4⟩ := vB_bd hv
  exact enc_in (by omega) (by omega) (by omega) (by omega) (by omega)
theorem ins_cmp (hv : vB n d = true) (hp : 8 ≤ p) (hp2 : p ≤ 512) : 0 ≤ cmpRD n d (encE n d p false) ∧ cmpRD n d (encE n d p true) ≤ 0 ∧ ((cmpRD n d (encE n d p false) == 0) = (cmpRD n d (encE n d p true) == 0)) := by
  obtain ⟨v1, v2, v3, v4⟩ := vB_bd hv
  obtain ⟨h1, h2, h3⟩ := ins_in hv hp hp2
  rw [cmpRD_eq (by omega) (ins_vld hv hp hp2 false).1, cmpRD_eq (by omega) (ins_vld hv hp hp2 true).1]
  refine ⟨cmpI_ge.2 h1, cmpI_le.2 h2, ?_⟩
  rw [Bool.eq_iff_iff, beq_iff_eq, beq_iff_eq, cmpI_zero, cmpI_zero]
  exact ⟨fun h => h3.1 h.symm, fun h => (h3.2 h).symm⟩
theorem ins_more {m : Nat} (hv : vB n d = true) (hp : 8 ≤ p) (hm : p ≤ m) (hm2 : m ≤ 512) : cmpD (encE n d p false) (encE n d m false) ≤ 0 ∧ 0 ≤ cmpD (encE n d p true) (encE n d m true) := by
  obtain ⟨v1, v2, v3, v4⟩ := vB_bd hv
  obtain ⟨h1, h2, _⟩ := ins_in hv hp (Nat.le_trans hm hm2)
  have b1 := ins_vld hv hp (Nat.le_trans hm hm2) false
  have b2 := ins_vld hv hp (Nat.le_trans hm hm2) true
  have c1 := ins_vld hv (Nat.le_trans hp hm) hm2 false
  have c2 := ins_vld hv (Nat.le_trans hp hm) hm2 true
  rw [cmpD_eq b1.1 c1.1, cmpD_eq b2.1 c2.1]
  exact ⟨cmpI_le.2 (enc_great (by omega) (by omega) (by omega) (by omega) (by omega) (Nat.le_trans b1.2 hm) h1), cmpI_ge.2 (enc_least (by omega) (by omega) (by omega) (by omega) (by omega) (Nat.le_trans b2.2 hm) h2)⟩
end
/-- A lower end of a smaller ratio is not above that of a greater one. -/
theorem ins_mono {a b c d : Int} {p : Nat} (ha : vB a b = true) (hc : vB c d = true) (hp : 8 ≤ p) (hp2 : p ≤ 512) (h : a * d ≤ c * b) : iv (encE a b p false) ≤ iv (encE c d p false) ∧ iv (encE a b p true) ≤ iv (encE c d p true) := by
  obtain ⟨v1, v2, v3, v4⟩ := vB_bd ha
  obtain ⟨u1, u2, u3, u4⟩ := vB_bd hc
  obtain ⟨h1, h2, _⟩ := ins_in ha hp hp2
  obtain ⟨k1, k2, _⟩ := ins_in hc hp hp2
  have hz := Z16_pos
  have hm : a * d * (Z16 : Int) ≤ c * b * Z16 := Int.mul_le_mul_of_nonneg_right h (by omega)
  refine ⟨enc_great (by omega) (by omega) (by omega) (by omega) (by omega) (ins_vld ha hp hp2 false).2 ?_, enc_least (by omega) (by omega) (by omega) (by omega) (by omega) (ins_vld hc hp hp2 true).2 ?_⟩
  · have e : iv (encE a b p false) * d * b ≤ c * Z16 * b := by
      have h3 := Int.mul_le_mul_of_nonneg_right h1 (show (0 : Int) ≤ d by omega)
      rw [Int.mul_right_comm, Int.mul_right_comm c]
      rw [Int.mul_right_comm a] at h3
      exact Int.le_trans h3 hm
    exact Int.le_of_mul_le_mul_right e (by omega)
  · have e : a * Z16 * d ≤ iv (encE c d p true) * b * d := by
      have h3 := Int.mul_le_mul_of_nonneg_right k2 (show (0 : Int) ≤ b by omega)
      rw [Int.mul_right_comm c] at h3
      rw [Int.mul_right_comm a, Int.mul_right_comm (iv _)]
      exact Int.le_trans hm h3
    exact Int.le_of_mul_le_mul_right e (by omega)
theorem ins_order {a b c d : Int} {p : Nat} (ha : vB a b = true) (hc : vB c d = true) (hp : 8 ≤ p) (hp2 : p ≤ 512) :
    (cmpE a b c d ≤ 0 → cmpD (encE a b p false) (encE c d p false) ≤ 0 ∧ cmpD (encE a b p true) (encE c d p true) ≤ 0) ∧ (0 < cmpE a b c d → 0 ≤ cmpD (encE a b p false) (encE c d p false) ∧ 0 ≤ cmpD (encE a b p true) (encE c d p true)) := by
  have e : cmpE a b c d = cmpI (a * d) (c * b) := by unfold cmpE cmpR cmpI; rw [ha, hc]; rfl
  rw [e, cmpD_eq (ins_vld ha hp hp2 false).1 (ins_vld hc hp hp2 false).1, cmpD_eq (ins_vld ha hp hp2 true).1 (ins_vld hc hp hp2 true).1]
  constructor
  · intro h
    have := ins_mono ha hc hp hp2 (cmpI_le.1 h)
    exact ⟨cmpI_le.2 this.1, cmpI_le.2 this.2⟩
  · intro h
    have h2 : c * b ≤ a * d := cmpI_ge.1 (by omega)
    have := ins_mono hc ha hp hp2 h2
    exact ⟨cmpI_ge.2 this.1, cmpI_ge.2 this.2⟩
/-- A number that is a ratio is the ratio's exact value. -/
theorem exD_full {n d : Int} {x : D} (hv : vB n d = true) (hx : vld x) (h : iv x * d = n * Z16) : exD n d = (x, true) := by
  obtain ⟨v1, v2', v3, v4⟩ := vB_bd hv
  obtain ⟨q, hq⟩ : ∃ q : Nat, d = q := ⟨d.toNat, by omega⟩
  subst hq
  have hg : Nat.gcd n.natAbs q = 1 := by
    obtain ⟨_, _, _, _, hg⟩ := vB_iff.1 hv
    simpa using hg
  have hdvd : q ∣ n.natAbs * 2 ^ ZE := by
    refine ⟨(iv x).natAbs, ?_⟩
    have h1 := congrArg Int.natAbs h
    rw [Int.natAbs_mul, Int.natAbs_mul, Int.natAbs_natCast, Int.natAbs_natCast] at h1
    unfold Z16 at h1
    rw [← h1, Nat.mul_comm]
  have hd2 : q ∣ 2 ^ ZE := Nat.Coprime.dvd_of_dvd_mul_left (Nat.Coprime.symm hg) hdvd
  have hqp : q = 2 ^ v2 q := dvd_pow (by omega) hd2
  have hc : cnt (q : Int).toNat = 1 := (cnt_one (by omega)).2 ⟨v2 q, by simpa using hqp⟩
  obtain ⟨ho, hvl⟩ := exD_of hv hc
  obtain ⟨_, he, hcm⟩ := of_exD hvl ho
  rw [cmpRD_eq (by omega) hvl, cmpI_zero] at hcm
  rw [he]
  have : iv x = iv (canon (decide (n < 0)) n.natAbs (-(v2 (q : Int).toNat : Int))) := Int.eq_of_mul_eq_mul_right (show (q : Int) ≠ 0 by omega) (h.trans hcm)
  rw [iv_inj hx hvl this]
/-- The enclosure is a point exactly if the ratio is a number of so many bits. -/
theorem ins_point {n d : Int} {p : Nat} {x : D} {b : Bool} (hv : vB n d = true) (hp : 8 ≤ p) (hp2 : p ≤ 512) (h : exD n d = (x, b)) : encE n d p false = encE n d p true ↔ (b && decide (blen x.k ≤ p)) = true := by
  obtain ⟨v1, v2', v3, v4⟩ := vB_bd hv
  obtain ⟨h1, h2, h3⟩ := ins_in hv hp hp2
  obtain ⟨b1, b2⟩ := ins_vld hv hp hp2 false
  obtain ⟨c1, c2⟩ := ins_vld hv hp hp2 true
  rw [Bool.and_eq_true, decide_eq_true_iff]
  constructor
  · intro e
    have e1 : iv (encE n d p false) * d = n * Z16 := by rw [← e] at h2; exact Int.le_antisymm h1 h2
    rw [exD_full hv b1 e1] at h
    injection h with h4 h5
    exact ⟨h5.symm, by rw [← h4]; exact b2⟩
  · rintro ⟨hb, hbl⟩
    subst hb
    obtain ⟨_, hof, hvl⟩ := exD_true h
    obtain ⟨_, _, hcm⟩ := of_exD hvl hof
    rw [cmpRD_eq (by omega) hvl, cmpI_zero] at hcm
    have g1 := enc_great (n := n) (d := d) (p := p) (by omega) (by omega) (by omega) (by omega) (by omega) hbl (by omega)
    have e1 : iv (encE n d p false) * d = n * Z16 := Int.le_antisymm h1 (by rw [hcm]; exact Int.mul_le_mul_of_nonneg_right g1 (by omega))
    refine iv_inj b1 c1 (Int.eq_of_mul_eq_mul_right (show d ≠ 0 by omega) (e1.trans (h3.1 e1)))
end Go.Fl.Dy
namespace Go.Fl
open Go.RowKit
section
variable {P : Program} {md : Region.Mode} {ops : Array Oper} {Q : Exit → Act → World → Prop} {S : World → Prop}
/-- A state of a drawn region under names: what is left to be shown, and the frame. -/
theorem memo_start {fuel : Nat} {listed : Array Bool} {a : Act} {w : World} (h : ∀ (G : Nat → Array Bool → Act → World → Prop) (A0 : Act), Hid (G = wpAnyH P md ops Q S) → Hid (A0 = a) → G fuel listed A0 w) : wpAnyH P md ops Q S fuel listed a w := h _ _ (Lib.hid rfl) (Lib.hid rfl)
end
end Go.Fl
namespace Go.Proofs.YtnogfceojmnjiaaGreatDoor
open Go.RowKit Go.Fl Go.Fl.Nm Go.Fl.Dy Go.Fl.Rt
theorem limbs_inj {a b : Nat} (h : limbs a = limbs b) : a = b := by rw [← val_limbs a, ← val_limbs b, h]
theorem sameB_iff (x y : D) (b : Bool) (h : x = y ↔ b = true) : sameB x.neg y.neg (limbs x.k) (limbs y.k) x.e y.e = b := by
  rw [Bool.eq_iff_iff, ← h]
  unfold sameB
  rw [decide_eq_true_iff]
  constructor
  · rintro ⟨h1, h2, h3⟩
    cases x; cases y
    simp only at h1 h2 h3
    rw [h1, h2, limbs_inj h3]
  · intro e
    rw [e]
    exact ⟨rfl, rfl, rfl⟩
/-- Behind the three enclosures: their blocks. -/
def InsCut (W : World) (x1 x2 y1 y2 z1 z2 : D) (s s' s'' : Value) (wx : World) : Prop :=
  ∃ (g0 g1 g2 : Nat) (A1 U1 A2 U2 A3 U3 : Option Addr) (n1 c1 m1 d1 n2 c2 m2 d2 n3 c3 m3 d3 : Nat), s = .pointer (some ⟨g0, 0, none⟩) ∧ s' = .pointer (some ⟨g1, 0, none⟩) ∧ s'' = .pointer (some ⟨g2, 0, none⟩) ∧
    Hid (Blk wx g0 30 #[.bool x1.neg, .slice A1 n1 c1, .int .i64 x1.e, .bool x2.neg, .slice U1 m1 d1, .int .i64 x2.e, .bool false]) ∧ Hid (Blk wx g1 30 #[.bool y1.neg, .slice A2 n2 c2, .int .i64 y1.e, .bool y2.neg, .slice U2 m2 d2, .int .i64 y2.e, .bool false]) ∧ Hid (Blk wx g2 30 #[.bool z1.neg, .slice A3 n3 c3, .int .i64 z1.e, .bool z2.neg, .slice U3 m3 d3, .int .i64 z2.e, .bool false]) ∧
    Hid (Sl wx A1 n1 c1 (limbs x1.k)) ∧ Hid (Sl wx U1 m1 d1 (limbs x2.k)) ∧ Hid (Sl wx A2 n2 c2 (limbs y1.k)) ∧ Hid (Sl wx U2 m2 d2 (limbs y2.k)) ∧ Hid (Sl wx A3 n3 c3 (limbs z1.k)) ∧ Hid (Sl wx U3 m3 d3 (limbs z2.k)) ∧ Hid (Below W.heap.size W wx)

set_option maxHeartbeats 16000000 in
set_option maxRecDepth 100000 in
theorem inside_noa (an ad bn bd : Int) (p mo : Nat) (w : World) (hT : RX w) (a1 : -9223372036854775808 ≤ an) (a2 : an ≤ 9223372036854775807) (a3 : -9223372036854775808 ≤ ad) (a4 : ad ≤ 9223372036854775807) (b1 : -9223372036854775808 ≤ bn) (b2 : bn ≤ 9223372036854775807) (b3 : -9223372036854775808 ≤ bd) (b4 : bd ≤ 9223372036854775807) (hp : p < 65536) (hmo : mo < 65536) (ha : vB an ad = false) :
    Calls Tryz.prog 12 #[.agg #[.int .i64 an, .int .i64 ad], .agg #[.int .i64 bn, .int .i64 bd], .int .u16 p, .int .u16 mo] w (Awk w) := by
  have HT := Lib.hid hT
  clear hT
  have VA := Lib.hid ha
  clear ha
  go_enter Tryz.func12, Tryz.ntmps12
  go_wp2_with fail
  obtain ⟨w1, hw⟩ : ∃ z9 : World, z9 = ((w.alloc (.cells #[.int .i64 an, .int .i64 ad] 23)).alloc (.cells #[.int .i64 bn, .int .i64 bd] 23)) := ⟨_, rfl⟩
  have HB1 := Lib.hid (show Below w.heap.size w w1 by rw [hw]; exact below_a2 _ _ _)
  have F1t := Lib.hid (HT.out.belowW HB1.out)
  have F1ka := Lib.hid (show Blk w1 (w.heap.size) 23 #[.int .i64 an, .int .i64 ad] by rw [hw]; exact (Blk.new _ _ _).alloc _)
  have F1kb := Lib.hid (show Blk w1 (w.heap.size + 1) 23 #[.int .i64 bn, .int .i64 bd] by rw [hw]; exact Blk.new1 _ _ _ _)
  rw [← hw]
  clear hw
  refine (awake_any w1 F1t.out).mono ?_
  rintro e w2 ⟨rfl, HB2⟩
  have F2t := Lib.hid (F1t.out.belowW HB2.out)
  have F2ka := Lib.hid (F1ka.out.belowW HB2.out)
  have F2kb := Lib.hid (F1kb.out.belowW HB2.out)
  have HL2 := Lib.hid (HB1.out.trans (HB2.out.mono HB1.out.size))
  clear F1t F1ka F1kb HB1 HB2
  have pka0 : w2.cell? ⟨w.heap.size, 0, none⟩ = some (.int .i64 an) := F2ka.out.cell 0
  have pka1 : w2.cell? ⟨w.heap.size, 1, none⟩ = some (.int .i64 ad) := F2ka.out.cell 1
  go_wp2_with fail
  refine (valid_q an ad w2 a1 a2 a3 a4).mono ?_
  rw [VA.out]
  rintro e w3 ⟨rfl, HB3⟩
  have F3t := Lib.hid (F2t.out.belowW HB3.out)
  have F3ka := Lib.hid (F2ka.out.belowW HB3.out)
  have F3kb := Lib.hid (F2kb.out.belowW HB3.out)
  have HL3 := Lib.hid (HL2.out.trans (HB3.out.mono HL2.out.size))
  clear F2t F2ka F2kb HL2 HB3
  go_wp2_with fail
  go_ret
  exact ⟨rfl, HL3⟩

set_option maxHeartbeats 16000000 in
set_option maxRecDepth 100000 in
theorem inside_nob (an ad bn bd : Int) (p mo : Nat) (w : World) (hT : RX w) (a1 : -9223372036854775808 ≤ an) (a2 : an ≤ 9223372036854775807) (a3 : -9223372036854775808 ≤ ad) (a4 : ad ≤ 9223372036854775807) (b1 : -9223372036854775808 ≤ bn) (b2 : bn ≤ 9223372036854775807) (b3 : -9223372036854775808 ≤ bd) (b4 : bd ≤ 9223372036854775807) (hp : p < 65536) (hmo : mo < 65536) (ha : vB an ad = true) (hb : vB bn bd = false) :
    Calls Tryz.prog 12 #[.agg #[.int .i64 an, .int .i64 ad], .agg #[.int .i64 bn, .int .i64 bd], .int .u16 p, .int .u16 mo] w (Awk w) := by
  have HT := Lib.hid hT
  clear hT
  have VA := Lib.hid ha
  have VB := Lib.hid hb
  clear ha hb
  go_enter Tryz.func12, Tryz.ntmps12
  go_wp2_with fail
  obtain ⟨w1, hw⟩ : ∃ z9 : World, z9 = ((w.alloc (.cells #[.int .i64 an, .int .i64 ad] 23)).alloc (.cells #[.int .i64 bn, .int .i64 bd] 23)) := ⟨_, rfl⟩
  have HB1 := Lib.hid (show Below w.heap.size w w1 by rw [hw]; exact below_a2 _ _ _)
  have F1t := Lib.hid (HT.out.belowW HB1.out)
  have F1ka := Lib.hid (show Blk w1 (w.heap.size) 23 #[.int .i64 an, .int .i64 ad] by rw [hw]; exact (Blk.new _ _ _).alloc _)
  have F1kb := Lib.hid (show Blk w1 (w.heap.size + 1) 23 #[.int .i64 bn, .int .i64 bd] by rw [hw]; exact Blk.new1 _ _ _ _)
  rw [← hw]
  clear hw
  refine (awake_any w1 F1t.out).mono ?_
  rintro e w2 ⟨rfl, HB2⟩
  have F2t := Lib.hid (F1t.out.belowW HB2.out)
  have F2ka := Lib.hid (F1ka.out.belowW HB2.out)
  have F2kb := Lib.hid (F1kb.out.belowW HB2.out)
  have HL2 := Lib.hid (HB1.out.trans (HB2.out.mono HB1.out.size))
  clear F1t F1ka F1kb HB1 HB2
  have pka0 : w2.cell? ⟨w.heap.size, 0, none⟩ = some (.int .i64 an) := F2ka.out.cell 0
  have pka1 : w2.cell? ⟨w.heap.size, 1, none⟩ = some (.int .i64 ad) := F2ka.out.cell 1
  go_wp2_with fail
  refine (valid_q an ad w2 a1 a2 a3 a4).mono ?_
  rw [VA.out]
  rintro e w3 ⟨rfl, HB3⟩
  have F3t := Lib.hid (F2t.out.belowW HB3.out)
  have F3ka := Lib.hid (F2ka.out.belowW HB3.out)
  have F3kb := Lib.hid (F2kb.out.belowW HB3.out)
  have HL3 := Lib.hid (HL2.out.trans (HB3.out.mono HL2.out.size))
  clear F2t F2ka F2kb HL2 HB3
  clear pka0 pka1
  have pkb0 : w3.cell? ⟨w.heap.size + 1, 0, none⟩ = some (.int .i64 bn) := F3kb.out.cell 0
  have pkb1 : w3.cell? ⟨w.heap.size + 1, 1, none⟩ = some (.int .i64 bd) := F3kb.out.cell 1
  go_wp2_with fail
  refine (valid_q bn bd w3 b1 b2 b3 b4).mono ?_
  rw [VB.out]
  rintro e w4 ⟨rfl, HB4⟩
  have F4t := Lib.hid (F3t.out.belowW HB4.out)
  have F4ka := Lib.hid (F3ka.out.belowW HB4.out)
  have F4kb := Lib.hid (F3kb.out.belowW HB4.out)
  have HL4 := Lib.hid (HL3.out.trans (HB4.out.mono HL3.out.size))
  clear F3t F3ka F3kb HL3 HB4
  go_wp2_with fail
  go_ret
  exact ⟨rfl, HL4⟩

set_option maxHeartbeats 16000000 in
set_option maxRecDepth 100000 in
theorem inside_yes (an ad bn bd : Int) (p mo : Nat) (w : World) (hT : RX w) (a1 : -9223372036854775808 ≤ an) (a2 : an ≤ 9223372036854775807) (a3 : -9223372036854775808 ≤ ad) (a4 : ad ≤ 9223372036854775807) (b1 : -9223372036854775808 ≤ bn) (b2 : bn ≤ 9223372036854775807) (b3 : -9223372036854775808 ≤ bd) (b4 : bd ≤ 9223372036854775807) (hp : p < 65536) (hmo : mo < 65536) (ha : vB an ad = true) (hb : vB bn bd = true) :
    Calls Tryz.prog 12 #[.agg #[.int .i64 an, .int .i64 ad], .agg #[.int .i64 bn, .int .i64 bd], .int .u16 p, .int .u16 mo] w (Awk w) := by
  have HT := Lib.hid hT
  clear hT
  obtain ⟨q, hq⟩ : ∃ q, q = p % 200 := ⟨_, rfl⟩
  obtain ⟨r, hr⟩ : ∃ r, r = mo % 100 := ⟨_, rfl⟩
  obtain ⟨N, hN⟩ : ∃ N, N = 8 + q := ⟨_, rfl⟩
  obtain ⟨M, hM⟩ : ∃ M, M = N + r := ⟨_, rfl⟩
  have N1 : 8 ≤ N := by omega
  have N2 : N ≤ 207 := by omega
  have N3 : N ≤ 512 := by omega
  have M1 : N ≤ M := by omega
  have M2 : M ≤ 512 := by omega
  have M3 : 8 ≤ M := by omega
  have Z1 : (8 : Int) ≤ N := by omega
  have Z2 : (N : Int) ≤ 512 := by omega
  have eq1 : (p : Int) % 200 = (q : Int) := by omega
  have eq2 : (p : Int).tmod 200 = (q : Int) := by rw [Int.tmod_eq_emod_of_nonneg (by omega)]; omega
  have er1 : (mo : Int) % 100 = (r : Int) := by omega
  have er2 : (mo : Int).tmod 100 = (r : Int) := by rw [Int.tmod_eq_emod_of_nonneg (by omega)]; omega
  have eWm : IntKind.i64.wrap (mo : Int) = (mo : Int) := IntWalk.i64_in _ (by omega)
  have eN : (8 : Int) + (q : Int) = (N : Int) := by omega
  have eM : (N : Int) + (r : Int) = (M : Int) := by omega
  have eNw : IntKind.i64.wrap (8 + (q : Int)) = (N : Int) := by rw [eN]; exact IntWalk.i64_in _ (by omega)
  have eMw : IntKind.i64.wrap ((N : Int) + (r : Int)) = (M : Int) := by rw [eM]; exact IntWalk.i64_in _ (by omega)
  have eWM : IntKind.i64.wrap (M : Int) = (M : Int) := IntWalk.i64_in _ (by omega)
  have eWN : IntKind.i64.wrap (N : Int) = (N : Int) := IntWalk.i64_in _ (by omega)
  obtain ⟨x1, hx1⟩ : ∃ x, encE an ad N false = x := ⟨_, rfl⟩
  obtain ⟨x2, hx2⟩ : ∃ x, encE an ad N true = x := ⟨_, rfl⟩
  obtain ⟨y1, hy1⟩ : ∃ x, encE an ad M false = x := ⟨_, rfl⟩
  obtain ⟨y2, hy2⟩ : ∃ x, encE an ad M true = x := ⟨_, rfl⟩
  obtain ⟨z1, hz1⟩ : ∃ x, encE bn bd N false = x := ⟨_, rfl⟩
  obtain ⟨z2, hz2⟩ : ∃ x, encE bn bd N true = x := ⟨_, rfl⟩
  have HX := Lib.hid (show encR an ad N = (x1, x2, false) by rw [encR_eq (vB_iff.1 ha) N1 N3, hx1, hx2])
  have HY := Lib.hid (show encR an ad M = (y1, y2, false) by rw [encR_eq (vB_iff.1 ha) M3 M2, hy1, hy2])
  have HZ := Lib.hid (show encR bn bd N = (z1, z2, false) by rw [encR_eq (vB_iff.1 hb) N1 N3, hz1, hz2])
  have VX1 := Lib.hid (show vld x1 by rw [← hx1]; exact (ins_vld ha N1 N3 false).1)
  have VX2 := Lib.hid (show vld x2 by rw [← hx2]; exact (ins_vld ha N1 N3 true).1)
  have VY1 := Lib.hid (show vld y1 by rw [← hy1]; exact (ins_vld ha M3 M2 false).1)
  have VY2 := Lib.hid (show vld y2 by rw [← hy2]; exact (ins_vld ha M3 M2 true).1)
  have VZ1 := Lib.hid (show vld z1 by rw [← hz1]; exact (ins_vld hb N1 N3 false).1)
  have VZ2 := Lib.hid (show vld z2 by rw [← hz2]; exact (ins_vld hb N1 N3 true).1)
  have HI1 := Lib.hid (show decide ((blen x1.k : Int) ≤ N) = true by rw [← hx1]; have := (ins_vld ha N1 N3 false).2; exact decide_eq_true (by omega))
  have HI2 := Lib.hid (show decide ((blen x2.k : Int) ≤ N) = true by rw [← hx2]; have := (ins_vld ha N1 N3 true).2; exact decide_eq_true (by omega))
  have hcm := ins_cmp ha N1 N3
  have hmo2 := ins_more ha N1 M1 M2
  have hor := ins_order ha hb N1 N3
  obtain ⟨xe, b, hxe⟩ : ∃ xe b, exD an ad = (xe, b) := ⟨_, _, rfl⟩
  have HXE := Lib.hid hxe
  have hpt := ins_point ha N1 N3 hxe
  rw [hx1, hx2] at hcm hpt hmo2 hor
  rw [hy1, hy2] at hmo2
  rw [hz1, hz2] at hor
  obtain ⟨l1, hl1⟩ : ∃ l, cmpRD an ad x1 = l := ⟨_, rfl⟩
  obtain ⟨l2, hl2⟩ : ∃ l, cmpRD an ad x2 = l := ⟨_, rfl⟩
  obtain ⟨k1, hk1⟩ : ∃ l, cmpD x1 y1 = l := ⟨_, rfl⟩
  obtain ⟨k2, hk2⟩ : ∃ l, cmpD x2 y2 = l := ⟨_, rfl⟩
  obtain ⟨o1, ho1⟩ : ∃ l, cmpD x1 z1 = l := ⟨_, rfl⟩
  obtain ⟨o2, ho2⟩ : ∃ l, cmpD x2 z2 = l := ⟨_, rfl⟩
  obtain ⟨co, hco⟩ : ∃ l, cmpE an ad bn bd = l := ⟨_, rfl⟩
  rw [hl1, hl2] at hcm
  rw [hk1, hk2] at hmo2
  rw [ho1, ho2, hco] at hor
  have HL1 := Lib.hid hl1
  have HL2 := Lib.hid hl2
  have HK1 := Lib.hid hk1
  have HK2 := Lib.hid hk2
  have HO1 := Lib.hid ho1
  have HO2 := Lib.hid ho2
  have HCO := Lib.hid hco
  have HSB := Lib.hid (sameB_iff x1 x2 _ hpt)
  obtain ⟨t, ht⟩ : ∃ t, decide (blen xe.k ≤ N) = t := ⟨_, rfl⟩
  rw [ht] at HSB
  have HTT := Lib.hid (show decide ((blen xe.k : Int) ≤ N) = t by rw [← ht, decide_eq_decide]; omega)
  have HOR := Lib.hid hor
  have q1 : decide (l1 < 0) = false := decide_eq_false (by omega)
  have q2 : decide (0 < l2) = false := decide_eq_false (by omega)
  obtain ⟨zz, hzz⟩ : ∃ z, (l2 == 0) = z := ⟨_, rfl⟩
  have q3 : (l1 == 0) = zz := by rw [hcm.2.2, hzz]
  have q4 : decide (0 < k1) = false := decide_eq_false (by omega)
  have q5 : decide (k2 < 0) = false := decide_eq_false (by omega)
  have VA := Lib.hid ha
  have VB := Lib.hid hb
  clear ha hb hcm hmo2 hor hpt hx1 hx2 hy1 hy2 hz1 hz2 hl1 hl2 hk1 hk2 ho1 ho2 hco hxe ht hq hr hN hM
  go_enter Tryz.func12, Tryz.ntmps12
  go_wp2_with fail
  obtain ⟨w1, hw⟩ : ∃ z9 : World, z9 = ((w.alloc (.cells #[.int .i64 an, .int .i64 ad] 23)).alloc (.cells #[.int .i64 bn, .int .i64 bd] 23)) := ⟨_, rfl⟩
  have HB1 := Lib.hid (show Below w.heap.size w w1 by rw [hw]; exact below_a2 _ _ _)
  have F1t := Lib.hid (HT.out.belowW HB1.out)
  have F1ka := Lib.hid (show Blk w1 (w.heap.size) 23 #[.int .i64 an, .int .i64 ad] by rw [hw]; exact (Blk.new _ _ _).alloc _)
  have F1kb := Lib.hid (show Blk w1 (w.heap.size + 1) 23 #[.int .i64 bn, .int .i64 bd] by rw [hw]; exact Blk.new1 _ _ _ _)
  rw [← hw]
  clear hw
  refine (awake_any w1 F1t.out).mono ?_
  rintro e w2 ⟨rfl, HB2⟩
  have F2t := Lib.hid (F1t.out.belowW HB2.out)
  have F2ka := Lib.hid (F1ka.out.belowW HB2.out)
  have F2kb := Lib.hid (F1kb.out.belowW HB2.out)
  have HL2 := Lib.hid (HB1.out.trans (HB2.out.mono HB1.out.size))
  clear F1t F1ka F1kb HB1 HB2
  have pka0 : w2.cell? ⟨w.heap.size, 0, none⟩ = some (.int .i64 an) := F2ka.out.cell 0
  have pka1 : w2.cell? ⟨w.heap.size, 1, none⟩ = some (.int .i64 ad) := F2ka.out.cell 1
  go_wp2_with fail
  refine (valid_q an ad w2 a1 a2 a3 a4).mono ?_
  rw [VA.out]
  rintro e w3 ⟨rfl, HB3⟩
  have F3t := Lib.hid (F2t.out.belowW HB3.out)
  have F3ka := Lib.hid (F2ka.out.belowW HB3.out)
  have F3kb := Lib.hid (F2kb.out.belowW HB3.out)
  have HL3 := Lib.hid (HL2.out.trans (HB3.out.mono HL2.out.size))
  clear F2t F2ka F2kb HL2 HB3
  clear pka0 pka1
  have pkb0 : w3.cell? ⟨w.heap.size + 1, 0, none⟩ = some (.int .i64 bn) := F3kb.out.cell 0
  have pkb1 : w3.cell? ⟨w.heap.size + 1, 1, none⟩ = some (.int .i64 bd) := F3kb.out.cell 1
  go_wp2_with fail
  refine (valid_q bn bd w3 b1 b2 b3 b4).mono ?_
  rw [VB.out]
  rintro e w4 ⟨rfl, HB4⟩
  have F4t := Lib.hid (F3t.out.belowW HB4.out)
  have F4ka := Lib.hid (F3ka.out.belowW HB4.out)
  have F4kb := Lib.hid (F3kb.out.belowW HB4.out)
  have HL4 := Lib.hid (HL3.out.trans (HB4.out.mono HL3.out.size))
  clear F3t F3ka F3kb HL3 HB4
  go_wp2_with fail
  clear pkb0 pkb1
  go_cut [10, 11, 12] (InsCut w4 x1 x2 y1 y2 z1 z2)
  case first =>
    have HR5 := Lib.hid (below_dr w4)
    have R5ka := Lib.hid (F4ka.out.belowW HR5.out)
    have R5kb := Lib.hid (F4kb.out.belowW HR5.out)
    have R5t := Lib.hid (F4t.out.belowW HR5.out)
    refine wp_region_held_drew (S := fun w' => w'.cell? ⟨w.heap.size, 0, none⟩ = some (.int .i64 an) ∧ w'.cell? ⟨w.heap.size, 1, none⟩ = some (.int .i64 ad) ∧ w'.cell? ⟨w.heap.size + 1, 0, none⟩ = some (.int .i64 bn) ∧ w'.cell? ⟨w.heap.size + 1, 1, none⟩ = some (.int .i64 bd)) (by kernel_rfl) ?_ (fun hHeld => ?_)
    case refine_1 => exact ⟨R5ka.out.cell 0, R5ka.out.cell 1, R5kb.out.cell 0, R5kb.out.cell 1⟩
    refine wpAnyH_take (i := 0) (oi := _) (v := ?_) rfl (by kernel_rfl) (by kernel_rfl) (by kernel_rfl) (fun _ _ _ h => h) (Or.inl ⟨by rfl, ?_⟩) (by assumption) ?_
    case refine_2 =>
      intro w9 hSw
      (try dsimp only at hSw)
      go_simp
      (try with_reducible rfl)
    simp only [Act.put, List.setIfInBounds_toArray, List.set_cons_zero, List.set_cons_succ, List.getElem_toArray, List.getElem_cons_zero]
    refine wpAnyH_take (i := 1) (oi := _) (v := ?_) rfl (by kernel_rfl) (by kernel_rfl) (by kernel_rfl) (fun _ _ _ h => h) (Or.inl ⟨by rfl, ?_⟩) (by assumption) ?_
    case refine_2 =>
      intro w9 hSw
      (try dsimp only at hSw)
      go_simp
      (try with_reducible rfl)
    simp only [Act.put, List.setIfInBounds_toArray, List.set_cons_zero, List.set_cons_succ, List.getElem_toArray, List.getElem_cons_zero, List.getElem_cons_succ]
    refine wpAnyH_take (i := 3) (oi := _) (v := ?_) rfl (by kernel_rfl) (by kernel_rfl) (by kernel_rfl) (fun _ _ _ h => h) (Or.inl ⟨by rfl, ?_⟩) (by assumption) ?_
    case refine_2 =>
      intro w9 hSw
      (try dsimp only at hSw)
      go_simp
      (try with_reducible rfl)
    simp only [Act.put, List.setIfInBounds_toArray, List.set_cons_zero, List.set_cons_succ, List.getElem_toArray, List.getElem_cons_zero, List.getElem_cons_succ]
    refine wpAnyH_take (i := 4) (oi := _) (v := ?_) rfl (by kernel_rfl) (by kernel_rfl) (by kernel_rfl) (fun _ _ _ h => h) (Or.inl ⟨by rfl, ?_⟩) (by assumption) ?_
    case refine_2 =>
      intro w9 hSw
      (try dsimp only at hSw)
      go_simp
      (try with_reducible rfl)
    simp only [Act.put, List.setIfInBounds_toArray, List.set_cons_zero, List.set_cons_succ, List.getElem_toArray, List.getElem_cons_zero, List.getElem_cons_succ]
    refine wpAnyH_take (i := 5) (oi := _) (v := ?_) rfl (by kernel_rfl) (by kernel_rfl) (by kernel_rfl) (fun _ _ _ h => h) (Or.inl ⟨by rfl, ?_⟩) (by assumption) ?_
    case refine_2 =>
      intro w9 hSw
      (try dsimp only at hSw)
      go_simp
      (try with_reducible rfl)
    simp only [Act.put, List.setIfInBounds_toArray, List.set_cons_zero, List.set_cons_succ, List.getElem_toArray, List.getElem_cons_zero, List.getElem_cons_succ]
    refine wpAnyH_take (i := 6) (oi := _) (v := ?_) rfl (by kernel_rfl) (by kernel_rfl) (by kernel_rfl) (fun _ _ _ h => h) (Or.inl ⟨by rfl, ?_⟩) (by assumption) ?_
    case refine_2 =>
      intro w9 hSw
      (try dsimp only at hSw)
      go_simp
      (try with_reducible rfl)
    simp only [Act.put, List.setIfInBounds_toArray, List.set_cons_zero, List.set_cons_succ, List.getElem_toArray, List.getElem_cons_zero, List.getElem_cons_succ]
    refine wpAnyH_take (i := 7) (oi := _) (v := ?_) rfl (by kernel_rfl) (by kernel_rfl) (by kernel_rfl) (fun _ _ _ h => h) (Or.inl ⟨by rfl, ?_⟩) (by assumption) ?_
    case refine_2 =>
      intro w9 hSw
      (try dsimp only at hSw)
      go_simp
      (try with_reducible rfl)
    simp only [Act.put, List.setIfInBounds_toArray, List.set_cons_zero, List.set_cons_succ, List.getElem_toArray, List.getElem_cons_zero, List.getElem_cons_succ]
    refine wpAnyH_take (i := 8) (oi := _) (v := ?_) rfl (by kernel_rfl) (by kernel_rfl) (by kernel_rfl) (fun _ _ _ h => h) (Or.inl ⟨by rfl, ?_⟩) (by assumption) ?_
    case refine_2 =>
      intro w9 hSw
      (try dsimp only at hSw)
      go_simp
      (try with_reducible rfl)
    simp only [Act.put, List.setIfInBounds_toArray, List.set_cons_zero, List.set_cons_succ, List.getElem_toArray, List.getElem_cons_zero, List.getElem_cons_succ]
    refine wpAnyH_take (i := 10) (oi := _) (v := ?_) rfl (by kernel_rfl) (by kernel_rfl) (by kernel_rfl) (fun _ _ _ h => h) (Or.inl ⟨by rfl, ?_⟩) (by assumption) ?_
    case refine_2 =>
      intro w9 hSw
      (try dsimp only at hSw)
      go_simp
      (try with_reducible rfl)
    simp only [Act.put, List.setIfInBounds_toArray, List.set_cons_zero, List.set_cons_succ, List.getElem_toArray, List.getElem_cons_zero, List.getElem_cons_succ]
    refine wpAnyH_take (i := 11) (oi := _) (v := ?_) rfl (by kernel_rfl) (by kernel_rfl) (by kernel_rfl) (fun _ _ _ h => h) (Or.inl ⟨by rfl, ?_⟩) (by assumption) ?_
    case refine_2 =>
      intro w9 hSw
      (try dsimp only at hSw)
      go_simp
      (try with_reducible rfl)
    simp only [Act.put, List.setIfInBounds_toArray, List.set_cons_zero, List.set_cons_succ, List.getElem_toArray, List.getElem_cons_zero, List.getElem_cons_succ]
    refine memo_start ?_
    intro G A0 HG HA0
    clear hHeld
    have st_3_012 : ∀ (wr : World) (A1 : Option Addr) (U1 : Option Addr) (n1 : Nat) (c1 : Nat) (m1 : Nat) (d1 : Nat) (A2 : Option Addr) (U2 : Option Addr) (n2 : Nat) (c2 : Nat) (m2 : Nat) (d2 : Nat) (A3 : Option Addr) (U3 : Option Addr) (n3 : Nat) (c3 : Nat) (m3 : Nat) (d3 : Nat) (g0 : Nat) (g1 : Nat) (g2 : Nat), Hid (Below w4.heap.size w4 wr) → Hid (Sl wr A1 n1 c1 (limbs x1.k)) → Hid (Sl wr U1 m1 d1 (limbs x2.k)) → Hid (Sl wr A2 n2 c2 (limbs y1.k)) → Hid (Sl wr U2 m2 d2 (limbs y2.k)) → Hid (Sl wr A3 n3 c3 (limbs z1.k)) → Hid (Sl wr U3 m3 d3 (limbs z2.k)) → Hid (Blk wr g0 30 #[.bool false, .slice none 0 0, .int .i64 0, .bool false, .slice none 0 0, .int .i64 0, .bool false]) → Hid (w4.heap.size ≤ g0) → Hid (Blk wr g1 30 #[.bool false, .slice none 0 0, .int .i64 0, .bool false, .slice none 0 0, .int .i64 0, .bool false]) → Hid (w4.heap.size ≤ g1) → Hid (Blk wr g2 30 #[.bool false, .slice none 0 0, .int .i64 0, .bool false, .slice none 0 0, .int .i64 0, .bool false]) → Hid (w4.heap.size ≤ g2) → g0 ≠ g1 → g0 ≠ g2 → g1 ≠ g2 → G 3 #[true, true, true, true, true, true, true, true, true, true, true, true, true, true, true, true, false, false, false] ((((((A0.put (some 35) (.agg #[.bool x1.neg, .slice A1 n1 c1, .int .i64 x1.e, .bool x2.neg, .slice U1 m1 d1, .int .i64 x2.e, .bool false])).put (some 42) (.agg #[.bool y1.neg, .slice A2 n2 c2, .int .i64 y1.e, .bool y2.neg, .slice U2 m2 d2, .int .i64 y2.e, .bool false])).put (some 45) (.agg #[.bool z1.neg, .slice A3 n3 c3, .int .i64 z1.e, .bool z2.neg, .slice U3 m3 d3, .int .i64 z2.e, .bool false])).put (some 10) (.pointer (some ⟨g0, 0, none⟩))).put (some 11) (.pointer (some ⟨g1, 0, none⟩))).put (some 12) (.pointer (some ⟨g2, 0, none⟩))) wr := by
      intro wr A1 U1 n1 c1 m1 d1 A2 U2 n2 c2 m2 d2 A3 U3 n3 c3 m3 d3 g0 g1 g2 HW Fcsx1 Fcsx2 Fcsy1 Fcsy2 Fcsz1 Fcsz2 B0 L0 B1 L1 B2 L2 n01 n02 n12
      rw [HG.out, HA0.out]
      clear HG HA0
      simp only [Act.put, List.setIfInBounds_toArray, List.set_cons_zero, List.set_cons_succ]
      have Dka := Lib.hid (F4ka.out.belowW HW.out)
      have Dkb := Lib.hid (F4kb.out.belowW HW.out)
      have Dt := Lib.hid (F4t.out.belowW HW.out)
      have zc0 : wr.cell? ⟨g0, 0, none⟩ = some (.bool false) := B0.out.cell 0
      have yc0 : wr.frozen? ⟨g0, 0, none⟩ = false := B0.out.frozen 0
      have zc1 : wr.cell? ⟨g0, 1, none⟩ = some (.slice none 0 0) := B0.out.cell 1
      have yc1 : wr.frozen? ⟨g0, 1, none⟩ = false := B0.out.frozen 1
      have zc2 : wr.cell? ⟨g0, 2, none⟩ = some (.int .i64 0) := B0.out.cell 2
      have yc2 : wr.frozen? ⟨g0, 2, none⟩ = false := B0.out.frozen 2
      have zc3 : wr.cell? ⟨g0, 3, none⟩ = some (.bool false) := B0.out.cell 3
      have yc3 : wr.frozen? ⟨g0, 3, none⟩ = false := B0.out.frozen 3
      have zc4 : wr.cell? ⟨g0, 4, none⟩ = some (.slice none 0 0) := B0.out.cell 4
      have yc4 : wr.frozen? ⟨g0, 4, none⟩ = false := B0.out.frozen 4
      have zc5 : wr.cell? ⟨g0, 5, none⟩ = some (.int .i64 0) := B0.out.cell 5
      have yc5 : wr.frozen? ⟨g0, 5, none⟩ = false := B0.out.frozen 5
      have zc6 : wr.cell? ⟨g0, 6, none⟩ = some (.bool false) := B0.out.cell 6
      have yc6 : wr.frozen? ⟨g0, 6, none⟩ = false := B0.out.frozen 6
      refine wpAnyH_ready (rs := [16]) (by kernel_rfl) (by simp) ?_
      refine AllReadyH.cons rfl (fun K hK => ?_) AllReadyH.nil
      go_simp
      rw [store7_put B0.out]
      have GR := putB_grown wr g0 30 #[.bool x1.neg, .slice A1 n1 c1, .int .i64 x1.e, .bool x2.neg, .slice U1 m1 d1, .int .i64 x2.e, .bool false]
      obtain ⟨v0, hw⟩ : ∃ z9 : World, z9 = putB wr g0 30 #[.bool x1.neg, .slice A1 n1 c1, .int .i64 x1.e, .bool x2.neg, .slice U1 m1 d1, .int .i64 x2.e, .bool false] := ⟨_, rfl⟩
      have HV0 := Lib.hid (show Below w4.heap.size w4 v0 by rw [hw]; exact HW.out.trans (putB_below _ _ _ _ L0.out))
      have BB0 := Lib.hid (show Blk v0 g0 30 #[.bool x1.neg, .slice A1 n1 c1, .int .i64 x1.e, .bool x2.neg, .slice U1 m1 d1, .int .i64 x2.e, .bool false] by rw [hw]; exact B0.out.put _)
      have B1_0 := Lib.hid (show Blk v0 g1 30 #[.bool false, .slice none 0 0, .int .i64 0, .bool false, .slice none 0 0, .int .i64 0, .bool false] by rw [hw]; exact B1.out.far (Ne.symm n01) _)
      have B2_0 := Lib.hid (show Blk v0 g2 30 #[.bool false, .slice none 0 0, .int .i64 0, .bool false, .slice none 0 0, .int .i64 0, .bool false] by rw [hw]; exact B2.out.far (Ne.symm n02) _)
      have F0sx1 := Lib.hid (show Sl v0 A1 n1 c1 (limbs x1.k) by rw [hw]; exact Fcsx1.out.far B0.out noU7 GR)
      have F0sx2 := Lib.hid (show Sl v0 U1 m1 d1 (limbs x2.k) by rw [hw]; exact Fcsx2.out.far B0.out noU7 GR)
      have F0sy1 := Lib.hid (show Sl v0 A2 n2 c2 (limbs y1.k) by rw [hw]; exact Fcsy1.out.far B0.out noU7 GR)
      have F0sy2 := Lib.hid (show Sl v0 U2 m2 d2 (limbs y2.k) by rw [hw]; exact Fcsy2.out.far B0.out noU7 GR)
      have F0sz1 := Lib.hid (show Sl v0 A3 n3 c3 (limbs z1.k) by rw [hw]; exact Fcsz1.out.far B0.out noU7 GR)
      have F0sz2 := Lib.hid (show Sl v0 U3 m3 d3 (limbs z2.k) by rw [hw]; exact Fcsz2.out.far B0.out noU7 GR)
      rw [← hw]
      clear hw GR zc0 yc0 zc1 yc1 zc2 yc2 zc3 yc3 zc4 yc4 zc5 yc5 zc6 yc6
      have D0ka := Lib.hid (F4ka.out.belowW HV0.out)
      have D0kb := Lib.hid (F4kb.out.belowW HV0.out)
      have D0t := Lib.hid (F4t.out.belowW HV0.out)
      refine hK.out _ _ ?_ (fun hHeld => ?_)
      case refine_1 => exact ⟨D0ka.out.cell 0, D0ka.out.cell 1, D0kb.out.cell 0, D0kb.out.cell 1⟩
      clear hK K
      simp only [List.setIfInBounds_toArray, List.set_cons_zero, List.set_cons_succ]
      have zc0 : v0.cell? ⟨g1, 0, none⟩ = some (.bool false) := B1_0.out.cell 0
      have yc0 : v0.frozen? ⟨g1, 0, none⟩ = false := B1_0.out.frozen 0
      have zc1 : v0.cell? ⟨g1, 1, none⟩ = some (.slice none 0 0) := B1_0.out.cell 1
      have yc1 : v0.frozen? ⟨g1, 1, none⟩ = false := B1_0.out.frozen 1
      have zc2 : v0.cell? ⟨g1, 2, none⟩ = some (.int .i64 0) := B1_0.out.cell 2
      have yc2 : v0.frozen? ⟨g1, 2, none⟩ = false := B1_0.out.frozen 2
      have zc3 : v0.cell? ⟨g1, 3, none⟩ = some (.bool false) := B1_0.out.cell 3
      have yc3 : v0.frozen? ⟨g1, 3, none⟩ = false := B1_0.out.frozen 3
      have zc4 : v0.cell? ⟨g1, 4, none⟩ = some (.slice none 0 0) := B1_0.out.cell 4
      have yc4 : v0.frozen? ⟨g1, 4, none⟩ = false := B1_0.out.frozen 4
      have zc5 : v0.cell? ⟨g1, 5, none⟩ = some (.int .i64 0) := B1_0.out.cell 5
      have yc5 : v0.frozen? ⟨g1, 5, none⟩ = false := B1_0.out.frozen 5
      have zc6 : v0.cell? ⟨g1, 6, none⟩ = some (.bool false) := B1_0.out.cell 6
      have yc6 : v0.frozen? ⟨g1, 6, none⟩ = false := B1_0.out.frozen 6
      refine wpAnyH_ready (rs := [17]) (by kernel_rfl) (by simp) ?_
      refine AllReadyH.cons rfl (fun K hK => ?_) AllReadyH.nil
      go_simp
      rw [store7_put B1_0.out]
      have GR := putB_grown v0 g1 30 #[.bool y1.neg, .slice A2 n2 c2, .int .i64 y1.e, .bool y2.neg, .slice U2 m2 d2, .int .i64 y2.e, .bool false]
      obtain ⟨v1, hw⟩ : ∃ z9 : World, z9 = putB v0 g1 30 #[.bool y1.neg, .slice A2 n2 c2, .int .i64 y1.e, .bool y2.neg, .slice U2 m2 d2, .int .i64 y2.e, .bool false] := ⟨_, rfl⟩
      have HV1 := Lib.hid (show Below w4.heap.size w4 v1 by rw [hw]; exact HV0.out.trans (putB_below _ _ _ _ L1.out))
      have BB1 := Lib.hid (show Blk v1 g1 30 #[.bool y1.neg, .slice A2 n2 c2, .int .i64 y1.e, .bool y2.neg, .slice U2 m2 d2, .int .i64 y2.e, .bool false] by rw [hw]; exact B1_0.out.put _)
      have B0_1 := Lib.hid (show Blk v1 g0 30 #[.bool x1.neg, .slice A1 n1 c1, .int .i64 x1.e, .bool x2.neg, .slice U1 m1 d1, .int .i64 x2.e, .bool false] by rw [hw]; exact BB0.out.far n01 _)
      have B2_1 := Lib.hid (show Blk v1 g2 30 #[.bool false, .slice none 0 0, .int .i64 0, .bool false, .slice none 0 0, .int .i64 0, .bool false] by rw [hw]; exact B2_0.out.far (Ne.symm n12) _)
      have F1sx1 := Lib.hid (show Sl v1 A1 n1 c1 (limbs x1.k) by rw [hw]; exact F0sx1.out.far B1_0.out noU7 GR)
      have F1sx2 := Lib.hid (show Sl v1 U1 m1 d1 (limbs x2.k) by rw [hw]; exact F0sx2.out.far B1_0.out noU7 GR)
      have F1sy1 := Lib.hid (show Sl v1 A2 n2 c2 (limbs y1.k) by rw [hw]; exact F0sy1.out.far B1_0.out noU7 GR)
      have F1sy2 := Lib.hid (show Sl v1 U2 m2 d2 (limbs y2.k) by rw [hw]; exact F0sy2.out.far B1_0.out noU7 GR)
      have F1sz1 := Lib.hid (show Sl v1 A3 n3 c3 (limbs z1.k) by rw [hw]; exact F0sz1.out.far B1_0.out noU7 GR)
      have F1sz2 := Lib.hid (show Sl v1 U3 m3 d3 (limbs z2.k) by rw [hw]; exact F0sz2.out.far B1_0.out noU7 GR)
      rw [← hw]
      clear hw GR zc0 yc0 zc1 yc1 zc2 yc2 zc3 yc3 zc4 yc4 zc5 yc5 zc6 yc6
      have D1ka := Lib.hid (F4ka.out.belowW HV1.out)
      have D1kb := Lib.hid (F4kb.out.belowW HV1.out)
      have D1t := Lib.hid (F4t.out.belowW HV1.out)
      refine hK.out _ _ ?_ (fun hHeld => ?_)
      case refine_1 => exact ⟨D1ka.out.cell 0, D1ka.out.cell 1, D1kb.out.cell 0, D1kb.out.cell 1⟩
      clear hK K
      simp only [List.setIfInBounds_toArray, List.set_cons_zero, List.set_cons_succ]
      have zc0 : v1.cell? ⟨g2, 0, none⟩ = some (.bool false) := B2_1.out.cell 0
      have yc0 : v1.frozen? ⟨g2, 0, none⟩ = false := B2_1.out.frozen 0
      have zc1 : v1.cell? ⟨g2, 1, none⟩ = some (.slice none 0 0) := B2_1.out.cell 1
      have yc1 : v1.frozen? ⟨g2, 1, none⟩ = false := B2_1.out.frozen 1
      have zc2 : v1.cell? ⟨g2, 2, none⟩ = some (.int .i64 0) := B2_1.out.cell 2
      have yc2 : v1.frozen? ⟨g2, 2, none⟩ = false := B2_1.out.frozen 2
      have zc3 : v1.cell? ⟨g2, 3, none⟩ = some (.bool false) := B2_1.out.cell 3
      have yc3 : v1.frozen? ⟨g2, 3, none⟩ = false := B2_1.out.frozen 3
      have zc4 : v1.cell? ⟨g2, 4, none⟩ = some (.slice none 0 0) := B2_1.out.cell 4
      have yc4 : v1.frozen? ⟨g2, 4, none⟩ = false := B2_1.out.frozen 4
      have zc5 : v1.cell? ⟨g2, 5, none⟩ = some (.int .i64 0) := B2_1.out.cell 5
      have yc5 : v1.frozen? ⟨g2, 5, none⟩ = false := B2_1.out.frozen 5
      have zc6 : v1.cell? ⟨g2, 6, none⟩ = some (.bool false) := B2_1.out.cell 6
      have yc6 : v1.frozen? ⟨g2, 6, none⟩ = false := B2_1.out.frozen 6
      refine wpAnyH_ready (rs := [18]) (by kernel_rfl) (by simp) ?_
      refine AllReadyH.cons rfl (fun K hK => ?_) AllReadyH.nil
      go_simp
      rw [store7_put B2_1.out]
      have GR := putB_grown v1 g2 30 #[.bool z1.neg, .slice A3 n3 c3, .int .i64 z1.e, .bool z2.neg, .slice U3 m3 d3, .int .i64 z2.e, .bool false]
      obtain ⟨v2, hw⟩ : ∃ z9 : World, z9 = putB v1 g2 30 #[.bool z1.neg, .slice A3 n3 c3, .int .i64 z1.e, .bool z2.neg, .slice U3 m3 d3, .int .i64 z2.e, .bool false] := ⟨_, rfl⟩
      have HV2 := Lib.hid (show Below w4.heap.size w4 v2 by rw [hw]; exact HV1.out.trans (putB_below _ _ _ _ L2.out))
      have BB2 := Lib.hid (show Blk v2 g2 30 #[.bool z1.neg, .slice A3 n3 c3, .int .i64 z1.e, .bool z2.neg, .slice U3 m3 d3, .int .i64 z2.e, .bool false] by rw [hw]; exact B2_1.out.put _)
      have B0_2 := Lib.hid (show Blk v2 g0 30 #[.bool x1.neg, .slice A1 n1 c1, .int .i64 x1.e, .bool x2.neg, .slice U1 m1 d1, .int .i64 x2.e, .bool false] by rw [hw]; exact B0_1.out.far n02 _)
      have B1_2 := Lib.hid (show Blk v2 g1 30 #[.bool y1.neg, .slice A2 n2 c2, .int .i64 y1.e, .bool y2.neg, .slice U2 m2 d2, .int .i64 y2.e, .bool false] by rw [hw]; exact BB1.out.far n12 _)
      have F2sx1 := Lib.hid (show Sl v2 A1 n1 c1 (limbs x1.k) by rw [hw]; exact F1sx1.out.far B2_1.out noU7 GR)
      have F2sx2 := Lib.hid (show Sl v2 U1 m1 d1 (limbs x2.k) by rw [hw]; exact F1sx2.out.far B2_1.out noU7 GR)
      have F2sy1 := Lib.hid (show Sl v2 A2 n2 c2 (limbs y1.k) by rw [hw]; exact F1sy1.out.far B2_1.out noU7 GR)
      have F2sy2 := Lib.hid (show Sl v2 U2 m2 d2 (limbs y2.k) by rw [hw]; exact F1sy2.out.far B2_1.out noU7 GR)
      have F2sz1 := Lib.hid (show Sl v2 A3 n3 c3 (limbs z1.k) by rw [hw]; exact F1sz1.out.far B2_1.out noU7 GR)
      have F2sz2 := Lib.hid (show Sl v2 U3 m3 d3 (limbs z2.k) by rw [hw]; exact F1sz2.out.far B2_1.out noU7 GR)
      rw [← hw]
      clear hw GR zc0 yc0 zc1 yc1 zc2 yc2 zc3 yc3 zc4 yc4 zc5 yc5 zc6 yc6
      have D2ka := Lib.hid (F4ka.out.belowW HV2.out)
      have D2kb := Lib.hid (F4kb.out.belowW HV2.out)
      have D2t := Lib.hid (F4t.out.belowW HV2.out)
      refine hK.out _ _ ?_ (fun hHeld => ?_)
      case refine_1 => exact ⟨D2ka.out.cell 0, D2ka.out.cell 1, D2kb.out.cell 0, D2kb.out.cell 1⟩
      clear hK K
      simp only [List.setIfInBounds_toArray, List.set_cons_zero, List.set_cons_succ]
      refine wpAnyH_done (by kernel_rfl) ?_ _
      go_wp2_with fail
      go_meet
      exact ⟨g0, g1, g2, A1, U1, A2, U2, A3, U3, n1, c1, m1, d1, n2, c2, m2, d2, n3, c3, m3, d3, rfl, rfl, rfl, B0_2, B1_2, BB2, F2sx1, F2sx2, F2sy1, F2sy2, F2sz1, F2sz2, HV2⟩
    have st_3_01 : ∀ (wr : World) (A1 : Option Addr) (U1 : Option Addr) (n1 : Nat) (c1 : Nat) (m1 : Nat) (d1 : Nat) (A2 : Option Addr) (U2 : Option Addr) (n2 : Nat) (c2 : Nat) (m2 : Nat) (d2 : Nat) (A3 : Option Addr) (U3 : Option Addr) (n3 : Nat) (c3 : Nat) (m3 : Nat) (d3 : Nat) (g0 : Nat) (g1 : Nat), Hid (Below w4.heap.size w4 wr) → Hid (Sl wr A1 n1 c1 (limbs x1.k)) → Hid (Sl wr U1 m1 d1 (limbs x2.k)) → Hid (Sl wr A2 n2 c2 (limbs y1.k)) → Hid (Sl wr U2 m2 d2 (limbs y2.k)) → Hid (Sl wr A3 n3 c3 (limbs z1.k)) → Hid (Sl wr U3 m3 d3 (limbs z2.k)) → Hid (Blk wr g0 30 #[.bool false, .slice none 0 0, .int .i64 0, .bool false, .slice none 0 0, .int .i64 0, .bool false]) → Hid (w4.heap.size ≤ g0) → Hid (Blk wr g1 30 #[.bool false, .slice none 0 0, .int .i64 0, .bool false, .slice none 0 0, .int .i64 0, .bool false]) → Hid (w4.heap.size ≤ g1) → g0 ≠ g1 → G 4 #[true, true, true, true, true, true, true, true, true, true, true, true, true, true, true, false, false, false, false] (((((A0.put (some 35) (.agg #[.bool x1.neg, .slice A1 n1 c1, .int .i64 x1.e, .bool x2.neg, .slice U1 m1 d1, .int .i64 x2.e, .bool false])).put (some 42) (.agg #[.bool y1.neg, .slice A2 n2 c2, .int .i64 y1.e, .bool y2.neg, .slice U2 m2 d2, .int .i64 y2.e, .bool false])).put (some 45) (.agg #[.bool z1.neg, .slice A3 n3 c3, .int .i64 z1.e, .bool z2.neg, .slice U3 m3 d3, .int .i64 z2.e, .bool false])).put (some 10) (.pointer (some ⟨g0, 0, none⟩))).put (some 11) (.pointer (some ⟨g1, 0, none⟩))) wr := by
      intro wr A1 U1 n1 c1 m1 d1 A2 U2 n2 c2 m2 d2 A3 U3 n3 c3 m3 d3 g0 g1 HW Fcsx1 Fcsx2 Fcsy1 Fcsy2 Fcsz1 Fcsz2 B0 L0 B1 L1 n01
      rw [HG.out, HA0.out]
      simp only [Act.put, List.setIfInBounds_toArray, List.set_cons_zero, List.set_cons_succ]
      have Dka := Lib.hid (F4ka.out.belowW HW.out)
      have Dkb := Lib.hid (F4kb.out.belowW HW.out)
      have Dt := Lib.hid (F4t.out.belowW HW.out)
      refine wpAnyH_ready (rs := [15]) (by kernel_rfl) (by simp) ?_
      refine AllReadyH.cons rfl (fun K hK => ?_) ?_
      case refine_1 =>
        go_simp
        have HX := Lib.hid (below_a1 wr (.cells #[.bool false, .slice none 0 0, .int .i64 0, .bool false, .slice none 0 0, .int .i64 0, .bool false] 30))
        have HWn := Lib.hid (HW.out.trans (HX.out.mono HW.out.size))
        refine hK.out _ _ ?_ (fun hHeld => ?_)
        case refine_1 =>
          have D2ka := Lib.hid (F4ka.out.belowW HWn.out)
          have D2kb := Lib.hid (F4kb.out.belowW HWn.out)
          have D2t := Lib.hid (F4t.out.belowW HWn.out)
          exact ⟨D2ka.out.cell 0, D2ka.out.cell 1, D2kb.out.cell 0, D2kb.out.cell 1⟩
        clear hK K
        simp only [List.setIfInBounds_toArray, List.set_cons_zero, List.set_cons_succ]
        have h9 := st_3_012 ((wr.alloc (.cells #[.bool false, .slice none 0 0, .int .i64 0, .bool false, .slice none 0 0, .int .i64 0, .bool false] 30))) A1 U1 n1 c1 m1 d1 A2 U2 n2 c2 m2 d2 A3 U3 n3 c3 m3 d3 g0 g1 wr.heap.size HWn (Lib.hid (Fcsx1.out.belowW HX.out)) (Lib.hid (Fcsx2.out.belowW HX.out)) (Lib.hid (Fcsy1.out.belowW HX.out)) (Lib.hid (Fcsy2.out.belowW HX.out)) (Lib.hid (Fcsz1.out.belowW HX.out)) (Lib.hid (Fcsz2.out.belowW HX.out)) (Lib.hid (B0.out.belowW HX.out)) L0 (Lib.hid (B1.out.belowW HX.out)) L1 (Lib.hid (Blk.new _ _ _)) (Lib.hid HW.out.size) n01 (Nat.ne_of_lt B0.out.lt) (Nat.ne_of_lt B1.out.lt)
        rw [HG.out, HA0.out] at h9
        simp only [Act.put, List.setIfInBounds_toArray, List.set_cons_zero, List.set_cons_succ] at h9
        exact h9
      exact AllReadyH.nil
    have st_3_02 : ∀ (wr : World) (A1 : Option Addr) (U1 : Option Addr) (n1 : Nat) (c1 : Nat) (m1 : Nat) (d1 : Nat) (A2 : Option Addr) (U2 : Option Addr) (n2 : Nat) (c2 : Nat) (m2 : Nat) (d2 : Nat) (A3 : Option Addr) (U3 : Option Addr) (n3 : Nat) (c3 : Nat) (m3 : Nat) (d3 : Nat) (g0 : Nat) (g2 : Nat), Hid (Below w4.heap.size w4 wr) → Hid (Sl wr A1 n1 c1 (limbs x1.k)) → Hid (Sl wr U1 m1 d1 (limbs x2.k)) → Hid (Sl wr A2 n2 c2 (limbs y1.k)) → Hid (Sl wr U2 m2 d2 (limbs y2.k)) → Hid (Sl wr A3 n3 c3 (limbs z1.k)) → Hid (Sl wr U3 m3 d3 (limbs z2.k)) → Hid (Blk wr g0 30 #[.bool false, .slice none 0 0, .int .i64 0, .bool false, .slice none 0 0, .int .i64 0, .bool false]) → Hid (w4.heap.size ≤ g0) → Hid (Blk wr g2 30 #[.bool false, .slice none 0 0, .int .i64 0, .bool false, .slice none 0 0, .int .i64 0, .bool false]) → Hid (w4.heap.size ≤ g2) → g0 ≠ g2 → G 4 #[true, true, true, true, true, true, true, true, true, true, true, true, true, true, false, true, false, false, false] (((((A0.put (some 35) (.agg #[.bool x1.neg, .slice A1 n1 c1, .int .i64 x1.e, .bool x2.neg, .slice U1 m1 d1, .int .i64 x2.e, .bool false])).put (some 42) (.agg #[.bool y1.neg, .slice A2 n2 c2, .int .i64 y1.e, .bool y2.neg, .slice U2 m2 d2, .int .i64 y2.e, .bool false])).put (some 45) (.agg #[.bool z1.neg, .slice A3 n3 c3, .int .i64 z1.e, .bool z2.neg, .slice U3 m3 d3, .int .i64 z2.e, .bool false])).put (some 10) (.pointer (some ⟨g0, 0, none⟩))).put (some 12) (.pointer (some ⟨g2, 0, none⟩))) wr := by
      intro wr A1 U1 n1 c1 m1 d1 A2 U2 n2 c2 m2 d2 A3 U3 n3 c3 m3 d3 g0 g2 HW Fcsx1 Fcsx2 Fcsy1 Fcsy2 Fcsz1 Fcsz2 B0 L0 B2 L2 n02
      rw [HG.out, HA0.out]
      simp only [Act.put, List.setIfInBounds_toArray, List.set_cons_zero, List.set_cons_succ]
      have Dka := Lib.hid (F4ka.out.belowW HW.out)
      have Dkb := Lib.hid (F4kb.out.belowW HW.out)
      have Dt := Lib.hid (F4t.out.belowW HW.out)
      refine wpAnyH_ready (rs := [14]) (by kernel_rfl) (by simp) ?_
      refine AllReadyH.cons rfl (fun K hK => ?_) ?_
      case refine_1 =>
        go_simp
        have HX := Lib.hid (below_a1 wr (.cells #[.bool false, .slice none 0 0, .int .i64 0, .bool false, .slice none 0 0, .int .i64 0, .bool false] 30))
        have HWn := Lib.hid (HW.out.trans (HX.out.mono HW.out.size))
        refine hK.out _ _ ?_ (fun hHeld => ?_)
        case refine_1 =>
          have D2ka := Lib.hid (F4ka.out.belowW HWn.out)
          have D2kb := Lib.hid (F4kb.out.belowW HWn.out)
          have D2t := Lib.hid (F4t.out.belowW HWn.out)
          exact ⟨D2ka.out.cell 0, D2ka.out.cell 1, D2kb.out.cell 0, D2kb.out.cell 1⟩
        clear hK K
        simp only [List.setIfInBounds_toArray, List.set_cons_zero, List.set_cons_succ]
        have h9 := st_3_012 ((wr.alloc (.cells #[.bool false, .slice none 0 0, .int .i64 0, .bool false, .slice none 0 0, .int .i64 0, .bool false] 30))) A1 U1 n1 c1 m1 d1 A2 U2 n2 c2 m2 d2 A3 U3 n3 c3 m3 d3 g0 wr.heap.size g2 HWn (Lib.hid (Fcsx1.out.belowW HX.out)) (Lib.hid (Fcsx2.out.belowW HX.out)) (Lib.hid (Fcsy1.out.belowW HX.out)) (Lib.hid (Fcsy2.out.belowW HX.out)) (Lib.hid (Fcsz1.out.belowW HX.out)) (Lib.hid (Fcsz2.out.belowW HX.out)) (Lib.hid (B0.out.belowW HX.out)) L0 (Lib.hid (Blk.new _ _ _)) (Lib.hid HW.out.size) (Lib.hid (B2.out.belowW HX.out)) L2 (Nat.ne_of_lt B0.out.lt) n02 (Nat.ne_of_gt B2.out.lt)
        rw [HG.out, HA0.out] at h9
        simp only [Act.put, List.setIfInBounds_toArray, List.set_cons_zero, List.set_cons_succ] at h9
        exact h9
      exact AllReadyH.nil
    have st_3_12 : ∀ (wr : World) (A1 : Option Addr) (U1 : Option Addr) (n1 : Nat) (c1 : Nat) (m1 : Nat) (d1 : Nat) (A2 : Option Addr) (U2 : Option Addr) (n2 : Nat) (c2 : Nat) (m2 : Nat) (d2 : Nat) (A3 : Option Addr) (U3 : Option Addr) (n3 : Nat) (c3 : Nat) (m3 : Nat) (d3 : Nat) (g1 : Nat) (g2 : Nat), Hid (Below w4.heap.size w4 wr) → Hid (Sl wr A1 n1 c1 (limbs x1.k)) → Hid (Sl wr U1 m1 d1 (limbs x2.k)) → Hid (Sl wr A2 n2 c2 (limbs y1.k)) → Hid (Sl wr U2 m2 d2 (limbs y2.k)) → Hid (Sl wr A3 n3 c3 (limbs z1.k)) → Hid (Sl wr U3 m3 d3 (limbs z2.k)) → Hid (Blk wr g1 30 #[.bool false, .slice none 0 0, .int .i64 0, .bool false, .slice none 0 0, .int .i64 0, .bool false]) → Hid (w4.heap.size ≤ g1) → Hid (Blk wr g2 30 #[.bool false, .slice none 0 0, .int .i64 0, .bool false, .slice none 0 0, .int .i64 0, .bool false]) → Hid (w4.heap.size ≤ g2) → g1 ≠ g2 → G 4 #[true, true, true, true, true, true, true, true, true, true, true, true, true, false, true, true, false, false, false] (((((A0.put (some 35) (.agg #[.bool x1.neg, .slice A1 n1 c1, .int .i64 x1.e, .bool x2.neg, .slice U1 m1 d1, .int .i64 x2.e, .bool false])).put (some 42) (.agg #[.bool y1.neg, .slice A2 n2 c2, .int .i64 y1.e, .bool y2.neg, .slice U2 m2 d2, .int .i64 y2.e, .bool false])).put (some 45) (.agg #[.bool z1.neg, .slice A3 n3 c3, .int .i64 z1.e, .bool z2.neg, .slice U3 m3 d3, .int .i64 z2.e, .bool false])).put (some 11) (.pointer (some ⟨g1, 0, none⟩))).put (some 12) (.pointer (some ⟨g2, 0, none⟩))) wr := by
      intro wr A1 U1 n1 c1 m1 d1 A2 U2 n2 c2 m2 d2 A3 U3 n3 c3 m3 d3 g1 g2 HW Fcsx1 Fcsx2 Fcsy1 Fcsy2 Fcsz1 Fcsz2 B1 L1 B2 L2 n12
      rw [HG.out, HA0.out]
      simp only [Act.put, List.setIfInBounds_toArray, List.set_cons_zero, List.set_cons_succ]
      have Dka := Lib.hid (F4ka.out.belowW HW.out)
      have Dkb := Lib.hid (F4kb.out.belowW HW.out)
      have Dt := Lib.hid (F4t.out.belowW HW.out)
      refine wpAnyH_ready (rs := [13]) (by kernel_rfl) (by simp) ?_
      refine AllReadyH.cons rfl (fun K hK => ?_) ?_
      case refine_1 =>
        go_simp
        have HX := Lib.hid (below_a1 wr (.cells #[.bool false, .slice none 0 0, .int .i64 0, .bool false, .slice none 0 0, .int .i64 0, .bool false] 30))
        have HWn := Lib.hid (HW.out.trans (HX.out.mono HW.out.size))
        refine hK.out _ _ ?_ (fun hHeld => ?_)
        case refine_1 =>
          have D2ka := Lib.hid (F4ka.out.belowW HWn.out)
          have D2kb := Lib.hid (F4kb.out.belowW HWn.out)
          have D2t := Lib.hid (F4t.out.belowW HWn.out)
          exact ⟨D2ka.out.cell 0, D2ka.out.cell 1, D2kb.out.cell 0, D2kb.out.cell 1⟩
        clear hK K
        simp only [List.setIfInBounds_toArray, List.set_cons_zero, List.set_cons_succ]
        have h9 := st_3_012 ((wr.alloc (.cells #[.bool false, .slice none 0 0, .int .i64 0, .bool false, .slice none 0 0, .int .i64 0, .bool false] 30))) A1 U1 n1 c1 m1 d1 A2 U2 n2 c2 m2 d2 A3 U3 n3 c3 m3 d3 wr.heap.size g1 g2 HWn (Lib.hid (Fcsx1.out.belowW HX.out)) (Lib.hid (Fcsx2.out.belowW HX.out)) (Lib.hid (Fcsy1.out.belowW HX.out)) (Lib.hid (Fcsy2.out.belowW HX.out)) (Lib.hid (Fcsz1.out.belowW HX.out)) (Lib.hid (Fcsz2.out.belowW HX.out)) (Lib.hid (Blk.new _ _ _)) (Lib.hid HW.out.size) (Lib.hid (B1.out.belowW HX.out)) L1 (Lib.hid (B2.out.belowW HX.out)) L2 (Nat.ne_of_gt B1.out.lt) (Nat.ne_of_gt B2.out.lt) n12
        rw [HG.out, HA0.out] at h9
        simp only [Act.put, List.setIfInBounds_toArray, List.set_cons_zero, List.set_cons_succ] at h9
        exact h9
      exact AllReadyH.nil
    have st_3_0 : ∀ (wr : World) (A1 : Option Addr) (U1 : Option Addr) (n1 : Nat) (c1 : Nat) (m1 : Nat) (d1 : Nat) (A2 : Option Addr) (U2 : Option Addr) (n2 : Nat) (c2 : Nat) (m2 : Nat) (d2 : Nat) (A3 : Option Addr) (U3 : Option Addr) (n3 : Nat) (c3 : Nat) (m3 : Nat) (d3 : Nat) (g0 : Nat), Hid (Below w4.heap.size w4 wr) → Hid (Sl wr A1 n1 c1 (limbs x1.k)) → Hid (Sl wr U1 m1 d1 (limbs x2.k)) → Hid (Sl wr A2 n2 c2 (limbs y1.k)) → Hid (Sl wr U2 m2 d2 (limbs y2.k)) → Hid (Sl wr A3 n3 c3 (limbs z1.k)) → Hid (Sl wr U3 m3 d3 (limbs z2.k)) → Hid (Blk wr g0 30 #[.bool false, .slice none 0 0, .int .i64 0, .bool false, .slice none 0 0, .int .i64 0, .bool false]) → Hid (w4.heap.size ≤ g0) → G 5 #[true, true, true, true, true, true, true, true, true, true, true, true, true, true, false, false, false, false, false] ((((A0.put (some 35) (.agg #[.bool x1.neg, .slice A1 n1 c1, .int .i64 x1.e, .bool x2.neg, .slice U1 m1 d1, .int .i64 x2.e, .bool false])).put (some 42) (.agg #[.bool y1.neg, .slice A2 n2 c2, .int .i64 y1.e, .bool y2.neg, .slice U2 m2 d2, .int .i64 y2.e, .bool false])).put (some 45) (.agg #[.bool z1.neg, .slice A3 n3 c3, .int .i64 z1.e, .bool z2.neg, .slice U3 m3 d3, .int .i64 z2.e, .bool false])).put (some 10) (.pointer (some ⟨g0, 0, none⟩))) wr := by
      intro wr A1 U1 n1 c1 m1 d1 A2 U2 n2 c2 m2 d2 A3 U3 n3 c3 m3 d3 g0 HW Fcsx1 Fcsx2 Fcsy1 Fcsy2 Fcsz1 Fcsz2 B0 L0
      rw [HG.out, HA0.out]
      simp only [Act.put, List.setIfInBounds_toArray, List.set_cons_zero, List.set_cons_succ]
      have Dka := Lib.hid (F4ka.out.belowW HW.out)
      have Dkb := Lib.hid (F4kb.out.belowW HW.out)
      have Dt := Lib.hid (F4t.out.belowW HW.out)
      refine wpAnyH_ready (rs := [14, 15]) (by kernel_rfl) (by simp) ?_
      refine AllReadyH.cons rfl (fun K hK => ?_) ?_
      case refine_1 =>
        go_simp
        have HX := Lib.hid (below_a1 wr (.cells #[.bool false, .slice none 0 0, .int .i64 0, .bool false, .slice none 0 0, .int .i64 0, .bool false] 30))
        have HWn := Lib.hid (HW.out.trans (HX.out.mono HW.out.size))
        refine hK.out _ _ ?_ (fun hHeld => ?_)
        case refine_1 =>
          have D2ka := Lib.hid (F4ka.out.belowW HWn.out)
          have D2kb := Lib.hid (F4kb.out.belowW HWn.out)
          have D2t := Lib.hid (F4t.out.belowW HWn.out)
          exact ⟨D2ka.out.cell 0, D2ka.out.cell 1, D2kb.out.cell 0, D2kb.out.cell 1⟩
        clear hK K
        simp only [List.setIfInBounds_toArray, List.set_cons_zero, List.set_cons_succ]
        have h9 := st_3_01 ((wr.alloc (.cells #[.bool false, .slice none 0 0, .int .i64 0, .bool false, .slice none 0 0, .int .i64 0, .bool false] 30))) A1 U1 n1 c1 m1 d1 A2 U2 n2 c2 m2 d2 A3 U3 n3 c3 m3 d3 g0 wr.heap.size HWn (Lib.hid (Fcsx1.out.belowW HX.out)) (Lib.hid (Fcsx2.out.belowW HX.out)) (Lib.hid (Fcsy1.out.belowW HX.out)) (Lib.hid (Fcsy2.out.belowW HX.out)) (Lib.hid (Fcsz1.out.belowW HX.out)) (Lib.hid (Fcsz2.out.belowW HX.out)) (Lib.hid (B0.out.belowW HX.out)) L0 (Lib.hid (Blk.new _ _ _)) (Lib.hid HW.out.size) (Nat.ne_of_lt B0.out.lt)
        rw [HG.out, HA0.out] at h9
        simp only [Act.put, List.setIfInBounds_toArray, List.set_cons_zero, List.set_cons_succ] at h9
        exact h9
      refine AllReadyH.cons rfl (fun K hK => ?_) ?_
      case refine_1 =>
        go_simp
        have HX := Lib.hid (below_a1 wr (.cells #[.bool false, .slice none 0 0, .int .i64 0, .bool false, .slice none 0 0, .int .i64 0, .bool false] 30))
        have HWn := Lib.hid (HW.out.trans (HX.out.mono HW.out.size))
        refine hK.out _ _ ?_ (fun hHeld => ?_)
        case refine_1 =>
          have D2ka := Lib.hid (F4ka.out.belowW HWn.out)
          have D2kb := Lib.hid (F4kb.out.belowW HWn.out)
          have D2t := Lib.hid (F4t.out.belowW HWn.out)
          exact ⟨D2ka.out.cell 0, D2ka.out.cell 1, D2kb.out.cell 0, D2kb.out.cell 1⟩
        clear hK K
        simp only [List.setIfInBounds_toArray, List.set_cons_zero, List.set_cons_succ]
        have h9 := st_3_02 ((wr.alloc (.cells #[.bool false, .slice none 0 0, .int .i64 0, .bool false, .slice none 0 0, .int .i64 0, .bool false] 30))) A1 U1 n1 c1 m1 d1 A2 U2 n2 c2 m2 d2 A3 U3 n3 c3 m3 d3 g0 wr.heap.size HWn (Lib.hid (Fcsx1.out.belowW HX.out)) (Lib.hid (Fcsx2.out.belowW HX.out)) (Lib.hid (Fcsy1.out.belowW HX.out)) (Lib.hid (Fcsy2.out.belowW HX.out)) (Lib.hid (Fcsz1.out.belowW HX.out)) (Lib.hid (Fcsz2.out.belowW HX.out)) (Lib.hid (B0.out.belowW HX.out)) L0 (Lib.hid (Blk.new _ _ _)) (Lib.hid HW.out.size) (Nat.ne_of_lt B0.out.lt)
        rw [HG.out, HA0.out] at h9
        simp only [Act.put, List.setIfInBounds_toArray, List.set_cons_zero, List.set_cons_succ] at h9
        exact h9
      exact AllReadyH.nil
    have st_3_1 : ∀ (wr : World) (A1 : Option Addr) (U1 : Option Addr) (n1 : Nat) (c1 : Nat) (m1 : Nat) (d1 : Nat) (A2 : Option Addr) (U2 : Option Addr) (n2 : Nat) (c2 : Nat) (m2 : Nat) (d2 : Nat) (A3 : Option Addr) (U3 : Option Addr) (n3 : Nat) (c3 : Nat) (m3 : Nat) (d3 : Nat) (g1 : Nat), Hid (Below w4.heap.size w4 wr) → Hid (Sl wr A1 n1 c1 (limbs x1.k)) → Hid (Sl wr U1 m1 d1 (limbs x2.k)) → Hid (Sl wr A2 n2 c2 (limbs y1.k)) → Hid (Sl wr U2 m2 d2 (limbs y2.k)) → Hid (Sl wr A3 n3 c3 (limbs z1.k)) → Hid (Sl wr U3 m3 d3 (limbs z2.k)) → Hid (Blk wr g1 30 #[.bool false, .slice none 0 0, .int .i64 0, .bool false, .slice none 0 0, .int .i64 0, .bool false]) → Hid (w4.heap.size ≤ g1) → G 5 #[true, true, true, true, true, true, true, true, true, true, true, true, true, false, true, false, false, false, false] ((((A0.put (some 35) (.agg #[.bool x1.neg, .slice A1 n1 c1, .int .i64 x1.e, .bool x2.neg, .slice U1 m1 d1, .int .i64 x2.e, .bool false])).put (some 42) (.agg #[.bool y1.neg, .slice A2 n2 c2, .int .i64 y1.e, .bool y2.neg, .slice U2 m2 d2, .int .i64 y2.e, .bool false])).put (some 45) (.agg #[.bool z1.neg, .slice A3 n3 c3, .int .i64 z1.e, .bool z2.neg, .slice U3 m3 d3, .int .i64 z2.e, .bool false])).put (some 11) (.pointer (some ⟨g1, 0, none⟩))) wr := by
      intro wr A1 U1 n1 c1 m1 d1 A2 U2 n2 c2 m2 d2 A3 U3 n3 c3 m3 d3 g1 HW Fcsx1 Fcsx2 Fcsy1 Fcsy2 Fcsz1 Fcsz2 B1 L1
      rw [HG.out, HA0.out]
      simp only [Act.put, List.setIfInBounds_toArray, List.set_cons_zero, List.set_cons_succ]
      have Dka := Lib.hid (F4ka.out.belowW HW.out)
      have Dkb := Lib.hid (F4kb.out.belowW HW.out)
      have Dt := Lib.hid (F4t.out.belowW HW.out)
      refine wpAnyH_ready (rs := [13, 15]) (by kernel_rfl) (by simp) ?_
      refine AllReadyH.cons rfl (fun K hK => ?_) ?_
      case refine_1 =>
        go_simp
        have HX := Lib.hid (below_a1 wr (.cells #[.bool false, .slice none 0 0, .int .i64 0, .bool false, .slice none 0 0, .int .i64 0, .bool false] 30))
        have HWn := Lib.hid (HW.out.trans (HX.out.mono HW.out.size))
        refine hK.out _ _ ?_ (fun hHeld => ?_)
        case refine_1 =>
          have D2ka := Lib.hid (F4ka.out.belowW HWn.out)
          have D2kb := Lib.hid (F4kb.out.belowW HWn.out)
          have D2t := Lib.hid (F4t.out.belowW HWn.out)
          exact ⟨D2ka.out.cell 0, D2ka.out.cell 1, D2kb.out.cell 0, D2kb.out.cell 1⟩
        clear hK K
        simp only [List.setIfInBounds_toArray, List.set_cons_zero, List.set_cons_succ]
        have h9 := st_3_01 ((wr.alloc (.cells #[.bool false, .slice none 0 0, .int .i64 0, .bool false, .slice none 0 0, .int .i64 0, .bool false] 30))) A1 U1 n1 c1 m1 d1 A2 U2 n2 c2 m2 d2 A3 U3 n3 c3 m3 d3 wr.heap.size g1 HWn (Lib.hid (Fcsx1.out.belowW HX.out)) (Lib.hid (Fcsx2.out.belowW HX.out)) (Lib.hid (Fcsy1.out.belowW HX.out)) (Lib.hid (Fcsy2.out.belowW HX.out)) (Lib.hid (Fcsz1.out.belowW HX.out)) (Lib.hid (Fcsz2.out.belowW HX.out)) (Lib.hid (Blk.new _ _ _)) (Lib.hid HW.out.size) (Lib.hid (B1.out.belowW HX.out)) L1 (Nat.ne_of_gt B1.out.lt)
        rw [HG.out, HA0.out] at h9
        simp only [Act.put, List.setIfInBounds_toArray, List.set_cons_zero, List.set_cons_succ] at h9
        exact h9
      refine AllReadyH.cons rfl (fun K hK => ?_) ?_
      case refine_1 =>
        go_simp
        have HX := Lib.hid (below_a1 wr (.cells #[.bool false, .slice none 0 0, .int .i64 0, .bool false, .slice none 0 0, .int .i64 0, .bool false] 30))
        have HWn := Lib.hid (HW.out.trans (HX.out.mono HW.out.size))
        refine hK.out _ _ ?_ (fun hHeld => ?_)
        case refine_1 =>
          have D2ka := Lib.hid (F4ka.out.belowW HWn.out)
          have D2kb := Lib.hid (F4kb.out.belowW HWn.out)
          have D2t := Lib.hid (F4t.out.belowW HWn.out)
          exact ⟨D2ka.out.cell 0, D2ka.out.cell 1, D2kb.out.cell 0, D2kb.out.cell 1⟩
        clear hK K
        simp only [List.setIfInBounds_toArray, List.set_cons_zero, List.set_cons_succ]
        have h9 := st_3_12 ((wr.alloc (.cells #[.bool false, .slice none 0 0, .int .i64 0, .bool false, .slice none 0 0, .int .i64 0, .bool false] 30))) A1 U1 n1 c1 m1 d1 A2 U2 n2 c2 m2 d2 A3 U3 n3 c3 m3 d3 g1 wr.heap.size HWn (Lib.hid (Fcsx1.out.belowW HX.out)) (Lib.hid (Fcsx2.out.belowW HX.out)) (Lib.hid (Fcsy1.out.belowW HX.out)) (Lib.hid (Fcsy2.out.belowW HX.out)) (Lib.hid (Fcsz1.out.belowW HX.out)) (Lib.hid (Fcsz2.out.belowW HX.out)) (Lib.hid (B1.out.belowW HX.out)) L1 (Lib.hid (Blk.new _ _ _)) (Lib.hid HW.out.size) (Nat.ne_of_lt B1.out.lt)
        rw [HG.out, HA0.out] at h9
        simp only [Act.put, List.setIfInBounds_toArray, List.set_cons_zero, List.set_cons_succ] at h9
        exact h9
      exact AllReadyH.nil
    have st_3_2 : ∀ (wr : World) (A1 : Option Addr) (U1 : Option Addr) (n1 : Nat) (c1 : Nat) (m1 : Nat) (d1 : Nat) (A2 : Option Addr) (U2 : Option Addr) (n2 : Nat) (c2 : Nat) (m2 : Nat) (d2 : Nat) (A3 : Option Addr) (U3 : Option Addr) (n3 : Nat) (c3 : Nat) (m3 : Nat) (d3 : Nat) (g2 : Nat), Hid (Below w4.heap.size w4 wr) → Hid (Sl wr A1 n1 c1 (limbs x1.k)) → Hid (Sl wr U1 m1 d1 (limbs x2.k)) → Hid (Sl wr A2 n2 c2 (limbs y1.k)) → Hid (Sl wr U2 m2 d2 (limbs y2.k)) → Hid (Sl wr A3 n3 c3 (limbs z1.k)) → Hid (Sl wr U3 m3 d3 (limbs z2.k)) → Hid (Blk wr g2 30 #[.bool false, .slice none 0 0, .int .i64 0, .bool false, .slice none 0 0, .int .i64 0, .bool false]) → Hid (w4.heap.size ≤ g2) → G 5 #[true, true, true, true, true, true, true, true, true, true, true, true, true, false, false, true, false, false, false] ((((A0.put (some 35) (.agg #[.bool x1.neg, .slice A1 n1 c1, .int .i64 x1.e, .bool x2.neg, .slice U1 m1 d1, .int .i64 x2.e, .bool false])).put (some 42) (.agg #[.bool y1.neg, .slice A2 n2 c2, .int .i64 y1.e, .bool y2.neg, .slice U2 m2 d2, .int .i64 y2.e, .bool false])).put (some 45) (.agg #[.bool z1.neg, .slice A3 n3 c3, .int .i64 z1.e, .bool z2.neg, .slice U3 m3 d3, .int .i64 z2.e, .bool false])).put (some 12) (.pointer (some ⟨g2, 0, none⟩))) wr := by
      intro wr A1 U1 n1 c1 m1 d1 A2 U2 n2 c2 m2 d2 A3 U3 n3 c3 m3 d3 g2 HW Fcsx1 Fcsx2 Fcsy1 Fcsy2 Fcsz1 Fcsz2 B2 L2
      rw [HG.out, HA0.out]
      simp only [Act.put, List.setIfInBounds_toArray, List.set_cons_zero, List.set_cons_succ]
      have Dka := Lib.hid (F4ka.out.belowW HW.out)
      have Dkb := Lib.hid (F4kb.out.belowW HW.out)
      have Dt := Lib.hid (F4t.out.belowW HW.out)
      refine wpAnyH_ready (rs := [13, 14]) (by kernel_rfl) (by simp) ?_
      refine AllReadyH.cons rfl (fun K hK => ?_) ?_
      case refine_1 =>
        go_simp
        have HX := Lib.hid (below_a1 wr (.cells #[.bool false, .slice none 0 0, .int .i64 0, .bool false, .slice none 0 0, .int .i64 0, .bool false] 30))
        have HWn := Lib.hid (HW.out.trans (HX.out.mono HW.out.size))
        refine hK.out _ _ ?_ (fun hHeld => ?_)
        case refine_1 =>
          have D2ka := Lib.hid (F4ka.out.belowW HWn.out)
          have D2kb := Lib.hid (F4kb.out.belowW HWn.out)
          have D2t := Lib.hid (F4t.out.belowW HWn.out)
          exact ⟨D2ka.out.cell 0, D2ka.out.cell 1, D2kb.out.cell 0, D2kb.out.cell 1⟩
        clear hK K
        simp only [List.setIfInBounds_toArray, List.set_cons_zero, List.set_cons_succ]
        have h9 := st_3_02 ((wr.alloc (.cells #[.bool false, .slice none 0 0, .int .i64 0, .bool false, .slice none 0 0, .int .i64 0, .bool false] 30))) A1 U1 n1 c1 m1 d1 A2 U2 n2 c2 m2 d2 A3 U3 n3 c3 m3 d3 wr.heap.size g2 HWn (Lib.hid (Fcsx1.out.belowW HX.out)) (Lib.hid (Fcsx2.out.belowW HX.out)) (Lib.hid (Fcsy1.out.belowW HX.out)) (Lib.hid (Fcsy2.out.belowW HX.out)) (Lib.hid (Fcsz1.out.belowW HX.out)) (Lib.hid (Fcsz2.out.belowW HX.out)) (Lib.hid (Blk.new _ _ _)) (Lib.hid HW.out.size) (Lib.hid (B2.out.belowW HX.out)) L2 (Nat.ne_of_gt B2.out.lt)
        rw [HG.out, HA0.out] at h9
        simp only [Act.put, List.setIfInBounds_toArray, List.set_cons_zero, List.set_cons_succ] at h9
        exact h9
      refine AllReadyH.cons rfl (fun K hK => ?_) ?_
      case refine_1 =>
        go_simp
        have HX := Lib.hid (below_a1 wr (.cells #[.bool false, .slice none 0 0, .int .i64 0, .bool false, .slice none 0 0, .int .i64 0, .bool false] 30))
        have HWn := Lib.hid (HW.out.trans (HX.out.mono HW.out.size))
        refine hK.out _ _ ?_ (fun hHeld => ?_)
        case refine_1 =>
          have D2ka := Lib.hid (F4ka.out.belowW HWn.out)
          have D2kb := Lib.hid (F4kb.out.belowW HWn.out)
          have D2t := Lib.hid (F4t.out.belowW HWn.out)
          exact ⟨D2ka.out.cell 0, D2ka.out.cell 1, D2kb.out.cell 0, D2kb.out.cell 1⟩
        clear hK K
        simp only [List.setIfInBounds_toArray, List.set_cons_zero, List.set_cons_succ]
        have h9 := st_3_12 ((wr.alloc (.cells #[.bool false, .slice none 0 0, .int .i64 0, .bool false, .slice none 0 0, .int .i64 0, .bool false] 30))) A1 U1 n1 c1 m1 d1 A2 U2 n2 c2 m2 d2 A3 U3 n3 c3 m3 d3 wr.heap.size g2 HWn (Lib.hid (Fcsx1.out.belowW HX.out)) (Lib.hid (Fcsx2.out.belowW HX.out)) (Lib.hid (Fcsy1.out.belowW HX.out)) (Lib.hid (Fcsy2.out.belowW HX.out)) (Lib.hid (Fcsz1.out.belowW HX.out)) (Lib.hid (Fcsz2.out.belowW HX.out)) (Lib.hid (Blk.new _ _ _)) (Lib.hid HW.out.size) (Lib.hid (B2.out.belowW HX.out)) L2 (Nat.ne_of_gt B2.out.lt)
        rw [HG.out, HA0.out] at h9
        simp only [Act.put, List.setIfInBounds_toArray, List.set_cons_zero, List.set_cons_succ] at h9
        exact h9
      exact AllReadyH.nil
    have st_3_n : ∀ (wr : World) (A1 : Option Addr) (U1 : Option Addr) (n1 : Nat) (c1 : Nat) (m1 : Nat) (d1 : Nat) (A2 : Option Addr) (U2 : Option Addr) (n2 : Nat) (c2 : Nat) (m2 : Nat) (d2 : Nat) (A3 : Option Addr) (U3 : Option Addr) (n3 : Nat) (c3 : Nat) (m3 : Nat) (d3 : Nat), Hid (Below w4.heap.size w4 wr) → Hid (Sl wr A1 n1 c1 (limbs x1.k)) → Hid (Sl wr U1 m1 d1 (limbs x2.k)) → Hid (Sl wr A2 n2 c2 (limbs y1.k)) → Hid (Sl wr U2 m2 d2 (limbs y2.k)) → Hid (Sl wr A3 n3 c3 (limbs z1.k)) → Hid (Sl wr U3 m3 d3 (limbs z2.k)) → G 6 #[true, true, true, true, true, true, true, true, true, true, true, true, true, false, false, false, false, false, false] (((A0.put (some 35) (.agg #[.bool x1.neg, .slice A1 n1 c1, .int .i64 x1.e, .bool x2.neg, .slice U1 m1 d1, .int .i64 x2.e, .bool false])).put (some 42) (.agg #[.bool y1.neg, .slice A2 n2 c2, .int .i64 y1.e, .bool y2.neg, .slice U2 m2 d2, .int .i64 y2.e, .bool false])).put (some 45) (.agg #[.bool z1.neg, .slice A3 n3 c3, .int .i64 z1.e, .bool z2.neg, .slice U3 m3 d3, .int .i64 z2.e, .bool false])) wr := by
      intro wr A1 U1 n1 c1 m1 d1 A2 U2 n2 c2 m2 d2 A3 U3 n3 c3 m3 d3 HW Fcsx1 Fcsx2 Fcsy1 Fcsy2 Fcsz1 Fcsz2
      rw [HG.out, HA0.out]
      simp only [Act.put, List.setIfInBounds_toArray, List.set_cons_zero, List.set_cons_succ]
      have Dka := Lib.hid (F4ka.out.belowW HW.out)
      have Dkb := Lib.hid (F4kb.out.belowW HW.out)
      have Dt := Lib.hid (F4t.out.belowW HW.out)
      refine wpAnyH_ready (rs := [13, 14, 15]) (by kernel_rfl) (by simp) ?_
      refine AllReadyH.cons rfl (fun K hK => ?_) ?_
      case refine_1 =>
        go_simp
        have HX := Lib.hid (below_a1 wr (.cells #[.bool false, .slice none 0 0, .int .i64 0, .bool false, .slice none 0 0, .int .i64 0, .bool false] 30))
        have HWn := Lib.hid (HW.out.trans (HX.out.mono HW.out.size))
        refine hK.out _ _ ?_ (fun hHeld => ?_)
        case refine_1 =>
          have D2ka := Lib.hid (F4ka.out.belowW HWn.out)
          have D2kb := Lib.hid (F4kb.out.belowW HWn.out)
          have D2t := Lib.hid (F4t.out.belowW HWn.out)
          exact ⟨D2ka.out.cell 0, D2ka.out.cell 1, D2kb.out.cell 0, D2kb.out.cell 1⟩
        clear hK K
        simp only [List.setIfInBounds_toArray, List.set_cons_zero, List.set_cons_succ]
        have h9 := st_3_0 ((wr.alloc (.cells #[.bool false, .slice none 0 0, .int .i64 0, .bool false, .slice none 0 0, .int .i64 0, .bool false] 30))) A1 U1 n1 c1 m1 d1 A2 U2 n2 c2 m2 d2 A3 U3 n3 c3 m3 d3 wr.heap.size HWn (Lib.hid (Fcsx1.out.belowW HX.out)) (Lib.hid (Fcsx2.out.belowW HX.out)) (Lib.hid (Fcsy1.out.belowW HX.out)) (Lib.hid (Fcsy2.out.belowW HX.out)) (Lib.hid (Fcsz1.out.belowW HX.out)) (Lib.hid (Fcsz2.out.belowW HX.out)) (Lib.hid (Blk.new _ _ _)) (Lib.hid HW.out.size)
        rw [HG.out, HA0.out] at h9
        simp only [Act.put, List.setIfInBounds_toArray, List.set_cons_zero, List.set_cons_succ] at h9
        exact h9
      refine AllReadyH.cons rfl (fun K hK => ?_) ?_
      case refine_1 =>
        go_simp
        have HX := Lib.hid (below_a1 wr (.cells #[.bool false, .slice none 0 0, .int .i64 0, .bool false, .slice none 0 0, .int .i64 0, .bool false] 30))
        have HWn := Lib.hid (HW.out.trans (HX.out.mono HW.out.size))
        refine hK.out _ _ ?_ (fun hHeld => ?_)
        case refine_1 =>
          have D2ka := Lib.hid (F4ka.out.belowW HWn.out)
          have D2kb := Lib.hid (F4kb.out.belowW HWn.out)
          have D2t := Lib.hid (F4t.out.belowW HWn.out)
          exact ⟨D2ka.out.cell 0, D2ka.out.cell 1, D2kb.out.cell 0, D2kb.out.cell 1⟩
        clear hK K
        simp only [List.setIfInBounds_toArray, List.set_cons_zero, List.set_cons_succ]
        have h9 := st_3_1 ((wr.alloc (.cells #[.bool false, .slice none 0 0, .int .i64 0, .bool false, .slice none 0 0, .int .i64 0, .bool false] 30))) A1 U1 n1 c1 m1 d1 A2 U2 n2 c2 m2 d2 A3 U3 n3 c3 m3 d3 wr.heap.size HWn (Lib.hid (Fcsx1.out.belowW HX.out)) (Lib.hid (Fcsx2.out.belowW HX.out)) (Lib.hid (Fcsy1.out.belowW HX.out)) (Lib.hid (Fcsy2.out.belowW HX.out)) (Lib.hid (Fcsz1.out.belowW HX.out)) (Lib.hid (Fcsz2.out.belowW HX.out)) (Lib.hid (Blk.new _ _ _)) (Lib.hid HW.out.size)
        rw [HG.out, HA0.out] at h9
        simp only [Act.put, List.setIfInBounds_toArray, List.set_cons_zero, List.set_cons_succ] at h9
        exact h9
      refine AllReadyH.cons rfl (fun K hK => ?_) ?_
      case refine_1 =>
        go_simp
        have HX := Lib.hid (below_a1 wr (.cells #[.bool false, .slice none 0 0, .int .i64 0, .bool false, .slice none 0 0, .int .i64 0, .bool false] 30))
        have HWn := Lib.hid (HW.out.trans (HX.out.mono HW.out.size))
        refine hK.out _ _ ?_ (fun hHeld => ?_)
        case refine_1 =>
          have D2ka := Lib.hid (F4ka.out.belowW HWn.out)
          have D2kb := Lib.hid (F4kb.out.belowW HWn.out)
          have D2t := Lib.hid (F4t.out.belowW HWn.out)
          exact ⟨D2ka.out.cell 0, D2ka.out.cell 1, D2kb.out.cell 0, D2kb.out.cell 1⟩
        clear hK K
        simp only [List.setIfInBounds_toArray, List.set_cons_zero, List.set_cons_succ]
        have h9 := st_3_2 ((wr.alloc (.cells #[.bool false, .slice none 0 0, .int .i64 0, .bool false, .slice none 0 0, .int .i64 0, .bool false] 30))) A1 U1 n1 c1 m1 d1 A2 U2 n2 c2 m2 d2 A3 U3 n3 c3 m3 d3 wr.heap.size HWn (Lib.hid (Fcsx1.out.belowW HX.out)) (Lib.hid (Fcsx2.out.belowW HX.out)) (Lib.hid (Fcsy1.out.belowW HX.out)) (Lib.hid (Fcsy2.out.belowW HX.out)) (Lib.hid (Fcsz1.out.belowW HX.out)) (Lib.hid (Fcsz2.out.belowW HX.out)) (Lib.hid (Blk.new _ _ _)) (Lib.hid HW.out.size)
        rw [HG.out, HA0.out] at h9
        simp only [Act.put, List.setIfInBounds_toArray, List.set_cons_zero, List.set_cons_succ] at h9
        exact h9
      exact AllReadyH.nil
    have st_2_012 : ∀ (wr : World) (A1 : Option Addr) (U1 : Option Addr) (n1 : Nat) (c1 : Nat) (m1 : Nat) (d1 : Nat) (A2 : Option Addr) (U2 : Option Addr) (n2 : Nat) (c2 : Nat) (m2 : Nat) (d2 : Nat) (g0 : Nat) (g1 : Nat) (g2 : Nat), Hid (Below w4.heap.size w4 wr) → Hid (Sl wr A1 n1 c1 (limbs x1.k)) → Hid (Sl wr U1 m1 d1 (limbs x2.k)) → Hid (Sl wr A2 n2 c2 (limbs y1.k)) → Hid (Sl wr U2 m2 d2 (limbs y2.k)) → Hid (Blk wr g0 30 #[.bool false, .slice none 0 0, .int .i64 0, .bool false, .slice none 0 0, .int .i64 0, .bool false]) → Hid (w4.heap.size ≤ g0) → Hid (Blk wr g1 30 #[.bool false, .slice none 0 0, .int .i64 0, .bool false, .slice none 0 0, .int .i64 0, .bool false]) → Hid (w4.heap.size ≤ g1) → Hid (Blk wr g2 30 #[.bool false, .slice none 0 0, .int .i64 0, .bool false, .slice none 0 0, .int .i64 0, .bool false]) → Hid (w4.heap.size ≤ g2) → g0 ≠ g1 → g0 ≠ g2 → g1 ≠ g2 → G 4 #[true, true, true, true, true, true, true, true, true, true, true, true, false, true, true, true, false, false, false] (((((A0.put (some 35) (.agg #[.bool x1.neg, .slice A1 n1 c1, .int .i64 x1.e, .bool x2.neg, .slice U1 m1 d1, .int .i64 x2.e, .bool false])).put (some 42) (.agg #[.bool y1.neg, .slice A2 n2 c2, .int .i64 y1.e, .bool y2.neg, .slice U2 m2 d2, .int .i64 y2.e, .bool false])).put (some 10) (.pointer (some ⟨g0, 0, none⟩))).put (some 11) (.pointer (some ⟨g1, 0, none⟩))).put (some 12) (.pointer (some ⟨g2, 0, none⟩))) wr := by
      intro wr A1 U1 n1 c1 m1 d1 A2 U2 n2 c2 m2 d2 g0 g1 g2 HW Fcsx1 Fcsx2 Fcsy1 Fcsy2 B0 L0 B1 L1 B2 L2 n01 n02 n12
      rw [HG.out, HA0.out]
      simp only [Act.put, List.setIfInBounds_toArray, List.set_cons_zero, List.set_cons_succ]
      have Dka := Lib.hid (F4ka.out.belowW HW.out)
      have Dkb := Lib.hid (F4kb.out.belowW HW.out)
      have Dt := Lib.hid (F4t.out.belowW HW.out)
      refine wpAnyH_ready (rs := [12]) (by kernel_rfl) (by simp) ?_
      refine AllReadyH.cons rfl (fun K hK => ?_) ?_
      case refine_1 =>
        go_simp
        (with_reducible refine (enclose_any bn bd N _ Dt.out.toRB b1 b2 b3 b4).mono ?_)
        rw [HZ.out]
        rintro e wn ⟨A3, U3, n3, c3, m3, d3, rfl, HS1, HS2, HX⟩
        go_wp2_with fail
        have HWn := Lib.hid (HW.out.trans (HX.out.mono HW.out.size))
        refine hK.out _ _ ?_ (fun hHeld => ?_)
        case refine_1 =>
          have D2ka := Lib.hid (F4ka.out.belowW HWn.out)
          have D2kb := Lib.hid (F4kb.out.belowW HWn.out)
          have D2t := Lib.hid (F4t.out.belowW HWn.out)
          exact ⟨D2ka.out.cell 0, D2ka.out.cell 1, D2kb.out.cell 0, D2kb.out.cell 1⟩
        clear hK K
        simp only [List.setIfInBounds_toArray, List.set_cons_zero, List.set_cons_succ]
        have h9 := st_3_012 wn A1 U1 n1 c1 m1 d1 A2 U2 n2 c2 m2 d2 A3 U3 n3 c3 m3 d3 g0 g1 g2 HWn (Lib.hid (Fcsx1.out.belowW HX.out)) (Lib.hid (Fcsx2.out.belowW HX.out)) (Lib.hid (Fcsy1.out.belowW HX.out)) (Lib.hid (Fcsy2.out.belowW HX.out)) (Lib.hid (HS1.out)) (Lib.hid (HS2.out)) (Lib.hid (B0.out.belowW HX.out)) L0 (Lib.hid (B1.out.belowW HX.out)) L1 (Lib.hid (B2.out.belowW HX.out)) L2 n01 n02 n12
        rw [HG.out, HA0.out] at h9
        simp only [Act.put, List.setIfInBounds_toArray, List.set_cons_zero, List.set_cons_succ] at h9
        exact h9
      exact AllReadyH.nil
    have st_2_01 : ∀ (wr : World) (A1 : Option Addr) (U1 : Option Addr) (n1 : Nat) (c1 : Nat) (m1 : Nat) (d1 : Nat) (A2 : Option Addr) (U2 : Option Addr) (n2 : Nat) (c2 : Nat) (m2 : Nat) (d2 : Nat) (g0 : Nat) (g1 : Nat), Hid (Below w4.heap.size w4 wr) → Hid (Sl wr A1 n1 c1 (limbs x1.k)) → Hid (Sl wr U1 m1 d1 (limbs x2.k)) → Hid (Sl wr A2 n2 c2 (limbs y1.k)) → Hid (Sl wr U2 m2 d2 (limbs y2.k)) → Hid (Blk wr g0 30 #[.bool false, .slice none 0 0, .int .i64 0, .bool false, .slice none 0 0, .int .i64 0, .bool false]) → Hid (w4.heap.size ≤ g0) → Hid (Blk wr g1 30 #[.bool false, .slice none 0 0, .int .i64 0, .bool false, .slice none 0 0, .int .i64 0, .bool false]) → Hid (w4.heap.size ≤ g1) → g0 ≠ g1 → G 5 #[true, true, true, true, true, true, true, true, true, true, true, true, false, true, true, false, false, false, false] ((((A0.put (some 35) (.agg #[.bool x1.neg, .slice A1 n1 c1, .int .i64 x1.e, .bool x2.neg, .slice U1 m1 d1, .int .i64 x2.e, .bool false])).put (some 42) (.agg #[.bool y1.neg, .slice A2 n2 c2, .int .i64 y1.e, .bool y2.neg, .slice U2 m2 d2, .int .i64 y2.e, .bool false])).put (some 10) (.pointer (some ⟨g0, 0, none⟩))).put (some 11) (.pointer (some ⟨g1, 0, none⟩))) wr := by
      intro wr A1 U1 n1 c1 m1 d1 A2 U2 n2 c2 m2 d2 g0 g1 HW Fcsx1 Fcsx2 Fcsy1 Fcsy2 B0 L0 B1 L1 n01
      rw [HG.out, HA0.out]
      simp only [Act.put, List.setIfInBounds_toArray, List.set_cons_zero, List.set_cons_succ]
      have Dka := Lib.hid (F4ka.out.belowW HW.out)
      have Dkb := Lib.hid (F4kb.out.belowW HW.out)
      have Dt := Lib.hid (F4t.out.belowW HW.out)
      refine wpAnyH_ready (rs := [12, 15]) (by kernel_rfl) (by simp) ?_
      refine AllReadyH.cons rfl (fun K hK => ?_) ?_
      case refine_1 =>
        go_simp
        (with_reducible refine (enclose_any bn bd N _ Dt.out.toRB b1 b2 b3 b4).mono ?_)
        rw [HZ.out]
        rintro e wn ⟨A3, U3, n3, c3, m3, d3, rfl, HS1, HS2, HX⟩
        go_wp2_with fail
        have HWn := Lib.hid (HW.out.trans (HX.out.mono HW.out.size))
        refine hK.out _ _ ?_ (fun hHeld => ?_)
        case refine_1 =>
          have D2ka := Lib.hid (F4ka.out.belowW HWn.out)
          have D2kb := Lib.hid (F4kb.out.belowW HWn.out)
          have D2t := Lib.hid (F4t.out.belowW HWn.out)
          exact ⟨D2ka.out.cell 0, D2ka.out.cell 1, D2kb.out.cell 0, D2kb.out.cell 1⟩
        clear hK K
        simp only [List.setIfInBounds_toArray, List.set_cons_zero, List.set_cons_succ]
        have h9 := st_3_01 wn A1 U1 n1 c1 m1 d1 A2 U2 n2 c2 m2 d2 A3 U3 n3 c3 m3 d3 g0 g1 HWn (Lib.hid (Fcsx1.out.belowW HX.out)) (Lib.hid (Fcsx2.out.belowW HX.out)) (Lib.hid (Fcsy1.out.belowW HX.out)) (Lib.hid (Fcsy2.out.belowW HX.out)) (Lib.hid (HS1.out)) (Lib.hid (HS2.out)) (Lib.hid (B0.out.belowW HX.out)) L0 (Lib.hid (B1.out.belowW HX.out)) L1 n01
        rw [HG.out, HA0.out] at h9
        simp only [Act.put, List.setIfInBounds_toArray, List.set_cons_zero, List.set_cons_succ] at h9
        exact h9
      refine AllReadyH.cons rfl (fun K hK => ?_) ?_
      case refine_1 =>
        go_simp
        have HX := Lib.hid (below_a1 wr (.cells #[.bool false, .slice none 0 0, .int .i64 0, .bool false, .slice none 0 0, .int .i64 0, .bool false] 30))
        have HWn := Lib.hid (HW.out.trans (HX.out.mono HW.out.size))
        refine hK.out _ _ ?_ (fun hHeld => ?_)
        case refine_1 =>
          have D2ka := Lib.hid (F4ka.out.belowW HWn.out)
          have D2kb := Lib.hid (F4kb.out.belowW HWn.out)
          have D2t := Lib.hid (F4t.out.belowW HWn.out)
          exact ⟨D2ka.out.cell 0, D2ka.out.cell 1, D2kb.out.cell 0, D2kb.out.cell 1⟩
        clear hK K
        simp only [List.setIfInBounds_toArray, List.set_cons_zero, List.set_cons_succ]
        have h9 := st_2_012 ((wr.alloc (.cells #[.bool false, .slice none 0 0, .int .i64 0, .bool false, .slice none 0 0, .int .i64 0, .bool false] 30))) A1 U1 n1 c1 m1 d1 A2 U2 n2 c2 m2 d2 g0 g1 wr.heap.size HWn (Lib.hid (Fcsx1.out.belowW HX.out)) (Lib.hid (Fcsx2.out.belowW HX.out)) (Lib.hid (Fcsy1.out.belowW HX.out)) (Lib.hid (Fcsy2.out.belowW HX.out)) (Lib.hid (B0.out.belowW HX.out)) L0 (Lib.hid (B1.out.belowW HX.out)) L1 (Lib.hid (Blk.new _ _ _)) (Lib.hid HW.out.size) n01 (Nat.ne_of_lt B0.out.lt) (Nat.ne_of_lt B1.out.lt)
        rw [HG.out, HA0.out] at h9
        simp only [Act.put, List.setIfInBounds_toArray, List.set_cons_zero, List.set_cons_succ] at h9
        exact h9
      exact AllReadyH.nil
    have st_2_02 : ∀ (wr : World) (A1 : Option Addr) (U1 : Option Addr) (n1 : Nat) (c1 : Nat) (m1 : Nat) (d1 : Nat) (A2 : Option Addr) (U2 : Option Addr) (n2 : Nat) (c2 : Nat) (m2 : Nat) (d2 : Nat) (g0 : Nat) (g2 : Nat), Hid (Below w4.heap.size w4 wr) → Hid (Sl wr A1 n1 c1 (limbs x1.k)) → Hid (Sl wr U1 m1 d1 (limbs x2.k)) → Hid (Sl wr A2 n2 c2 (limbs y1.k)) → Hid (Sl wr U2 m2 d2 (limbs y2.k)) → Hid (Blk wr g0 30 #[.bool false, .slice none 0 0, .int .i64 0, .bool false, .slice none 0 0, .int .i64 0, .bool false]) → Hid (w4.heap.size ≤ g0) → Hid (Blk wr g2 30 #[.bool false, .slice none 0 0, .int .i64 0, .bool false, .slice none 0 0, .int .i64 0, .bool false]) → Hid (w4.heap.size ≤ g2) → g0 ≠ g2 → G 5 #[true, true, true, true, true, true, true, true, true, true, true, true, false, true, false, true, false, false, false] ((((A0.put (some 35) (.agg #[.bool x1.neg, .slice A1 n1 c1, .int .i64 x1.e, .bool x2.neg, .slice U1 m1 d1, .int .i64 x2.e, .bool false])).put (some 42) (.agg #[.bool y1.neg, .slice A2 n2 c2, .int .i64 y1.e, .bool y2.neg, .slice U2 m2 d2, .int .i64 y2.e, .bool false])).put (some 10) (.pointer (some ⟨g0, 0, none⟩))).put (some 12) (.pointer (some ⟨g2, 0, none⟩))) wr := by
      intro wr A1 U1 n1 c1 m1 d1 A2 U2 n2 c2 m2 d2 g0 g2 HW Fcsx1 Fcsx2 Fcsy1 Fcsy2 B0 L0 B2 L2 n02
      rw [HG.out, HA0.out]
      simp only [Act.put, List.setIfInBounds_toArray, List.set_cons_zero, List.set_cons_succ]
      have Dka := Lib.hid (F4ka.out.belowW HW.out)
      have Dkb := Lib.hid (F4kb.out.belowW HW.out)
      have Dt := Lib.hid (F4t.out.belowW HW.out)
      refine wpAnyH_ready (rs := [12, 14]) (by kernel_rfl) (by simp) ?_
      refine AllReadyH.cons rfl (fun K hK => ?_) ?_
      case refine_1 =>
        go_simp
        (with_reducible refine (enclose_any bn bd N _ Dt.out.toRB b1 b2 b3 b4).mono ?_)
        rw [HZ.out]
        rintro e wn ⟨A3, U3, n3, c3, m3, d3, rfl, HS1, HS2, HX⟩
        go_wp2_with fail
        have HWn := Lib.hid (HW.out.trans (HX.out.mono HW.out.size))
        refine hK.out _ _ ?_ (fun hHeld => ?_)
        case refine_1 =>
          have D2ka := Lib.hid (F4ka.out.belowW HWn.out)
          have D2kb := Lib.hid (F4kb.out.belowW HWn.out)
          have D2t := Lib.hid (F4t.out.belowW HWn.out)
          exact ⟨D2ka.out.cell 0, D2ka.out.cell 1, D2kb.out.cell 0, D2kb.out.cell 1⟩
        clear hK K
        simp only [List.setIfInBounds_toArray, List.set_cons_zero, List.set_cons_succ]
        have h9 := st_3_02 wn A1 U1 n1 c1 m1 d1 A2 U2 n2 c2 m2 d2 A3 U3 n3 c3 m3 d3 g0 g2 HWn (Lib.hid (Fcsx1.out.belowW HX.out)) (Lib.hid (Fcsx2.out.belowW HX.out)) (Lib.hid (Fcsy1.out.belowW HX.out)) (Lib.hid (Fcsy2.out.belowW HX.out)) (Lib.hid (HS1.out)) (Lib.hid (HS2.out)) (Lib.hid (B0.out.belowW HX.out)) L0 (Lib.hid (B2.out.belowW HX.out)) L2 n02
        rw [HG.out, HA0.out] at h9
        simp only [Act.put, List.setIfInBounds_toArray, List.set_cons_zero, List.set_cons_succ] at h9
        exact h9
      refine AllReadyH.cons rfl (fun K hK => ?_) ?_
      case refine_1 =>
        go_simp
        have HX := Lib.hid (below_a1 wr (.cells #[.bool false, .slice none 0 0, .int .i64 0, .bool false, .slice none 0 0, .int .i64 0, .bool false] 30))
        have HWn := Lib.hid (HW.out.trans (HX.out.mono HW.out.size))
        refine hK.out _ _ ?_ (fun hHeld => ?_)
        case refine_1 =>
          have D2ka := Lib.hid (F4ka.out.belowW HWn.out)
          have D2kb := Lib.hid (F4kb.out.belowW HWn.out)
          have D2t := Lib.hid (F4t.out.belowW HWn.out)
          exact ⟨D2ka.out.cell 0, D2ka.out.cell 1, D2kb.out.cell 0, D2kb.out.cell 1⟩
        clear hK K
        simp only [List.setIfInBounds_toArray, List.set_cons_zero, List.set_cons_succ]
        have h9 := st_2_012 ((wr.alloc (.cells #[.bool false, .slice none 0 0, .int .i64 0, .bool false, .slice none 0 0, .int .i64 0, .bool false] 30))) A1 U1 n1 c1 m1 d1 A2 U2 n2 c2 m2 d2 g0 wr.heap.size g2 HWn (Lib.hid (Fcsx1.out.belowW HX.out)) (Lib.hid (Fcsx2.out.belowW HX.out)) (Lib.hid (Fcsy1.out.belowW HX.out)) (Lib.hid (Fcsy2.out.belowW HX.out)) (Lib.hid (B0.out.belowW HX.out)) L0 (Lib.hid (Blk.new _ _ _)) (Lib.hid HW.out.size) (Lib.hid (B2.out.belowW HX.out)) L2 (Nat.ne_of_lt B0.out.lt) n02 (Nat.ne_of_gt B2.out.lt)
        rw [HG.out, HA0.out] at h9
        simp only [Act.put, List.setIfInBounds_toArray, List.set_cons_zero, List.set_cons_succ] at h9
        exact h9
      exact AllReadyH.nil
    have st_2_12 : ∀ (wr : World) (A1 : Option Addr) (U1 : Option Addr) (n1 : Nat) (c1 : Nat) (m1 : Nat) (d1 : Nat) (A2 : Option Addr) (U2 : Option Addr) (n2 : Nat) (c2 : Nat) (m2 : Nat) (d2 : Nat) (g1 : Nat) (g2 : Nat), Hid (Below w4.heap.size w4 wr) → Hid (Sl wr A1 n1 c1 (limbs x1.k)) → Hid (Sl wr U1 m1 d1 (limbs x2.k)) → Hid (Sl wr A2 n2 c2 (limbs y1.k)) → Hid (Sl wr U2 m2 d2 (limbs y2.k)) → Hid (Blk wr g1 30 #[.bool false, .slice none 0 0, .int .i64 0, .bool false, .slice none 0 0, .int .i64 0, .bool false]) → Hid (w4.heap.size ≤ g1) → Hid (Blk wr g2 30 #[.bool false, .slice none 0 0, .int .i64 0, .bool false, .slice none 0 0, .int .i64 0, .bool false]) → Hid (w4.heap.size ≤ g2) → g1 ≠ g2 → G 5 #[true, true, true, true, true, true, true, true, true, true, true, true, false, false, true, true, false, false, false] ((((A0.put (some 35) (.agg #[.bool x1.neg, .slice A1 n1 c1, .int .i64 x1.e, .bool x2.neg, .slice U1 m1 d1, .int .i64 x2.e, .bool false])).put (some 42) (.agg #[.bool y1.neg, .slice A2 n2 c2, .int .i64 y1.e, .bool y2.neg, .slice U2 m2 d2, .int .i64 y2.e, .bool false])).put (some 11) (.pointer (some ⟨g1, 0, none⟩))).put (some 12) (.pointer (some ⟨g2, 0, none⟩))) wr := by
      intro wr A1 U1 n1 c1 m1 d1 A2 U2 n2 c2 m2 d2 g1 g2 HW Fcsx1 Fcsx2 Fcsy1 Fcsy2 B1 L1 B2 L2 n12
      rw [HG.out, HA0.out]
      simp only [Act.put, List.setIfInBounds_toArray, List.set_cons_zero, List.set_cons_succ]
      have Dka := Lib.hid (F4ka.out.belowW HW.out)
      have Dkb := Lib.hid (F4kb.out.belowW HW.out)
      have Dt := Lib.hid (F4t.out.belowW HW.out)
      refine wpAnyH_ready (rs := [12, 13]) (by kernel_rfl) (by simp) ?_
      refine AllReadyH.cons rfl (fun K hK => ?_) ?_
      case refine_1 =>
        go_simp
        (with_reducible refine (enclose_any bn bd N _ Dt.out.toRB b1 b2 b3 b4).mono ?_)
        rw [HZ.out]
        rintro e wn ⟨A3, U3, n3, c3, m3, d3, rfl, HS1, HS2, HX⟩
        go_wp2_with fail
        have HWn := Lib.hid (HW.out.trans (HX.out.mono HW.out.size))
        refine hK.out _ _ ?_ (fun hHeld => ?_)
        case refine_1 =>
          have D2ka := Lib.hid (F4ka.out.belowW HWn.out)
          have D2kb := Lib.hid (F4kb.out.belowW HWn.out)
          have D2t := Lib.hid (F4t.out.belowW HWn.out)
          exact ⟨D2ka.out.cell 0, D2ka.out.cell 1, D2kb.out.cell 0, D2kb.out.cell 1⟩
        clear hK K
        simp only [List.setIfInBounds_toArray, List.set_cons_zero, List.set_cons_succ]
        have h9 := st_3_12 wn A1 U1 n1 c1 m1 d1 A2 U2 n2 c2 m2 d2 A3 U3 n3 c3 m3 d3 g1 g2 HWn (Lib.hid (Fcsx1.out.belowW HX.out)) (Lib.hid (Fcsx2.out.belowW HX.out)) (Lib.hid (Fcsy1.out.belowW HX.out)) (Lib.hid (Fcsy2.out.belowW HX.out)) (Lib.hid (HS1.out)) (Lib.hid (HS2.out)) (Lib.hid (B1.out.belowW HX.out)) L1 (Lib.hid (B2.out.belowW HX.out)) L2 n12
        rw [HG.out, HA0.out] at h9
        simp only [Act.put, List.setIfInBounds_toArray, List.set_cons_zero, List.set_cons_succ] at h9
        exact h9
      refine AllReadyH.cons rfl (fun K hK => ?_) ?_
      case refine_1 =>
        go_simp
        have HX := Lib.hid (below_a1 wr (.cells #[.bool false, .slice none 0 0, .int .i64 0, .bool false, .slice none 0 0, .int .i64 0, .bool false] 30))
        have HWn := Lib.hid (HW.out.trans (HX.out.mono HW.out.size))
        refine hK.out _ _ ?_ (fun hHeld => ?_)
        case refine_1 =>
          have D2ka := Lib.hid (F4ka.out.belowW HWn.out)
          have D2kb := Lib.hid (F4kb.out.belowW HWn.out)
          have D2t := Lib.hid (F4t.out.belowW HWn.out)
          exact ⟨D2ka.out.cell 0, D2ka.out.cell 1, D2kb.out.cell 0, D2kb.out.cell 1⟩
        clear hK K
        simp only [List.setIfInBounds_toArray, List.set_cons_zero, List.set_cons_succ]
        have h9 := st_2_012 ((wr.alloc (.cells #[.bool false, .slice none 0 0, .int .i64 0, .bool false, .slice none 0 0, .int .i64 0, .bool false] 30))) A1 U1 n1 c1 m1 d1 A2 U2 n2 c2 m2 d2 wr.heap.size g1 g2 HWn (Lib.hid (Fcsx1.out.belowW HX.out)) (Lib.hid (Fcsx2.out.belowW HX.out)) (Lib.hid (Fcsy1.out.belowW HX.out)) (Lib.hid (Fcsy2.out.belowW HX.out)) (Lib.hid (Blk.new _ _ _)) (Lib.hid HW.out.size) (Lib.hid (B1.out.belowW HX.out)) L1 (Lib.hid (B2.out.belowW HX.out)) L2 (Nat.ne_of_gt B1.out.lt) (Nat.ne_of_gt B2.out.lt) n12
        rw [HG.out, HA0.out] at h9
        simp only [Act.put, List.setIfInBounds_toArray, List.set_cons_zero, List.set_cons_succ] at h9
        exact h9
      exact AllReadyH.nil
    have st_2_0 : ∀ (wr : World) (A1 : Option Addr) (U1 : Option Addr) (n1 : Nat) (c1 : Nat) (m1 : Nat) (d1 : Nat) (A2 : Option Addr) (U2 : Option Addr) (n2 : Nat) (c2 : Nat) (m2 : Nat) (d2 : Nat) (g0 : Nat), Hid (Below w4.heap.size w4 wr) → Hid (Sl wr A1 n1 c1 (limbs x1.k)) → Hid (Sl wr U1 m1 d1 (limbs x2.k)) → Hid (Sl wr A2 n2 c2 (limbs y1.k)) → Hid (Sl wr U2 m2 d2 (limbs y2.k)) → Hid (Blk wr g0 30 #[.bool false, .slice none 0 0, .int .i64 0, .bool false, .slice none 0 0, .int .i64 0, .bool false]) → Hid (w4.heap.size ≤ g0) → G 6 #[true, true, true, true, true, true, true, true, true, true, true, true, false, true, false, false, false, false, false] (((A0.put (some 35) (.agg #[.bool x1.neg, .slice A1 n1 c1, .int .i64 x1.e, .bool x2.neg, .slice U1 m1 d1, .int .i64 x2.e, .bool false])).put (some 42) (.agg #[.bool y1.neg, .slice A2 n2 c2, .int .i64 y1.e, .bool y2.neg, .slice U2 m2 d2, .int .i64 y2.e, .bool false])).put (some 10) (.pointer (some ⟨g0, 0, none⟩))) wr := by
      intro wr A1 U1 n1 c1 m1 d1 A2 U2 n2 c2 m2 d2 g0 HW Fcsx1 Fcsx2 Fcsy1 Fcsy2 B0 L0
      rw [HG.out, HA0.out]
      simp only [Act.put, List.setIfInBounds_toArray, List.set_cons_zero, List.set_cons_succ]
      have Dka := Lib.hid (F4ka.out.belowW HW.out)
      have Dkb := Lib.hid (F4kb.out.belowW HW.out)
      have Dt := Lib.hid (F4t.out.belowW HW.out)
      refine wpAnyH_ready (rs := [12, 14, 15]) (by kernel_rfl) (by simp) ?_
      refine AllReadyH.cons rfl (fun K hK => ?_) ?_
      case refine_1 =>
        go_simp
        (with_reducible refine (enclose_any bn bd N _ Dt.out.toRB b1 b2 b3 b4).mono ?_)
        rw [HZ.out]
        rintro e wn ⟨A3, U3, n3, c3, m3, d3, rfl, HS1, HS2, HX⟩
        go_wp2_with fail
        have HWn := Lib.hid (HW.out.trans (HX.out.mono HW.out.size))
        refine hK.out _ _ ?_ (fun hHeld => ?_)
        case refine_1 =>
          have D2ka := Lib.hid (F4ka.out.belowW HWn.out)
          have D2kb := Lib.hid (F4kb.out.belowW HWn.out)
          have D2t := Lib.hid (F4t.out.belowW HWn.out)
          exact ⟨D2ka.out.cell 0, D2ka.out.cell 1, D2kb.out.cell 0, D2kb.out.cell 1⟩
        clear hK K
        simp only [List.setIfInBounds_toArray, List.set_cons_zero, List.set_cons_succ]
        have h9 := st_3_0 wn A1 U1 n1 c1 m1 d1 A2 U2 n2 c2 m2 d2 A3 U3 n3 c3 m3 d3 g0 HWn (Lib.hid (Fcsx1.out.belowW HX.out)) (Lib.hid (Fcsx2.out.belowW HX.out)) (Lib.hid (Fcsy1.out.belowW HX.out)) (Lib.hid (Fcsy2.out.belowW HX.out)) (Lib.hid (HS1.out)) (Lib.hid (HS2.out)) (Lib.hid (B0.out.belowW HX.out)) L0
        rw [HG.out, HA0.out] at h9
        simp only [Act.put, List.setIfInBounds_toArray, List.set_cons_zero, List.set_cons_succ] at h9
        exact h9
      refine AllReadyH.cons rfl (fun K hK => ?_) ?_
      case refine_1 =>
        go_simp
        have HX := Lib.hid (below_a1 wr (.cells #[.bool false, .slice none 0 0, .int .i64 0, .bool false, .slice none 0 0, .int .i64 0, .bool false] 30))
        have HWn := Lib.hid (HW.out.trans (HX.out.mono HW.out.size))
        refine hK.out _ _ ?_ (fun hHeld => ?_)
        case refine_1 =>
          have D2ka := Lib.hid (F4ka.out.belowW HWn.out)
          have D2kb := Lib.hid (F4kb.out.belowW HWn.out)
          have D2t := Lib.hid (F4t.out.belowW HWn.out)
          exact ⟨D2ka.out.cell 0, D2ka.out.cell 1, D2kb.out.cell 0, D2kb.out.cell 1⟩
        clear hK K
        simp only [List.setIfInBounds_toArray, List.set_cons_zero, List.set_cons_succ]
        have h9 := st_2_01 ((wr.alloc (.cells #[.bool false, .slice none 0 0, .int .i64 0, .bool false, .slice none 0 0, .int .i64 0, .bool false] 30))) A1 U1 n1 c1 m1 d1 A2 U2 n2 c2 m2 d2 g0 wr.heap.size HWn (Lib.hid (Fcsx1.out.belowW HX.out)) (Lib.hid (Fcsx2.out.belowW HX.out)) (Lib.hid (Fcsy1.out.belowW HX.out)) (Lib.hid (Fcsy2.out.belowW HX.out)) (Lib.hid (B0.out.belowW HX.out)) L0 (Lib.hid (Blk.new _ _ _)) (Lib.hid HW.out.size) (Nat.ne_of_lt B0.out.lt)
        rw [HG.out, HA0.out] at h9
        simp only [Act.put, List.setIfInBounds_toArray, List.set_cons_zero, List.set_cons_succ] at h9
        exact h9
      refine AllReadyH.cons rfl (fun K hK => ?_) ?_
      case refine_1 =>
        go_simp
        have HX := Lib.hid (below_a1 wr (.cells #[.bool false, .slice none 0 0, .int .i64 0, .bool false, .slice none 0 0, .int .i64 0, .bool false] 30))
        have HWn := Lib.hid (HW.out.trans (HX.out.mono HW.out.size))
        refine hK.out _ _ ?_ (fun hHeld => ?_)
        case refine_1 =>
          have D2ka := Lib.hid (F4ka.out.belowW HWn.out)
          have D2kb := Lib.hid (F4kb.out.belowW HWn.out)
          have D2t := Lib.hid (F4t.out.belowW HWn.out)
          exact ⟨D2ka.out.cell 0, D2ka.out.cell 1, D2kb.out.cell 0, D2kb.out.cell 1⟩
        clear hK K
        simp only [List.setIfInBounds_toArray, List.set_cons_zero, List.set_cons_succ]
        have h9 := st_2_02 ((wr.alloc (.cells #[.bool false, .slice none 0 0, .int .i64 0, .bool false, .slice none 0 0, .int .i64 0, .bool false] 30))) A1 U1 n1 c1 m1 d1 A2 U2 n2 c2 m2 d2 g0 wr.heap.size HWn (Lib.hid (Fcsx1.out.belowW HX.out)) (Lib.hid (Fcsx2.out.belowW HX.out)) (Lib.hid (Fcsy1.out.belowW HX.out)) (Lib.hid (Fcsy2.out.belowW HX.out)) (Lib.hid (B0.out.belowW HX.out)) L0 (Lib.hid (Blk.new _ _ _)) (Lib.hid HW.out.size) (Nat.ne_of_lt B0.out.lt)
        rw [HG.out, HA0.out] at h9
        simp only [Act.put, List.setIfInBounds_toArray, List.set_cons_zero, List.set_cons_succ] at h9
        exact h9
      exact AllReadyH.nil
    have st_2_1 : ∀ (wr : World) (A1 : Option Addr) (U1 : Option Addr) (n1 : Nat) (c1 : Nat) (m1 : Nat) (d1 : Nat) (A2 : Option Addr) (U2 : Option Addr) (n2 : Nat) (c2 : Nat) (m2 : Nat) (d2 : Nat) (g1 : Nat), Hid (Below w4.heap.size w4 wr) → Hid (Sl wr A1 n1 c1 (limbs x1.k)) → Hid (Sl wr U1 m1 d1 (limbs x2.k)) → Hid (Sl wr A2 n2 c2 (limbs y1.k)) → Hid (Sl wr U2 m2 d2 (limbs y2.k)) → Hid (Blk wr g1 30 #[.bool false, .slice none 0 0, .int .i64 0, .bool false, .slice none 0 0, .int .i64 0, .bool false]) → Hid (w4.heap.size ≤ g1) → G 6 #[true, true, true, true, true, true, true, true, true, true, true, true, false, false, true, false, false, false, false] (((A0.put (some 35) (.agg #[.bool x1.neg, .slice A1 n1 c1, .int .i64 x1.e, .bool x2.neg, .slice U1 m1 d1, .int .i64 x2.e, .bool false])).put (some 42) (.agg #[.bool y1.neg, .slice A2 n2 c2, .int .i64 y1.e, .bool y2.neg, .slice U2 m2 d2, .int .i64 y2.e, .bool false])).put (some 11) (.pointer (some ⟨g1, 0, none⟩))) wr := by
      intro wr A1 U1 n1 c1 m1 d1 A2 U2 n2 c2 m2 d2 g1 HW Fcsx1 Fcsx2 Fcsy1 Fcsy2 B1 L1
      rw [HG.out, HA0.out]
      simp only [Act.put, List.setIfInBounds_toArray, List.set_cons_zero, List.set_cons_succ]
      have Dka := Lib.hid (F4ka.out.belowW HW.out)
      have Dkb := Lib.hid (F4kb.out.belowW HW.out)
      have Dt := Lib.hid (F4t.out.belowW HW.out)
      refine wpAnyH_ready (rs := [12, 13, 15]) (by kernel_rfl) (by simp) ?_
      refine AllReadyH.cons rfl (fun K hK => ?_) ?_
      case refine_1 =>
        go_simp
        (with_reducible refine (enclose_any bn bd N _ Dt.out.toRB b1 b2 b3 b4).mono ?_)
        rw [HZ.out]
        rintro e wn ⟨A3, U3, n3, c3, m3, d3, rfl, HS1, HS2, HX⟩
        go_wp2_with fail
        have HWn := Lib.hid (HW.out.trans (HX.out.mono HW.out.size))
        refine hK.out _ _ ?_ (fun hHeld => ?_)
        case refine_1 =>
          have D2ka := Lib.hid (F4ka.out.belowW HWn.out)
          have D2kb := Lib.hid (F4kb.out.belowW HWn.out)
          have D2t := Lib.hid (F4t.out.belowW HWn.out)
          exact ⟨D2ka.out.cell 0, D2ka.out.cell 1, D2kb.out.cell 0, D2kb.out.cell 1⟩
        clear hK K
        simp only [List.setIfInBounds_toArray, List.set_cons_zero, List.set_cons_succ]
        have h9 := st_3_1 wn A1 U1 n1 c1 m1 d1 A2 U2 n2 c2 m2 d2 A3 U3 n3 c3 m3 d3 g1 HWn (Lib.hid (Fcsx1.out.belowW HX.out)) (Lib.hid (Fcsx2.out.belowW HX.out)) (Lib.hid (Fcsy1.out.belowW HX.out)) (Lib.hid (Fcsy2.out.belowW HX.out)) (Lib.hid (HS1.out)) (Lib.hid (HS2.out)) (Lib.hid (B1.out.belowW HX.out)) L1
        rw [HG.out, HA0.out] at h9
        simp only [Act.put, List.setIfInBounds_toArray, List.set_cons_zero, List.set_cons_succ] at h9
        exact h9
      refine AllReadyH.cons rfl (fun K hK => ?_) ?_
      case refine_1 =>
        go_simp
        have HX := Lib.hid (below_a1 wr (.cells #[.bool false, .slice none 0 0, .int .i64 0, .bool false, .slice none 0 0, .int .i64 0, .bool false] 30))
        have HWn := Lib.hid (HW.out.trans (HX.out.mono HW.out.size))
        refine hK.out _ _ ?_ (fun hHeld => ?_)
        case refine_1 =>
          have D2ka := Lib.hid (F4ka.out.belowW HWn.out)
          have D2kb := Lib.hid (F4kb.out.belowW HWn.out)
          have D2t := Lib.hid (F4t.out.belowW HWn.out)
          exact ⟨D2ka.out.cell 0, D2ka.out.cell 1, D2kb.out.cell 0, D2kb.out.cell 1⟩
        clear hK K
        simp only [List.setIfInBounds_toArray, List.set_cons_zero, List.set_cons_succ]
        have h9 := st_2_01 ((wr.alloc (.cells #[.bool false, .slice none 0 0, .int .i64 0, .bool false, .slice none 0 0, .int .i64 0, .bool false] 30))) A1 U1 n1 c1 m1 d1 A2 U2 n2 c2 m2 d2 wr.heap.size g1 HWn (Lib.hid (Fcsx1.out.belowW HX.out)) (Lib.hid (Fcsx2.out.belowW HX.out)) (Lib.hid (Fcsy1.out.belowW HX.out)) (Lib.hid (Fcsy2.out.belowW HX.out)) (Lib.hid (Blk.new _ _ _)) (Lib.hid HW.out.size) (Lib.hid (B1.out.belowW HX.out)) L1 (Nat.ne_of_gt B1.out.lt)
        rw [HG.out, HA0.out] at h9
        simp only [Act.put, List.setIfInBounds_toArray, List.set_cons_zero, List.set_cons_succ] at h9
        exact h9
      refine AllReadyH.cons rfl (fun K hK => ?_) ?_
      case refine_1 =>
        go_simp
        have HX := Lib.hid (below_a1 wr (.cells #[.bool false, .slice none 0 0, .int .i64 0, .bool false, .slice none 0 0, .int .i64 0, .bool false] 30))
        have HWn := Lib.hid (HW.out.trans (HX.out.mono HW.out.size))
        refine hK.out _ _ ?_ (fun hHeld => ?_)
        case refine_1 =>
          have D2ka := Lib.hid (F4ka.out.belowW HWn.out)
          have D2kb := Lib.hid (F4kb.out.belowW HWn.out)
          have D2t := Lib.hid (F4t.out.belowW HWn.out)
          exact ⟨D2ka.out.cell 0, D2ka.out.cell 1, D2kb.out.cell 0, D2kb.out.cell 1⟩
        clear hK K
        simp only [List.setIfInBounds_toArray, List.set_cons_zero, List.set_cons_succ]
        have h9 := st_2_12 ((wr.alloc (.cells #[.bool false, .slice none 0 0, .int .i64 0, .bool false, .slice none 0 0, .int .i64 0, .bool false] 30))) A1 U1 n1 c1 m1 d1 A2 U2 n2 c2 m2 d2 g1 wr.heap.size HWn (Lib.hid (Fcsx1.out.belowW HX.out)) (Lib.hid (Fcsx2.out.belowW HX.out)) (Lib.hid (Fcsy1.out.belowW HX.out)) (Lib.hid (Fcsy2.out.belowW HX.out)) (Lib.hid (B1.out.belowW HX.out)) L1 (Lib.hid (Blk.new _ _ _)) (Lib.hid HW.out.size) (Nat.ne_of_lt B1.out.lt)
        rw [HG.out, HA0.out] at h9
        simp only [Act.put, List.setIfInBounds_toArray, List.set_cons_zero, List.set_cons_succ] at h9
        exact h9
      exact AllReadyH.nil
    have st_2_2 : ∀ (wr : World) (A1 : Option Addr) (U1 : Option Addr) (n1 : Nat) (c1 : Nat) (m1 : Nat) (d1 : Nat) (A2 : Option Addr) (U2 : Option Addr) (n2 : Nat) (c2 : Nat) (m2 : Nat) (d2 : Nat) (g2 : Nat), Hid (Below w4.heap.size w4 wr) → Hid (Sl wr A1 n1 c1 (limbs x1.k)) → Hid (Sl wr U1 m1 d1 (limbs x2.k)) → Hid (Sl wr A2 n2 c2 (limbs y1.k)) → Hid (Sl wr U2 m2 d2 (limbs y2.k)) → Hid (Blk wr g2 30 #[.bool false, .slice none 0 0, .int .i64 0, .bool false, .slice none 0 0, .int .i64 0, .bool false]) → Hid (w4.heap.size ≤ g2) → G 6 #[true, true, true, true, true, true, true, true, true, true, true, true, false, false, false, true, false, false, false] (((A0.put (some 35) (.agg #[.bool x1.neg, .slice A1 n1 c1, .int .i64 x1.e, .bool x2.neg, .slice U1 m1 d1, .int .i64 x2.e, .bool false])).put (some 42) (.agg #[.bool y1.neg, .slice A2 n2 c2, .int .i64 y1.e, .bool y2.neg, .slice U2 m2 d2, .int .i64 y2.e, .bool false])).put (some 12) (.pointer (some ⟨g2, 0, none⟩))) wr := by
      intro wr A1 U1 n1 c1 m1 d1 A2 U2 n2 c2 m2 d2 g2 HW Fcsx1 Fcsx2 Fcsy1 Fcsy2 B2 L2
      rw [HG.out, HA0.out]
      simp only [Act.put, List.setIfInBounds_toArray, List.set_cons_zero, List.set_cons_succ]
      have Dka := Lib.hid (F4ka.out.belowW HW.out)
      have Dkb := Lib.hid (F4kb.out.belowW HW.out)
      have Dt := Lib.hid (F4t.out.belowW HW.out)
      refine wpAnyH_ready (rs := [12, 13, 14]) (by kernel_rfl) (by simp) ?_
      refine AllReadyH.cons rfl (fun K hK => ?_) ?_
      case refine_1 =>
        go_simp
        (with_reducible refine (enclose_any bn bd N _ Dt.out.toRB b1 b2 b3 b4).mono ?_)
        rw [HZ.out]
        rintro e wn ⟨A3, U3, n3, c3, m3, d3, rfl, HS1, HS2, HX⟩
        go_wp2_with fail
        have HWn := Lib.hid (HW.out.trans (HX.out.mono HW.out.size))
        refine hK.out _ _ ?_ (fun hHeld => ?_)
        case refine_1 =>
          have D2ka := Lib.hid (F4ka.out.belowW HWn.out)
          have D2kb := Lib.hid (F4kb.out.belowW HWn.out)
          have D2t := Lib.hid (F4t.out.belowW HWn.out)
          exact ⟨D2ka.out.cell 0, D2ka.out.cell 1, D2kb.out.cell 0, D2kb.out.cell 1⟩
        clear hK K
        simp only [List.setIfInBounds_toArray, List.set_cons_zero, List.set_cons_succ]
        have h9 := st_3_2 wn A1 U1 n1 c1 m1 d1 A2 U2 n2 c2 m2 d2 A3 U3 n3 c3 m3 d3 g2 HWn (Lib.hid (Fcsx1.out.belowW HX.out)) (Lib.hid (Fcsx2.out.belowW HX.out)) (Lib.hid (Fcsy1.out.belowW HX.out)) (Lib.hid (Fcsy2.out.belowW HX.out)) (Lib.hid (HS1.out)) (Lib.hid (HS2.out)) (Lib.hid (B2.out.belowW HX.out)) L2
        rw [HG.out, HA0.out] at h9
        simp only [Act.put, List.setIfInBounds_toArray, List.set_cons_zero, List.set_cons_succ] at h9
        exact h9
      refine AllReadyH.cons rfl (fun K hK => ?_) ?_
      case refine_1 =>
        go_simp
        have HX := Lib.hid (below_a1 wr (.cells #[.bool false, .slice none 0 0, .int .i64 0, .bool false, .slice none 0 0, .int .i64 0, .bool false] 30))
        have HWn := Lib.hid (HW.out.trans (HX.out.mono HW.out.size))
        refine hK.out _ _ ?_ (fun hHeld => ?_)
        case refine_1 =>
          have D2ka := Lib.hid (F4ka.out.belowW HWn.out)
          have D2kb := Lib.hid (F4kb.out.belowW HWn.out)
          have D2t := Lib.hid (F4t.out.belowW HWn.out)
          exact ⟨D2ka.out.cell 0, D2ka.out.cell 1, D2kb.out.cell 0, D2kb.out.cell 1⟩
        clear hK K
        simp only [List.setIfInBounds_toArray, List.set_cons_zero, List.set_cons_succ]
        have h9 := st_2_02 ((wr.alloc (.cells #[.bool false, .slice none 0 0, .int .i64 0, .bool false, .slice none 0 0, .int .i64 0, .bool false] 30))) A1 U1 n1 c1 m1 d1 A2 U2 n2 c2 m2 d2 wr.heap.size g2 HWn (Lib.hid (Fcsx1.out.belowW HX.out)) (Lib.hid (Fcsx2.out.belowW HX.out)) (Lib.hid (Fcsy1.out.belowW HX.out)) (Lib.hid (Fcsy2.out.belowW HX.out)) (Lib.hid (Blk.new _ _ _)) (Lib.hid HW.out.size) (Lib.hid (B2.out.belowW HX.out)) L2 (Nat.ne_of_gt B2.out.lt)
        rw [HG.out, HA0.out] at h9
        simp only [Act.put, List.setIfInBounds_toArray, List.set_cons_zero, List.set_cons_succ] at h9
        exact h9
      refine AllReadyH.cons rfl (fun K hK => ?_) ?_
      case refine_1 =>
        go_simp
        have HX := Lib.hid (below_a1 wr (.cells #[.bool false, .slice none 0 0, .int .i64 0, .bool false, .slice none 0 0, .int .i64 0, .bool false] 30))
        have HWn := Lib.hid (HW.out.trans (HX.out.mono HW.out.size))
        refine hK.out _ _ ?_ (fun hHeld => ?_)
        case refine_1 =>
          have D2ka := Lib.hid (F4ka.out.belowW HWn.out)
          have D2kb := Lib.hid (F4kb.out.belowW HWn.out)
          have D2t := Lib.hid (F4t.out.belowW HWn.out)
          exact ⟨D2ka.out.cell 0, D2ka.out.cell 1, D2kb.out.cell 0, D2kb.out.cell 1⟩
        clear hK K
        simp only [List.setIfInBounds_toArray, List.set_cons_zero, List.set_cons_succ]
        have h9 := st_2_12 ((wr.alloc (.cells #[.bool false, .slice none 0 0, .int .i64 0, .bool false, .slice none 0 0, .int .i64 0, .bool false] 30))) A1 U1 n1 c1 m1 d1 A2 U2 n2 c2 m2 d2 wr.heap.size g2 HWn (Lib.hid (Fcsx1.out.belowW HX.out)) (Lib.hid (Fcsx2.out.belowW HX.out)) (Lib.hid (Fcsy1.out.belowW HX.out)) (Lib.hid (Fcsy2.out.belowW HX.out)) (Lib.hid (Blk.new _ _ _)) (Lib.hid HW.out.size) (Lib.hid (B2.out.belowW HX.out)) L2 (Nat.ne_of_gt B2.out.lt)
        rw [HG.out, HA0.out] at h9
        simp only [Act.put, List.setIfInBounds_toArray, List.set_cons_zero, List.set_cons_succ] at h9
        exact h9
      exact AllReadyH.nil
    have st_2_n : ∀ (wr : World) (A1 : Option Addr) (U1 : Option Addr) (n1 : Nat) (c1 : Nat) (m1 : Nat) (d1 : Nat) (A2 : Option Addr) (U2 : Option Addr) (n2 : Nat) (c2 : Nat) (m2 : Nat) (d2 : Nat), Hid (Below w4.heap.size w4 wr) → Hid (Sl wr A1 n1 c1 (limbs x1.k)) → Hid (Sl wr U1 m1 d1 (limbs x2.k)) → Hid (Sl wr A2 n2 c2 (limbs y1.k)) → Hid (Sl wr U2 m2 d2 (limbs y2.k)) → G 7 #[true, true, true, true, true, true, true, true, true, true, true, true, false, false, false, false, false, false, false] ((A0.put (some 35) (.agg #[.bool x1.neg, .slice A1 n1 c1, .int .i64 x1.e, .bool x2.neg, .slice U1 m1 d1, .int .i64 x2.e, .bool false])).put (some 42) (.agg #[.bool y1.neg, .slice A2 n2 c2, .int .i64 y1.e, .bool y2.neg, .slice U2 m2 d2, .int .i64 y2.e, .bool false])) wr := by
      intro wr A1 U1 n1 c1 m1 d1 A2 U2 n2 c2 m2 d2 HW Fcsx1 Fcsx2 Fcsy1 Fcsy2
      rw [HG.out, HA0.out]
      simp only [Act.put, List.setIfInBounds_toArray, List.set_cons_zero, List.set_cons_succ]
      have Dka := Lib.hid (F4ka.out.belowW HW.out)
      have Dkb := Lib.hid (F4kb.out.belowW HW.out)
      have Dt := Lib.hid (F4t.out.belowW HW.out)
      refine wpAnyH_ready (rs := [12, 13, 14, 15]) (by kernel_rfl) (by simp) ?_
      refine AllReadyH.cons rfl (fun K hK => ?_) ?_
      case refine_1 =>
        go_simp
        (with_reducible refine (enclose_any bn bd N _ Dt.out.toRB b1 b2 b3 b4).mono ?_)
        rw [HZ.out]
        rintro e wn ⟨A3, U3, n3, c3, m3, d3, rfl, HS1, HS2, HX⟩
        go_wp2_with fail
        have HWn := Lib.hid (HW.out.trans (HX.out.mono HW.out.size))
        refine hK.out _ _ ?_ (fun hHeld => ?_)
        case refine_1 =>
          have D2ka := Lib.hid (F4ka.out.belowW HWn.out)
          have D2kb := Lib.hid (F4kb.out.belowW HWn.out)
          have D2t := Lib.hid (F4t.out.belowW HWn.out)
          exact ⟨D2ka.out.cell 0, D2ka.out.cell 1, D2kb.out.cell 0, D2kb.out.cell 1⟩
        clear hK K
        simp only [List.setIfInBounds_toArray, List.set_cons_zero, List.set_cons_succ]
        have h9 := st_3_n wn A1 U1 n1 c1 m1 d1 A2 U2 n2 c2 m2 d2 A3 U3 n3 c3 m3 d3 HWn (Lib.hid (Fcsx1.out.belowW HX.out)) (Lib.hid (Fcsx2.out.belowW HX.out)) (Lib.hid (Fcsy1.out.belowW HX.out)) (Lib.hid (Fcsy2.out.belowW HX.out)) (Lib.hid (HS1.out)) (Lib.hid (HS2.out))
        rw [HG.out, HA0.out] at h9
        simp only [Act.put, List.setIfInBounds_toArray, List.set_cons_zero, List.set_cons_succ] at h9
        exact h9
      refine AllReadyH.cons rfl (fun K hK => ?_) ?_
      case refine_1 =>
        go_simp
        have HX := Lib.hid (below_a1 wr (.cells #[.bool false, .slice none 0 0, .int .i64 0, .bool false, .slice none 0 0, .int .i64 0, .bool false] 30))
        have HWn := Lib.hid (HW.out.trans (HX.out.mono HW.out.size))
        refine hK.out _ _ ?_ (fun hHeld => ?_)
        case refine_1 =>
          have D2ka := Lib.hid (F4ka.out.belowW HWn.out)
          have D2kb := Lib.hid (F4kb.out.belowW HWn.out)
          have D2t := Lib.hid (F4t.out.belowW HWn.out)
          exact ⟨D2ka.out.cell 0, D2ka.out.cell 1, D2kb.out.cell 0, D2kb.out.cell 1⟩
        clear hK K
        simp only [List.setIfInBounds_toArray, List.set_cons_zero, List.set_cons_succ]
        have h9 := st_2_0 ((wr.alloc (.cells #[.bool false, .slice none 0 0, .int .i64 0, .bool false, .slice none 0 0, .int .i64 0, .bool false] 30))) A1 U1 n1 c1 m1 d1 A2 U2 n2 c2 m2 d2 wr.heap.size HWn (Lib.hid (Fcsx1.out.belowW HX.out)) (Lib.hid (Fcsx2.out.belowW HX.out)) (Lib.hid (Fcsy1.out.belowW HX.out)) (Lib.hid (Fcsy2.out.belowW HX.out)) (Lib.hid (Blk.new _ _ _)) (Lib.hid HW.out.size)
        rw [HG.out, HA0.out] at h9
        simp only [Act.put, List.setIfInBounds_toArray, List.set_cons_zero, List.set_cons_succ] at h9
        exact h9
      refine AllReadyH.cons rfl (fun K hK => ?_) ?_
      case refine_1 =>
        go_simp
        have HX := Lib.hid (below_a1 wr (.cells #[.bool false, .slice none 0 0, .int .i64 0, .bool false, .slice none 0 0, .int .i64 0, .bool false] 30))
        have HWn := Lib.hid (HW.out.trans (HX.out.mono HW.out.size))
        refine hK.out _ _ ?_ (fun hHeld => ?_)
        case refine_1 =>
          have D2ka := Lib.hid (F4ka.out.belowW HWn.out)
          have D2kb := Lib.hid (F4kb.out.belowW HWn.out)
          have D2t := Lib.hid (F4t.out.belowW HWn.out)
          exact ⟨D2ka.out.cell 0, D2ka.out.cell 1, D2kb.out.cell 0, D2kb.out.cell 1⟩
        clear hK K
        simp only [List.setIfInBounds_toArray, List.set_cons_zero, List.set_cons_succ]
        have h9 := st_2_1 ((wr.alloc (.cells #[.bool false, .slice none 0 0, .int .i64 0, .bool false, .slice none 0 0, .int .i64 0, .bool false] 30))) A1 U1 n1 c1 m1 d1 A2 U2 n2 c2 m2 d2 wr.heap.size HWn (Lib.hid (Fcsx1.out.belowW HX.out)) (Lib.hid (Fcsx2.out.belowW HX.out)) (Lib.hid (Fcsy1.out.belowW HX.out)) (Lib.hid (Fcsy2.out.belowW HX.out)) (Lib.hid (Blk.new _ _ _)) (Lib.hid HW.out.size)
        rw [HG.out, HA0.out] at h9
        simp only [Act.put, List.setIfInBounds_toArray, List.set_cons_zero, List.set_cons_succ] at h9
        exact h9
      refine AllReadyH.cons rfl (fun K hK => ?_) ?_
      case refine_1 =>
        go_simp
        have HX := Lib.hid (below_a1 wr (.cells #[.bool false, .slice none 0 0, .int .i64 0, .bool false, .slice none 0 0, .int .i64 0, .bool false] 30))
        have HWn := Lib.hid (HW.out.trans (HX.out.mono HW.out.size))
        refine hK.out _ _ ?_ (fun hHeld => ?_)
        case refine_1 =>
          have D2ka := Lib.hid (F4ka.out.belowW HWn.out)
          have D2kb := Lib.hid (F4kb.out.belowW HWn.out)
          have D2t := Lib.hid (F4t.out.belowW HWn.out)
          exact ⟨D2ka.out.cell 0, D2ka.out.cell 1, D2kb.out.cell 0, D2kb.out.cell 1⟩
        clear hK K
        simp only [List.setIfInBounds_toArray, List.set_cons_zero, List.set_cons_succ]
        have h9 := st_2_2 ((wr.alloc (.cells #[.bool false, .slice none 0 0, .int .i64 0, .bool false, .slice none 0 0, .int .i64 0, .bool false] 30))) A1 U1 n1 c1 m1 d1 A2 U2 n2 c2 m2 d2 wr.heap.size HWn (Lib.hid (Fcsx1.out.belowW HX.out)) (Lib.hid (Fcsx2.out.belowW HX.out)) (Lib.hid (Fcsy1.out.belowW HX.out)) (Lib.hid (Fcsy2.out.belowW HX.out)) (Lib.hid (Blk.new _ _ _)) (Lib.hid HW.out.size)
        rw [HG.out, HA0.out] at h9
        simp only [Act.put, List.setIfInBounds_toArray, List.set_cons_zero, List.set_cons_succ] at h9
        exact h9
      exact AllReadyH.nil
    have st_1_012 : ∀ (wr : World) (A1 : Option Addr) (U1 : Option Addr) (n1 : Nat) (c1 : Nat) (m1 : Nat) (d1 : Nat) (g0 : Nat) (g1 : Nat) (g2 : Nat), Hid (Below w4.heap.size w4 wr) → Hid (Sl wr A1 n1 c1 (limbs x1.k)) → Hid (Sl wr U1 m1 d1 (limbs x2.k)) → Hid (Blk wr g0 30 #[.bool false, .slice none 0 0, .int .i64 0, .bool false, .slice none 0 0, .int .i64 0, .bool false]) → Hid (w4.heap.size ≤ g0) → Hid (Blk wr g1 30 #[.bool false, .slice none 0 0, .int .i64 0, .bool false, .slice none 0 0, .int .i64 0, .bool false]) → Hid (w4.heap.size ≤ g1) → Hid (Blk wr g2 30 #[.bool false, .slice none 0 0, .int .i64 0, .bool false, .slice none 0 0, .int .i64 0, .bool false]) → Hid (w4.heap.size ≤ g2) → g0 ≠ g1 → g0 ≠ g2 → g1 ≠ g2 → G 5 #[true, true, true, true, true, true, true, true, true, false, true, true, false, true, true, true, false, false, false] ((((A0.put (some 35) (.agg #[.bool x1.neg, .slice A1 n1 c1, .int .i64 x1.e, .bool x2.neg, .slice U1 m1 d1, .int .i64 x2.e, .bool false])).put (some 10) (.pointer (some ⟨g0, 0, none⟩))).put (some 11) (.pointer (some ⟨g1, 0, none⟩))).put (some 12) (.pointer (some ⟨g2, 0, none⟩))) wr := by
      intro wr A1 U1 n1 c1 m1 d1 g0 g1 g2 HW Fcsx1 Fcsx2 B0 L0 B1 L1 B2 L2 n01 n02 n12
      rw [HG.out, HA0.out]
      simp only [Act.put, List.setIfInBounds_toArray, List.set_cons_zero, List.set_cons_succ]
      have Dka := Lib.hid (F4ka.out.belowW HW.out)
      have Dkb := Lib.hid (F4kb.out.belowW HW.out)
      have Dt := Lib.hid (F4t.out.belowW HW.out)
      refine wpAnyH_ready (rs := [9]) (by kernel_rfl) (by simp) ?_
      refine AllReadyH.cons rfl (fun K hK => ?_) ?_
      case refine_1 =>
        go_simp
        (with_reducible refine (enclose_any an ad M _ Dt.out.toRB a1 a2 a3 a4).mono ?_)
        rw [HY.out]
        rintro e wn ⟨A2, U2, n2, c2, m2, d2, rfl, HS1, HS2, HX⟩
        go_wp2_with fail
        have HWn := Lib.hid (HW.out.trans (HX.out.mono HW.out.size))
        refine hK.out _ _ ?_ (fun hHeld => ?_)
        case refine_1 =>
          have D2ka := Lib.hid (F4ka.out.belowW HWn.out)
          have D2kb := Lib.hid (F4kb.out.belowW HWn.out)
          have D2t := Lib.hid (F4t.out.belowW HWn.out)
          exact ⟨D2ka.out.cell 0, D2ka.out.cell 1, D2kb.out.cell 0, D2kb.out.cell 1⟩
        clear hK K
        simp only [List.setIfInBounds_toArray, List.set_cons_zero, List.set_cons_succ]
        have h9 := st_2_012 wn A1 U1 n1 c1 m1 d1 A2 U2 n2 c2 m2 d2 g0 g1 g2 HWn (Lib.hid (Fcsx1.out.belowW HX.out)) (Lib.hid (Fcsx2.out.belowW HX.out)) (Lib.hid (HS1.out)) (Lib.hid (HS2.out)) (Lib.hid (B0.out.belowW HX.out)) L0 (Lib.hid (B1.out.belowW HX.out)) L1 (Lib.hid (B2.out.belowW HX.out)) L2 n01 n02 n12
        rw [HG.out, HA0.out] at h9
        simp only [Act.put, List.setIfInBounds_toArray, List.set_cons_zero, List.set_cons_succ] at h9
        exact h9
      exact AllReadyH.nil
    have st_1_01 : ∀ (wr : World) (A1 : Option Addr) (U1 : Option Addr) (n1 : Nat) (c1 : Nat) (m1 : Nat) (d1 : Nat) (g0 : Nat) (g1 : Nat), Hid (Below w4.heap.size w4 wr) → Hid (Sl wr A1 n1 c1 (limbs x1.k)) → Hid (Sl wr U1 m1 d1 (limbs x2.k)) → Hid (Blk wr g0 30 #[.bool false, .slice none 0 0, .int .i64 0, .bool false, .slice none 0 0, .int .i64 0, .bool false]) → Hid (w4.heap.size ≤ g0) → Hid (Blk wr g1 30 #[.bool false, .slice none 0 0, .int .i64 0, .bool false, .slice none 0 0, .int .i64 0, .bool false]) → Hid (w4.heap.size ≤ g1) → g0 ≠ g1 → G 6 #[true, true, true, true, true, true, true, true, true, false, true, true, false, true, true, false, false, false, false] (((A0.put (some 35) (.agg #[.bool x1.neg, .slice A1 n1 c1, .int .i64 x1.e, .bool x2.neg, .slice U1 m1 d1, .int .i64 x2.e, .bool false])).put (some 10) (.pointer (some ⟨g0, 0, none⟩))).put (some 11) (.pointer (some ⟨g1, 0, none⟩))) wr := by
      intro wr A1 U1 n1 c1 m1 d1 g0 g1 HW Fcsx1 Fcsx2 B0 L0 B1 L1 n01
      rw [HG.out, HA0.out]
      simp only [Act.put, List.setIfInBounds_toArray, List.set_cons_zero, List.set_cons_succ]
      have Dka := Lib.hid (F4ka.out.belowW HW.out)
      have Dkb := Lib.hid (F4kb.out.belowW HW.out)
      have Dt := Lib.hid (F4t.out.belowW HW.out)
      refine wpAnyH_ready (rs := [9, 15]) (by kernel_rfl) (by simp) ?_
      refine AllReadyH.cons rfl (fun K hK => ?_) ?_
      case refine_1 =>
        go_simp
        (with_reducible refine (enclose_any an ad M _ Dt.out.toRB a1 a2 a3 a4).mono ?_)
        rw [HY.out]
        rintro e wn ⟨A2, U2, n2, c2, m2, d2, rfl, HS1, HS2, HX⟩
        go_wp2_with fail
        have HWn := Lib.hid (HW.out.trans (HX.out.mono HW.out.size))
        refine hK.out _ _ ?_ (fun hHeld => ?_)
        case refine_1 =>
          have D2ka := Lib.hid (F4ka.out.belowW HWn.out)
          have D2kb := Lib.hid (F4kb.out.belowW HWn.out)
          have D2t := Lib.hid (F4t.out.belowW HWn.out)
          exact ⟨D2ka.out.cell 0, D2ka.out.cell 1, D2kb.out.cell 0, D2kb.out.cell 1⟩
        clear hK K
        simp only [List.setIfInBounds_toArray, List.set_cons_zero, List.set_cons_succ]
        have h9 := st_2_01 wn A1 U1 n1 c1 m1 d1 A2 U2 n2 c2 m2 d2 g0 g1 HWn (Lib.hid (Fcsx1.out.belowW HX.out)) (Lib.hid (Fcsx2.out.belowW HX.out)) (Lib.hid (HS1.out)) (Lib.hid (HS2.out)) (Lib.hid (B0.out.belowW HX.out)) L0 (Lib.hid (B1.out.belowW HX.out)) L1 n01
        rw [HG.out, HA0.out] at h9
        simp only [Act.put, List.setIfInBounds_toArray, List.set_cons_zero, List.set_cons_succ] at h9
        exact h9
      refine AllReadyH.cons rfl (fun K hK => ?_) ?_
      case refine_1 =>
        go_simp
        have HX := Lib.hid (below_a1 wr (.cells #[.bool false, .slice none 0 0, .int .i64 0, .bool false, .slice none 0 0, .int .i64 0, .bool false] 30))
        have HWn := Lib.hid (HW.out.trans (HX.out.mono HW.out.size))
        refine hK.out _ _ ?_ (fun hHeld => ?_)
        case refine_1 =>
          have D2ka := Lib.hid (F4ka.out.belowW HWn.out)
          have D2kb := Lib.hid (F4kb.out.belowW HWn.out)
          have D2t := Lib.hid (F4t.out.belowW HWn.out)
          exact ⟨D2ka.out.cell 0, D2ka.out.cell 1, D2kb.out.cell 0, D2kb.out.cell 1⟩
        clear hK K
        simp only [List.setIfInBounds_toArray, List.set_cons_zero, List.set_cons_succ]
        have h9 := st_1_012 ((wr.alloc (.cells #[.bool false, .slice none 0 0, .int .i64 0, .bool false, .slice none 0 0, .int .i64 0, .bool false] 30))) A1 U1 n1 c1 m1 d1 g0 g1 wr.heap.size HWn (Lib.hid (Fcsx1.out.belowW HX.out)) (Lib.hid (Fcsx2.out.belowW HX.out)) (Lib.hid (B0.out.belowW HX.out)) L0 (Lib.hid (B1.out.belowW HX.out)) L1 (Lib.hid (Blk.new _ _ _)) (Lib.hid HW.out.size) n01 (Nat.ne_of_lt B0.out.lt) (Nat.ne_of_lt B1.out.lt)
        rw [HG.out, HA0.out] at h9
        simp only [Act.put, List.setIfInBounds_toArray, List.set_cons_zero, List.set_cons_succ] at h9
        exact h9
      exact AllReadyH.nil
    have st_1_02 : ∀ (wr : World) (A1 : Option Addr) (U1 : Option Addr) (n1 : Nat) (c1 : Nat) (m1 : Nat) (d1 : Nat) (g0 : Nat) (g2 : Nat), Hid (Below w4.heap.size w4 wr) → Hid (Sl wr A1 n1 c1 (limbs x1.k)) → Hid (Sl wr U1 m1 d1 (limbs x2.k)) → Hid (Blk wr g0 30 #[.bool false, .slice none 0 0, .int .i64 0, .bool false, .slice none 0 0, .int .i64 0, .bool false]) → Hid (w4.heap.size ≤ g0) → Hid (Blk wr g2 30 #[.bool false, .slice none 0 0, .int .i64 0, .bool false, .slice none 0 0, .int .i64 0, .bool false]) → Hid (w4.heap.size ≤ g2) → g0 ≠ g2 → G 6 #[true, true, true, true, true, true, true, true, true, false, true, true, false, true, false, true, false, false, false] (((A0.put (some 35) (.agg #[.bool x1.neg, .slice A1 n1 c1, .int .i64 x1.e, .bool x2.neg, .slice U1 m1 d1, .int .i64 x2.e, .bool false])).put (some 10) (.pointer (some ⟨g0, 0, none⟩))).put (some 12) (.pointer (some ⟨g2, 0, none⟩))) wr := by
      intro wr A1 U1 n1 c1 m1 d1 g0 g2 HW Fcsx1 Fcsx2 B0 L0 B2 L2 n02
      rw [HG.out, HA0.out]
      simp only [Act.put, List.setIfInBounds_toArray, List.set_cons_zero, List.set_cons_succ]
      have Dka := Lib.hid (F4ka.out.belowW HW.out)
      have Dkb := Lib.hid (F4kb.out.belowW HW.out)
      have Dt := Lib.hid (F4t.out.belowW HW.out)
      refine wpAnyH_ready (rs := [9, 14]) (by kernel_rfl) (by simp) ?_
      refine AllReadyH.cons rfl (fun K hK => ?_) ?_
      case refine_1 =>
        go_simp
        (with_reducible refine (enclose_any an ad M _ Dt.out.toRB a1 a2 a3 a4).mono ?_)
        rw [HY.out]
        rintro e wn ⟨A2, U2, n2, c2, m2, d2, rfl, HS1, HS2, HX⟩
        go_wp2_with fail
        have HWn := Lib.hid (HW.out.trans (HX.out.mono HW.out.size))
        refine hK.out _ _ ?_ (fun hHeld => ?_)
        case refine_1 =>
          have D2ka := Lib.hid (F4ka.out.belowW HWn.out)
          have D2kb := Lib.hid (F4kb.out.belowW HWn.out)
          have D2t := Lib.hid (F4t.out.belowW HWn.out)
          exact ⟨D2ka.out.cell 0, D2ka.out.cell 1, D2kb.out.cell 0, D2kb.out.cell 1⟩
        clear hK K
        simp only [List.setIfInBounds_toArray, List.set_cons_zero, List.set_cons_succ]
        have h9 := st_2_02 wn A1 U1 n1 c1 m1 d1 A2 U2 n2 c2 m2 d2 g0 g2 HWn (Lib.hid (Fcsx1.out.belowW HX.out)) (Lib.hid (Fcsx2.out.belowW HX.out)) (Lib.hid (HS1.out)) (Lib.hid (HS2.out)) (Lib.hid (B0.out.belowW HX.out)) L0 (Lib.hid (B2.out.belowW HX.out)) L2 n02
        rw [HG.out, HA0.out] at h9
        simp only [Act.put, List.setIfInBounds_toArray, List.set_cons_zero, List.set_cons_succ] at h9
        exact h9
      refine AllReadyH.cons rfl (fun K hK => ?_) ?_
      case refine_1 =>
        go_simp
        have HX := Lib.hid (below_a1 wr (.cells #[.bool false, .slice none 0 0, .int .i64 0, .bool false, .slice none 0 0, .int .i64 0, .bool false] 30))
        have HWn := Lib.hid (HW.out.trans (HX.out.mono HW.out.size))
        refine hK.out _ _ ?_ (fun hHeld => ?_)
        case refine_1 =>
          have D2ka := Lib.hid (F4ka.out.belowW HWn.out)
          have D2kb := Lib.hid (F4kb.out.belowW HWn.out)
          have D2t := Lib.hid (F4t.out.belowW HWn.out)
          exact ⟨D2ka.out.cell 0, D2ka.out.cell 1, D2kb.out.cell 0, D2kb.out.cell 1⟩
        clear hK K
        simp only [List.setIfInBounds_toArray, List.set_cons_zero, List.set_cons_succ]
        have h9 := st_1_012 ((wr.alloc (.cells #[.bool false, .slice none 0 0, .int .i64 0, .bool false, .slice none 0 0, .int .i64 0, .bool false] 30))) A1 U1 n1 c1 m1 d1 g0 wr.heap.size g2 HWn (Lib.hid (Fcsx1.out.belowW HX.out)) (Lib.hid (Fcsx2.out.belowW HX.out)) (Lib.hid (B0.out.belowW HX.out)) L0 (Lib.hid (Blk.new _ _ _)) (Lib.hid HW.out.size) (Lib.hid (B2.out.belowW HX.out)) L2 (Nat.ne_of_lt B0.out.lt) n02 (Nat.ne_of_gt B2.out.lt)
        rw [HG.out, HA0.out] at h9
        simp only [Act.put, List.setIfInBounds_toArray, List.set_cons_zero, List.set_cons_succ] at h9
        exact h9
      exact AllReadyH.nil
    have st_1_12 : ∀ (wr : World) (A1 : Option Addr) (U1 : Option Addr) (n1 : Nat) (c1 : Nat) (m1 : Nat) (d1 : Nat) (g1 : Nat) (g2 : Nat), Hid (Below w4.heap.size w4 wr) → Hid (Sl wr A1 n1 c1 (limbs x1.k)) → Hid (Sl wr U1 m1 d1 (limbs x2.k)) → Hid (Blk wr g1 30 #[.bool false, .slice none 0 0, .int .i64 0, .bool false, .slice none 0 0, .int .i64 0, .bool false]) → Hid (w4.heap.size ≤ g1) → Hid (Blk wr g2 30 #[.bool false, .slice none 0 0, .int .i64 0, .bool false, .slice none 0 0, .int .i64 0, .bool false]) → Hid (w4.heap.size ≤ g2) → g1 ≠ g2 → G 6 #[true, true, true, true, true, true, true, true, true, false, true, true, false, false, true, true, false, false, false] (((A0.put (some 35) (.agg #[.bool x1.neg, .slice A1 n1 c1, .int .i64 x1.e, .bool x2.neg, .slice U1 m1 d1, .int .i64 x2.e, .bool false])).put (some 11) (.pointer (some ⟨g1, 0, none⟩))).put (some 12) (.pointer (some ⟨g2, 0, none⟩))) wr := by
      intro wr A1 U1 n1 c1 m1 d1 g1 g2 HW Fcsx1 Fcsx2 B1 L1 B2 L2 n12
      rw [HG.out, HA0.out]
      simp only [Act.put, List.setIfInBounds_toArray, List.set_cons_zero, List.set_cons_succ]
      have Dka := Lib.hid (F4ka.out.belowW HW.out)
      have Dkb := Lib.hid (F4kb.out.belowW HW.out)
      have Dt := Lib.hid (F4t.out.belowW HW.out)
      refine wpAnyH_ready (rs := [9, 13]) (by kernel_rfl) (by simp) ?_
      refine AllReadyH.cons rfl (fun K hK => ?_) ?_
      case refine_1 =>
        go_simp
        (with_reducible refine (enclose_any an ad M _ Dt.out.toRB a1 a2 a3 a4).mono ?_)
        rw [HY.out]
        rintro e wn ⟨A2, U2, n2, c2, m2, d2, rfl, HS1, HS2, HX⟩
        go_wp2_with fail
        have HWn := Lib.hid (HW.out.trans (HX.out.mono HW.out.size))
        refine hK.out _ _ ?_ (fun hHeld => ?_)
        case refine_1 =>
          have D2ka := Lib.hid (F4ka.out.belowW HWn.out)
          have D2kb := Lib.hid (F4kb.out.belowW HWn.out)
          have D2t := Lib.hid (F4t.out.belowW HWn.out)
          exact ⟨D2ka.out.cell 0, D2ka.out.cell 1, D2kb.out.cell 0, D2kb.out.cell 1⟩
        clear hK K
        simp only [List.setIfInBounds_toArray, List.set_cons_zero, List.set_cons_succ]
        have h9 := st_2_12 wn A1 U1 n1 c1 m1 d1 A2 U2 n2 c2 m2 d2 g1 g2 HWn (Lib.hid (Fcsx1.out.belowW HX.out)) (Lib.hid (Fcsx2.out.belowW HX.out)) (Lib.hid (HS1.out)) (Lib.hid (HS2.out)) (Lib.hid (B1.out.belowW HX.out)) L1 (Lib.hid (B2.out.belowW HX.out)) L2 n12
        rw [HG.out, HA0.out] at h9
        simp only [Act.put, List.setIfInBounds_toArray, List.set_cons_zero, List.set_cons_succ] at h9
        exact h9
      refine AllReadyH.cons rfl (fun K hK => ?_) ?_
      case refine_1 =>
        go_simp
        have HX := Lib.hid (below_a1 wr (.cells #[.bool false, .slice none 0 0, .int .i64 0, .bool false, .slice none 0 0, .int .i64 0, .bool false] 30))
        have HWn := Lib.hid (HW.out.trans (HX.out.mono HW.out.size))
        refine hK.out _ _ ?_ (fun hHeld => ?_)
        case refine_1 =>
          have D2ka := Lib.hid (F4ka.out.belowW HWn.out)
          have D2kb := Lib.hid (F4kb.out.belowW HWn.out)
          have D2t := Lib.hid (F4t.out.belowW HWn.out)
          exact ⟨D2ka.out.cell 0, D2ka.out.cell 1, D2kb.out.cell 0, D2kb.out.cell 1⟩
        clear hK K
        simp only [List.setIfInBounds_toArray, List.set_cons_zero, List.set_cons_succ]
        have h9 := st_1_012 ((wr.alloc (.cells #[.bool false, .slice none 0 0, .int .i64 0, .bool false, .slice none 0 0, .int .i64 0, .bool false] 30))) A1 U1 n1 c1 m1 d1 wr.heap.size g1 g2 HWn (Lib.hid (Fcsx1.out.belowW HX.out)) (Lib.hid (Fcsx2.out.belowW HX.out)) (Lib.hid (Blk.new _ _ _)) (Lib.hid HW.out.size) (Lib.hid (B1.out.belowW HX.out)) L1 (Lib.hid (B2.out.belowW HX.out)) L2 (Nat.ne_of_gt B1.out.lt) (Nat.ne_of_gt B2.out.lt) n12
        rw [HG.out, HA0.out] at h9
        simp only [Act.put, List.setIfInBounds_toArray, List.set_cons_zero, List.set_cons_succ] at h9
        exact h9
      exact AllReadyH.nil
    have st_1_0 : ∀ (wr : World) (A1 : Option Addr) (U1 : Option Addr) (n1 : Nat) (c1 : Nat) (m1 : Nat) (d1 : Nat) (g0 : Nat), Hid (Below w4.heap.size w4 wr) → Hid (Sl wr A1 n1 c1 (limbs x1.k)) → Hid (Sl wr U1 m1 d1 (limbs x2.k)) → Hid (Blk wr g0 30 #[.bool false, .slice none 0 0, .int .i64 0, .bool false, .slice none 0 0, .int .i64 0, .bool false]) → Hid (w4.heap.size ≤ g0) → G 7 #[true, true, true, true, true, true, true, true, true, false, true, true, false, true, false, false, false, false, false] ((A0.put (some 35) (.agg #[.bool x1.neg, .slice A1 n1 c1, .int .i64 x1.e, .bool x2.neg, .slice U1 m1 d1, .int .i64 x2.e, .bool false])).put (some 10) (.pointer (some ⟨g0, 0, none⟩))) wr := by
      intro wr A1 U1 n1 c1 m1 d1 g0 HW Fcsx1 Fcsx2 B0 L0
      rw [HG.out, HA0.out]
      simp only [Act.put, List.setIfInBounds_toArray, List.set_cons_zero, List.set_cons_succ]
      have Dka := Lib.hid (F4ka.out.belowW HW.out)
      have Dkb := Lib.hid (F4kb.out.belowW HW.out)
      have Dt := Lib.hid (F4t.out.belowW HW.out)
      refine wpAnyH_ready (rs := [9, 14, 15]) (by kernel_rfl) (by simp) ?_
      refine AllReadyH.cons rfl (fun K hK => ?_) ?_
      case refine_1 =>
        go_simp
        (with_reducible refine (enclose_any an ad M _ Dt.out.toRB a1 a2 a3 a4).mono ?_)
        rw [HY.out]
        rintro e wn ⟨A2, U2, n2, c2, m2, d2, rfl, HS1, HS2, HX⟩
        go_wp2_with fail
        have HWn := Lib.hid (HW.out.trans (HX.out.mono HW.out.size))
        refine hK.out _ _ ?_ (fun hHeld => ?_)
        case refine_1 =>
          have D2ka := Lib.hid (F4ka.out.belowW HWn.out)
          have D2kb := Lib.hid (F4kb.out.belowW HWn.out)
          have D2t := Lib.hid (F4t.out.belowW HWn.out)
          exact ⟨D2ka.out.cell 0, D2ka.out.cell 1, D2kb.out.cell 0, D2kb.out.cell 1⟩
        clear hK K
        simp only [List.setIfInBounds_toArray, List.set_cons_zero, List.set_cons_succ]
        have h9 := st_2_0 wn A1 U1 n1 c1 m1 d1 A2 U2 n2 c2 m2 d2 g0 HWn (Lib.hid (Fcsx1.out.belowW HX.out)) (Lib.hid (Fcsx2.out.belowW HX.out)) (Lib.hid (HS1.out)) (Lib.hid (HS2.out)) (Lib.hid (B0.out.belowW HX.out)) L0
        rw [HG.out, HA0.out] at h9
        simp only [Act.put, List.setIfInBounds_toArray, List.set_cons_zero, List.set_cons_succ] at h9
        exact h9
      refine AllReadyH.cons rfl (fun K hK => ?_) ?_
      case refine_1 =>
        go_simp
        have HX := Lib.hid (below_a1 wr (.cells #[.bool false, .slice none 0 0, .int .i64 0, .bool false, .slice none 0 0, .int .i64 0, .bool false] 30))
        have HWn := Lib.hid (HW.out.trans (HX.out.mono HW.out.size))
        refine hK.out _ _ ?_ (fun hHeld => ?_)
        case refine_1 =>
          have D2ka := Lib.hid (F4ka.out.belowW HWn.out)
          have D2kb := Lib.hid (F4kb.out.belowW HWn.out)
          have D2t := Lib.hid (F4t.out.belowW HWn.out)
          exact ⟨D2ka.out.cell 0, D2ka.out.cell 1, D2kb.out.cell 0, D2kb.out.cell 1⟩
        clear hK K
        simp only [List.setIfInBounds_toArray, List.set_cons_zero, List.set_cons_succ]
        have h9 := st_1_01 ((wr.alloc (.cells #[.bool false, .slice none 0 0, .int .i64 0, .bool false, .slice none 0 0, .int .i64 0, .bool false] 30))) A1 U1 n1 c1 m1 d1 g0 wr.heap.size HWn (Lib.hid (Fcsx1.out.belowW HX.out)) (Lib.hid (Fcsx2.out.belowW HX.out)) (Lib.hid (B0.out.belowW HX.out)) L0 (Lib.hid (Blk.new _ _ _)) (Lib.hid HW.out.size) (Nat.ne_of_lt B0.out.lt)
        rw [HG.out, HA0.out] at h9
        simp only [Act.put, List.setIfInBounds_toArray, List.set_cons_zero, List.set_cons_succ] at h9
        exact h9
      refine AllReadyH.cons rfl (fun K hK => ?_) ?_
      case refine_1 =>
        go_simp
        have HX := Lib.hid (below_a1 wr (.cells #[.bool false, .slice none 0 0, .int .i64 0, .bool false, .slice none 0 0, .int .i64 0, .bool false] 30))
        have HWn := Lib.hid (HW.out.trans (HX.out.mono HW.out.size))
        refine hK.out _ _ ?_ (fun hHeld => ?_)
        case refine_1 =>
          have D2ka := Lib.hid (F4ka.out.belowW HWn.out)
          have D2kb := Lib.hid (F4kb.out.belowW HWn.out)
          have D2t := Lib.hid (F4t.out.belowW HWn.out)
          exact ⟨D2ka.out.cell 0, D2ka.out.cell 1, D2kb.out.cell 0, D2kb.out.cell 1⟩
        clear hK K
        simp only [List.setIfInBounds_toArray, List.set_cons_zero, List.set_cons_succ]
        have h9 := st_1_02 ((wr.alloc (.cells #[.bool false, .slice none 0 0, .int .i64 0, .bool false, .slice none 0 0, .int .i64 0, .bool false] 30))) A1 U1 n1 c1 m1 d1 g0 wr.heap.size HWn (Lib.hid (Fcsx1.out.belowW HX.out)) (Lib.hid (Fcsx2.out.belowW HX.out)) (Lib.hid (B0.out.belowW HX.out)) L0 (Lib.hid (Blk.new _ _ _)) (Lib.hid HW.out.size) (Nat.ne_of_lt B0.out.lt)
        rw [HG.out, HA0.out] at h9
        simp only [Act.put, List.setIfInBounds_toArray, List.set_cons_zero, List.set_cons_succ] at h9
        exact h9
      exact AllReadyH.nil
    have st_1_1 : ∀ (wr : World) (A1 : Option Addr) (U1 : Option Addr) (n1 : Nat) (c1 : Nat) (m1 : Nat) (d1 : Nat) (g1 : Nat), Hid (Below w4.heap.size w4 wr) → Hid (Sl wr A1 n1 c1 (limbs x1.k)) → Hid (Sl wr U1 m1 d1 (limbs x2.k)) → Hid (Blk wr g1 30 #[.bool false, .slice none 0 0, .int .i64 0, .bool false, .slice none 0 0, .int .i64 0, .bool false]) → Hid (w4.heap.size ≤ g1) → G 7 #[true, true, true, true, true, true, true, true, true, false, true, true, false, false, true, false, false, false, false] ((A0.put (some 35) (.agg #[.bool x1.neg, .slice A1 n1 c1, .int .i64 x1.e, .bool x2.neg, .slice U1 m1 d1, .int .i64 x2.e, .bool false])).put (some 11) (.pointer (some ⟨g1, 0, none⟩))) wr := by
      intro wr A1 U1 n1 c1 m1 d1 g1 HW Fcsx1 Fcsx2 B1 L1
      rw [HG.out, HA0.out]
      simp only [Act.put, List.setIfInBounds_toArray, List.set_cons_zero, List.set_cons_succ]
      have Dka := Lib.hid (F4ka.out.belowW HW.out)
      have Dkb := Lib.hid (F4kb.out.belowW HW.out)
      have Dt := Lib.hid (F4t.out.belowW HW.out)
      refine wpAnyH_ready (rs := [9, 13, 15]) (by kernel_rfl) (by simp) ?_
      refine AllReadyH.cons rfl (fun K hK => ?_) ?_
      case refine_1 =>
        go_simp
        (with_reducible refine (enclose_any an ad M _ Dt.out.toRB a1 a2 a3 a4).mono ?_)
        rw [HY.out]
        rintro e wn ⟨A2, U2, n2, c2, m2, d2, rfl, HS1, HS2, HX⟩
        go_wp2_with fail
        have HWn := Lib.hid (HW.out.trans (HX.out.mono HW.out.size))
        refine hK.out _ _ ?_ (fun hHeld => ?_)
        case refine_1 =>
          have D2ka := Lib.hid (F4ka.out.belowW HWn.out)
          have D2kb := Lib.hid (F4kb.out.belowW HWn.out)
          have D2t := Lib.hid (F4t.out.belowW HWn.out)
          exact ⟨D2ka.out.cell 0, D2ka.out.cell 1, D2kb.out.cell 0, D2kb.out.cell 1⟩
        clear hK K
        simp only [List.setIfInBounds_toArray, List.set_cons_zero, List.set_cons_succ]
        have h9 := st_2_1 wn A1 U1 n1 c1 m1 d1 A2 U2 n2 c2 m2 d2 g1 HWn (Lib.hid (Fcsx1.out.belowW HX.out)) (Lib.hid (Fcsx2.out.belowW HX.out)) (Lib.hid (HS1.out)) (Lib.hid (HS2.out)) (Lib.hid (B1.out.belowW HX.out)) L1
        rw [HG.out, HA0.out] at h9
        simp only [Act.put, List.setIfInBounds_toArray, List.set_cons_zero, List.set_cons_succ] at h9
        exact h9
      refine AllReadyH.cons rfl (fun K hK => ?_) ?_
      case refine_1 =>
        go_simp
        have HX := Lib.hid (below_a1 wr (.cells #[.bool false, .slice none 0 0, .int .i64 0, .bool false, .slice none 0 0, .int .i64 0, .bool false] 30))
        have HWn := Lib.hid (HW.out.trans (HX.out.mono HW.out.size))
        refine hK.out _ _ ?_ (fun hHeld => ?_)
        case refine_1 =>
          have D2ka := Lib.hid (F4ka.out.belowW HWn.out)
          have D2kb := Lib.hid (F4kb.out.belowW HWn.out)
          have D2t := Lib.hid (F4t.out.belowW HWn.out)
          exact ⟨D2ka.out.cell 0, D2ka.out.cell 1, D2kb.out.cell 0, D2kb.out.cell 1⟩
        clear hK K
        simp only [List.setIfInBounds_toArray, List.set_cons_zero, List.set_cons_succ]
        have h9 := st_1_01 ((wr.alloc (.cells #[.bool false, .slice none 0 0, .int .i64 0, .bool false, .slice none 0 0, .int .i64 0, .bool false] 30))) A1 U1 n1 c1 m1 d1 wr.heap.size g1 HWn (Lib.hid (Fcsx1.out.belowW HX.out)) (Lib.hid (Fcsx2.out.belowW HX.out)) (Lib.hid (Blk.new _ _ _)) (Lib.hid HW.out.size) (Lib.hid (B1.out.belowW HX.out)) L1 (Nat.ne_of_gt B1.out.lt)
        rw [HG.out, HA0.out] at h9
        simp only [Act.put, List.setIfInBounds_toArray, List.set_cons_zero, List.set_cons_succ] at h9
        exact h9
      refine AllReadyH.cons rfl (fun K hK => ?_) ?_
      case refine_1 =>
        go_simp
        have HX := Lib.hid (below_a1 wr (.cells #[.bool false, .slice none 0 0, .int .i64 0, .bool false, .slice none 0 0, .int .i64 0, .bool false] 30))
        have HWn := Lib.hid (HW.out.trans (HX.out.mono HW.out.size))
        refine hK.out _ _ ?_ (fun hHeld => ?_)
        case refine_1 =>
          have D2ka := Lib.hid (F4ka.out.belowW HWn.out)
          have D2kb := Lib.hid (F4kb.out.belowW HWn.out)
          have D2t := Lib.hid (F4t.out.belowW HWn.out)
          exact ⟨D2ka.out.cell 0, D2ka.out.cell 1, D2kb.out.cell 0, D2kb.out.cell 1⟩
        clear hK K
        simp only [List.setIfInBounds_toArray, List.set_cons_zero, List.set_cons_succ]
        have h9 := st_1_12 ((wr.alloc (.cells #[.bool false, .slice none 0 0, .int .i64 0, .bool false, .slice none 0 0, .int .i64 0, .bool false] 30))) A1 U1 n1 c1 m1 d1 g1 wr.heap.size HWn (Lib.hid (Fcsx1.out.belowW HX.out)) (Lib.hid (Fcsx2.out.belowW HX.out)) (Lib.hid (B1.out.belowW HX.out)) L1 (Lib.hid (Blk.new _ _ _)) (Lib.hid HW.out.size) (Nat.ne_of_lt B1.out.lt)
        rw [HG.out, HA0.out] at h9
        simp only [Act.put, List.setIfInBounds_toArray, List.set_cons_zero, List.set_cons_succ] at h9
        exact h9
      exact AllReadyH.nil
    have st_1_2 : ∀ (wr : World) (A1 : Option Addr) (U1 : Option Addr) (n1 : Nat) (c1 : Nat) (m1 : Nat) (d1 : Nat) (g2 : Nat), Hid (Below w4.heap.size w4 wr) → Hid (Sl wr A1 n1 c1 (limbs x1.k)) → Hid (Sl wr U1 m1 d1 (limbs x2.k)) → Hid (Blk wr g2 30 #[.bool false, .slice none 0 0, .int .i64 0, .bool false, .slice none 0 0, .int .i64 0, .bool false]) → Hid (w4.heap.size ≤ g2) → G 7 #[true, true, true, true, true, true, true, true, true, false, true, true, false, false, false, true, false, false, false] ((A0.put (some 35) (.agg #[.bool x1.neg, .slice A1 n1 c1, .int .i64 x1.e, .bool x2.neg, .slice U1 m1 d1, .int .i64 x2.e, .bool false])).put (some 12) (.pointer (some ⟨g2, 0, none⟩))) wr := by
      intro wr A1 U1 n1 c1 m1 d1 g2 HW Fcsx1 Fcsx2 B2 L2
      rw [HG.out, HA0.out]
      simp only [Act.put, List.setIfInBounds_toArray, List.set_cons_zero, List.set_cons_succ]
      have Dka := Lib.hid (F4ka.out.belowW HW.out)
      have Dkb := Lib.hid (F4kb.out.belowW HW.out)
      have Dt := Lib.hid (F4t.out.belowW HW.out)
      refine wpAnyH_ready (rs := [9, 13, 14]) (by kernel_rfl) (by simp) ?_
      refine AllReadyH.cons rfl (fun K hK => ?_) ?_
      case refine_1 =>
        go_simp
        (with_reducible refine (enclose_any an ad M _ Dt.out.toRB a1 a2 a3 a4).mono ?_)
        rw [HY.out]
        rintro e wn ⟨A2, U2, n2, c2, m2, d2, rfl, HS1, HS2, HX⟩
        go_wp2_with fail
        have HWn := Lib.hid (HW.out.trans (HX.out.mono HW.out.size))
        refine hK.out _ _ ?_ (fun hHeld => ?_)
        case refine_1 =>
          have D2ka := Lib.hid (F4ka.out.belowW HWn.out)
          have D2kb := Lib.hid (F4kb.out.belowW HWn.out)
          have D2t := Lib.hid (F4t.out.belowW HWn.out)
          exact ⟨D2ka.out.cell 0, D2ka.out.cell 1, D2kb.out.cell 0, D2kb.out.cell 1⟩
        clear hK K
        simp only [List.setIfInBounds_toArray, List.set_cons_zero, List.set_cons_succ]
        have h9 := st_2_2 wn A1 U1 n1 c1 m1 d1 A2 U2 n2 c2 m2 d2 g2 HWn (Lib.hid (Fcsx1.out.belowW HX.out)) (Lib.hid (Fcsx2.out.belowW HX.out)) (Lib.hid (HS1.out)) (Lib.hid (HS2.out)) (Lib.hid (B2.out.belowW HX.out)) L2
        rw [HG.out, HA0.out] at h9
        simp only [Act.put, List.setIfInBounds_toArray, List.set_cons_zero, List.set_cons_succ] at h9
        exact h9
      refine AllReadyH.cons rfl (fun K hK => ?_) ?_
      case refine_1 =>
        go_simp
        have HX := Lib.hid (below_a1 wr (.cells #[.bool false, .slice none 0 0, .int .i64 0, .bool false, .slice none 0 0, .int .i64 0, .bool false] 30))
        have HWn := Lib.hid (HW.out.trans (HX.out.mono HW.out.size))
        refine hK.out _ _ ?_ (fun hHeld => ?_)
        case refine_1 =>
          have D2ka := Lib.hid (F4ka.out.belowW HWn.out)
          have D2kb := Lib.hid (F4kb.out.belowW HWn.out)
          have D2t := Lib.hid (F4t.out.belowW HWn.out)
          exact ⟨D2ka.out.cell 0, D2ka.out.cell 1, D2kb.out.cell 0, D2kb.out.cell 1⟩
        clear hK K
        simp only [List.setIfInBounds_toArray, List.set_cons_zero, List.set_cons_succ]
        have h9 := st_1_02 ((wr.alloc (.cells #[.bool false, .slice none 0 0, .int .i64 0, .bool false, .slice none 0 0, .int .i64 0, .bool false] 30))) A1 U1 n1 c1 m1 d1 wr.heap.size g2 HWn (Lib.hid (Fcsx1.out.belowW HX.out)) (Lib.hid (Fcsx2.out.belowW HX.out)) (Lib.hid (Blk.new _ _ _)) (Lib.hid HW.out.size) (Lib.hid (B2.out.belowW HX.out)) L2 (Nat.ne_of_gt B2.out.lt)
        rw [HG.out, HA0.out] at h9
        simp only [Act.put, List.setIfInBounds_toArray, List.set_cons_zero, List.set_cons_succ] at h9
        exact h9
      refine AllReadyH.cons rfl (fun K hK => ?_) ?_
      case refine_1 =>
        go_simp
        have HX := Lib.hid (below_a1 wr (.cells #[.bool false, .slice none 0 0, .int .i64 0, .bool false, .slice none 0 0, .int .i64 0, .bool false] 30))
        have HWn := Lib.hid (HW.out.trans (HX.out.mono HW.out.size))
        refine hK.out _ _ ?_ (fun hHeld => ?_)
        case refine_1 =>
          have D2ka := Lib.hid (F4ka.out.belowW HWn.out)
          have D2kb := Lib.hid (F4kb.out.belowW HWn.out)
          have D2t := Lib.hid (F4t.out.belowW HWn.out)
          exact ⟨D2ka.out.cell 0, D2ka.out.cell 1, D2kb.out.cell 0, D2kb.out.cell 1⟩
        clear hK K
        simp only [List.setIfInBounds_toArray, List.set_cons_zero, List.set_cons_succ]
        have h9 := st_1_12 ((wr.alloc (.cells #[.bool false, .slice none 0 0, .int .i64 0, .bool false, .slice none 0 0, .int .i64 0, .bool false] 30))) A1 U1 n1 c1 m1 d1 wr.heap.size g2 HWn (Lib.hid (Fcsx1.out.belowW HX.out)) (Lib.hid (Fcsx2.out.belowW HX.out)) (Lib.hid (Blk.new _ _ _)) (Lib.hid HW.out.size) (Lib.hid (B2.out.belowW HX.out)) L2 (Nat.ne_of_gt B2.out.lt)
        rw [HG.out, HA0.out] at h9
        simp only [Act.put, List.setIfInBounds_toArray, List.set_cons_zero, List.set_cons_succ] at h9
        exact h9
      exact AllReadyH.nil
    have st_1_n : ∀ (wr : World) (A1 : Option Addr) (U1 : Option Addr) (n1 : Nat) (c1 : Nat) (m1 : Nat) (d1 : Nat), Hid (Below w4.heap.size w4 wr) → Hid (Sl wr A1 n1 c1 (limbs x1.k)) → Hid (Sl wr U1 m1 d1 (limbs x2.k)) → G 8 #[true, true, true, true, true, true, true, true, true, false, true, true, false, false, false, false, false, false, false] (A0.put (some 35) (.agg #[.bool x1.neg, .slice A1 n1 c1, .int .i64 x1.e, .bool x2.neg, .slice U1 m1 d1, .int .i64 x2.e, .bool false])) wr := by
      intro wr A1 U1 n1 c1 m1 d1 HW Fcsx1 Fcsx2
      rw [HG.out, HA0.out]
      simp only [Act.put, List.setIfInBounds_toArray, List.set_cons_zero, List.set_cons_succ]
      have Dka := Lib.hid (F4ka.out.belowW HW.out)
      have Dkb := Lib.hid (F4kb.out.belowW HW.out)
      have Dt := Lib.hid (F4t.out.belowW HW.out)
      refine wpAnyH_ready (rs := [9, 13, 14, 15]) (by kernel_rfl) (by simp) ?_
      refine AllReadyH.cons rfl (fun K hK => ?_) ?_
      case refine_1 =>
        go_simp
        (with_reducible refine (enclose_any an ad M _ Dt.out.toRB a1 a2 a3 a4).mono ?_)
        rw [HY.out]
        rintro e wn ⟨A2, U2, n2, c2, m2, d2, rfl, HS1, HS2, HX⟩
        go_wp2_with fail
        have HWn := Lib.hid (HW.out.trans (HX.out.mono HW.out.size))
        refine hK.out _ _ ?_ (fun hHeld => ?_)
        case refine_1 =>
          have D2ka := Lib.hid (F4ka.out.belowW HWn.out)
          have D2kb := Lib.hid (F4kb.out.belowW HWn.out)
          have D2t := Lib.hid (F4t.out.belowW HWn.out)
          exact ⟨D2ka.out.cell 0, D2ka.out.cell 1, D2kb.out.cell 0, D2kb.out.cell 1⟩
        clear hK K
        simp only [List.setIfInBounds_toArray, List.set_cons_zero, List.set_cons_succ]
        have h9 := st_2_n wn A1 U1 n1 c1 m1 d1 A2 U2 n2 c2 m2 d2 HWn (Lib.hid (Fcsx1.out.belowW HX.out)) (Lib.hid (Fcsx2.out.belowW HX.out)) (Lib.hid (HS1.out)) (Lib.hid (HS2.out))
        rw [HG.out, HA0.out] at h9
        simp only [Act.put, List.setIfInBounds_toArray, List.set_cons_zero, List.set_cons_succ] at h9
        exact h9
      refine AllReadyH.cons rfl (fun K hK => ?_) ?_
      case refine_1 =>
        go_simp
        have HX := Lib.hid (below_a1 wr (.cells #[.bool false, .slice none 0 0, .int .i64 0, .bool false, .slice none 0 0, .int .i64 0, .bool false] 30))
        have HWn := Lib.hid (HW.out.trans (HX.out.mono HW.out.size))
        refine hK.out _ _ ?_ (fun hHeld => ?_)
        case refine_1 =>
          have D2ka := Lib.hid (F4ka.out.belowW HWn.out)
          have D2kb := Lib.hid (F4kb.out.belowW HWn.out)
          have D2t := Lib.hid (F4t.out.belowW HWn.out)
          exact ⟨D2ka.out.cell 0, D2ka.out.cell 1, D2kb.out.cell 0, D2kb.out.cell 1⟩
        clear hK K
        simp only [List.setIfInBounds_toArray, List.set_cons_zero, List.set_cons_succ]
        have h9 := st_1_0 ((wr.alloc (.cells #[.bool false, .slice none 0 0, .int .i64 0, .bool false, .slice none 0 0, .int .i64 0, .bool false] 30))) A1 U1 n1 c1 m1 d1 wr.heap.size HWn (Lib.hid (Fcsx1.out.belowW HX.out)) (Lib.hid (Fcsx2.out.belowW HX.out)) (Lib.hid (Blk.new _ _ _)) (Lib.hid HW.out.size)
        rw [HG.out, HA0.out] at h9
        simp only [Act.put, List.setIfInBounds_toArray, List.set_cons_zero, List.set_cons_succ] at h9
        exact h9
      refine AllReadyH.cons rfl (fun K hK => ?_) ?_
      case refine_1 =>
        go_simp
        have HX := Lib.hid (below_a1 wr (.cells #[.bool false, .slice none 0 0, .int .i64 0, .bool false, .slice none 0 0, .int .i64 0, .bool false] 30))
        have HWn := Lib.hid (HW.out.trans (HX.out.mono HW.out.size))
        refine hK.out _ _ ?_ (fun hHeld => ?_)
        case refine_1 =>
          have D2ka := Lib.hid (F4ka.out.belowW HWn.out)
          have D2kb := Lib.hid (F4kb.out.belowW HWn.out)
          have D2t := Lib.hid (F4t.out.belowW HWn.out)
          exact ⟨D2ka.out.cell 0, D2ka.out.cell 1, D2kb.out.cell 0, D2kb.out.cell 1⟩
        clear hK K
        simp only [List.setIfInBounds_toArray, List.set_cons_zero, List.set_cons_succ]
        have h9 := st_1_1 ((wr.alloc (.cells #[.bool false, .slice none 0 0, .int .i64 0, .bool false, .slice none 0 0, .int .i64 0, .bool false] 30))) A1 U1 n1 c1 m1 d1 wr.heap.size HWn (Lib.hid (Fcsx1.out.belowW HX.out)) (Lib.hid (Fcsx2.out.belowW HX.out)) (Lib.hid (Blk.new _ _ _)) (Lib.hid HW.out.size)
        rw [HG.out, HA0.out] at h9
        simp only [Act.put, List.setIfInBounds_toArray, List.set_cons_zero, List.set_cons_succ] at h9
        exact h9
      refine AllReadyH.cons rfl (fun K hK => ?_) ?_
      case refine_1 =>
        go_simp
        have HX := Lib.hid (below_a1 wr (.cells #[.bool false, .slice none 0 0, .int .i64 0, .bool false, .slice none 0 0, .int .i64 0, .bool false] 30))
        have HWn := Lib.hid (HW.out.trans (HX.out.mono HW.out.size))
        refine hK.out _ _ ?_ (fun hHeld => ?_)
        case refine_1 =>
          have D2ka := Lib.hid (F4ka.out.belowW HWn.out)
          have D2kb := Lib.hid (F4kb.out.belowW HWn.out)
          have D2t := Lib.hid (F4t.out.belowW HWn.out)
          exact ⟨D2ka.out.cell 0, D2ka.out.cell 1, D2kb.out.cell 0, D2kb.out.cell 1⟩
        clear hK K
        simp only [List.setIfInBounds_toArray, List.set_cons_zero, List.set_cons_succ]
        have h9 := st_1_2 ((wr.alloc (.cells #[.bool false, .slice none 0 0, .int .i64 0, .bool false, .slice none 0 0, .int .i64 0, .bool false] 30))) A1 U1 n1 c1 m1 d1 wr.heap.size HWn (Lib.hid (Fcsx1.out.belowW HX.out)) (Lib.hid (Fcsx2.out.belowW HX.out)) (Lib.hid (Blk.new _ _ _)) (Lib.hid HW.out.size)
        rw [HG.out, HA0.out] at h9
        simp only [Act.put, List.setIfInBounds_toArray, List.set_cons_zero, List.set_cons_succ] at h9
        exact h9
      exact AllReadyH.nil
    have st_0_012 : ∀ (wr : World) (g0 : Nat) (g1 : Nat) (g2 : Nat), Hid (Below w4.heap.size w4 wr) → Hid (Blk wr g0 30 #[.bool false, .slice none 0 0, .int .i64 0, .bool false, .slice none 0 0, .int .i64 0, .bool false]) → Hid (w4.heap.size ≤ g0) → Hid (Blk wr g1 30 #[.bool false, .slice none 0 0, .int .i64 0, .bool false, .slice none 0 0, .int .i64 0, .bool false]) → Hid (w4.heap.size ≤ g1) → Hid (Blk wr g2 30 #[.bool false, .slice none 0 0, .int .i64 0, .bool false, .slice none 0 0, .int .i64 0, .bool false]) → Hid (w4.heap.size ≤ g2) → g0 ≠ g1 → g0 ≠ g2 → g1 ≠ g2 → G 6 #[true, true, false, true, true, true, true, true, true, false, true, true, false, true, true, true, false, false, false] (((A0.put (some 10) (.pointer (some ⟨g0, 0, none⟩))).put (some 11) (.pointer (some ⟨g1, 0, none⟩))).put (some 12) (.pointer (some ⟨g2, 0, none⟩))) wr := by
      intro wr g0 g1 g2 HW B0 L0 B1 L1 B2 L2 n01 n02 n12
      rw [HG.out, HA0.out]
      simp only [Act.put, List.setIfInBounds_toArray, List.set_cons_zero, List.set_cons_succ]
      have Dka := Lib.hid (F4ka.out.belowW HW.out)
      have Dkb := Lib.hid (F4kb.out.belowW HW.out)
      have Dt := Lib.hid (F4t.out.belowW HW.out)
      refine wpAnyH_ready (rs := [2]) (by kernel_rfl) (by simp) ?_
      refine AllReadyH.cons rfl (fun K hK => ?_) ?_
      case refine_1 =>
        go_simp
        (with_reducible refine (enclose_any an ad N _ Dt.out.toRB a1 a2 a3 a4).mono ?_)
        rw [HX.out]
        rintro e wn ⟨A1, U1, n1, c1, m1, d1, rfl, HS1, HS2, HX⟩
        go_wp2_with fail
        have HWn := Lib.hid (HW.out.trans (HX.out.mono HW.out.size))
        refine hK.out _ _ ?_ (fun hHeld => ?_)
        case refine_1 =>
          have D2ka := Lib.hid (F4ka.out.belowW HWn.out)
          have D2kb := Lib.hid (F4kb.out.belowW HWn.out)
          have D2t := Lib.hid (F4t.out.belowW HWn.out)
          exact ⟨D2ka.out.cell 0, D2ka.out.cell 1, D2kb.out.cell 0, D2kb.out.cell 1⟩
        clear hK K
        simp only [List.setIfInBounds_toArray, List.set_cons_zero, List.set_cons_succ]
        have h9 := st_1_012 wn A1 U1 n1 c1 m1 d1 g0 g1 g2 HWn (Lib.hid (HS1.out)) (Lib.hid (HS2.out)) (Lib.hid (B0.out.belowW HX.out)) L0 (Lib.hid (B1.out.belowW HX.out)) L1 (Lib.hid (B2.out.belowW HX.out)) L2 n01 n02 n12
        rw [HG.out, HA0.out] at h9
        simp only [Act.put, List.setIfInBounds_toArray, List.set_cons_zero, List.set_cons_succ] at h9
        exact h9
      exact AllReadyH.nil
    have st_0_01 : ∀ (wr : World) (g0 : Nat) (g1 : Nat), Hid (Below w4.heap.size w4 wr) → Hid (Blk wr g0 30 #[.bool false, .slice none 0 0, .int .i64 0, .bool false, .slice none 0 0, .int .i64 0, .bool false]) → Hid (w4.heap.size ≤ g0) → Hid (Blk wr g1 30 #[.bool false, .slice none 0 0, .int .i64 0, .bool false, .slice none 0 0, .int .i64 0, .bool false]) → Hid (w4.heap.size ≤ g1) → g0 ≠ g1 → G 7 #[true, true, false, true, true, true, true, true, true, false, true, true, false, true, true, false, false, false, false] ((A0.put (some 10) (.pointer (some ⟨g0, 0, none⟩))).put (some 11) (.pointer (some ⟨g1, 0, none⟩))) wr := by
      intro wr g0 g1 HW B0 L0 B1 L1 n01
      rw [HG.out, HA0.out]
      simp only [Act.put, List.setIfInBounds_toArray, List.set_cons_zero, List.set_cons_succ]
      have Dka := Lib.hid (F4ka.out.belowW HW.out)
      have Dkb := Lib.hid (F4kb.out.belowW HW.out)
      have Dt := Lib.hid (F4t.out.belowW HW.out)
      refine wpAnyH_ready (rs := [2, 15]) (by kernel_rfl) (by simp) ?_
      refine AllReadyH.cons rfl (fun K hK => ?_) ?_
      case refine_1 =>
        go_simp
        (with_reducible refine (enclose_any an ad N _ Dt.out.toRB a1 a2 a3 a4).mono ?_)
        rw [HX.out]
        rintro e wn ⟨A1, U1, n1, c1, m1, d1, rfl, HS1, HS2, HX⟩
        go_wp2_with fail
        have HWn := Lib.hid (HW.out.trans (HX.out.mono HW.out.size))
        refine hK.out _ _ ?_ (fun hHeld => ?_)
        case refine_1 =>
          have D2ka := Lib.hid (F4ka.out.belowW HWn.out)
          have D2kb := Lib.hid (F4kb.out.belowW HWn.out)
          have D2t := Lib.hid (F4t.out.belowW HWn.out)
          exact ⟨D2ka.out.cell 0, D2ka.out.cell 1, D2kb.out.cell 0, D2kb.out.cell 1⟩
        clear hK K
        simp only [List.setIfInBounds_toArray, List.set_cons_zero, List.set_cons_succ]
        have h9 := st_1_01 wn A1 U1 n1 c1 m1 d1 g0 g1 HWn (Lib.hid (HS1.out)) (Lib.hid (HS2.out)) (Lib.hid (B0.out.belowW HX.out)) L0 (Lib.hid (B1.out.belowW HX.out)) L1 n01
        rw [HG.out, HA0.out] at h9
        simp only [Act.put, List.setIfInBounds_toArray, List.set_cons_zero, List.set_cons_succ] at h9
        exact h9
      refine AllReadyH.cons rfl (fun K hK => ?_) ?_
      case refine_1 =>
        go_simp
        have HX := Lib.hid (below_a1 wr (.cells #[.bool false, .slice none 0 0, .int .i64 0, .bool false, .slice none 0 0, .int .i64 0, .bool false] 30))
        have HWn := Lib.hid (HW.out.trans (HX.out.mono HW.out.size))
        refine hK.out _ _ ?_ (fun hHeld => ?_)
        case refine_1 =>
          have D2ka := Lib.hid (F4ka.out.belowW HWn.out)
          have D2kb := Lib.hid (F4kb.out.belowW HWn.out)
          have D2t := Lib.hid (F4t.out.belowW HWn.out)
          exact ⟨D2ka.out.cell 0, D2ka.out.cell 1, D2kb.out.cell 0, D2kb.out.cell 1⟩
        clear hK K
        simp only [List.setIfInBounds_toArray, List.set_cons_zero, List.set_cons_succ]
        have h9 := st_0_012 ((wr.alloc (.cells #[.bool false, .slice none 0 0, .int .i64 0, .bool false, .slice none 0 0, .int .i64 0, .bool false] 30))) g0 g1 wr.heap.size HWn (Lib.hid (B0.out.belowW HX.out)) L0 (Lib.hid (B1.out.belowW HX.out)) L1 (Lib.hid (Blk.new _ _ _)) (Lib.hid HW.out.size) n01 (Nat.ne_of_lt B0.out.lt) (Nat.ne_of_lt B1.out.lt)
        rw [HG.out, HA0.out] at h9
        simp only [Act.put, List.setIfInBounds_toArray, List.set_cons_zero, List.set_cons_succ] at h9
        exact h9
      exact AllReadyH.nil
    have st_0_02 : ∀ (wr : World) (g0 : Nat) (g2 : Nat), Hid (Below w4.heap.size w4 wr) → Hid (Blk wr g0 30 #[.bool false, .slice none 0 0, .int .i64 0, .bool false, .slice none 0 0, .int .i64 0, .bool false]) → Hid (w4.heap.size ≤ g0) → Hid (Blk wr g2 30 #[.bool false, .slice none 0 0, .int .i64 0, .bool false, .slice none 0 0, .int .i64 0, .bool false]) → Hid (w4.heap.size ≤ g2) → g0 ≠ g2 → G 7 #[true, true, false, true, true, true, true, true, true, false, true, true, false, true, false, true, false, false, false] ((A0.put (some 10) (.pointer (some ⟨g0, 0, none⟩))).put (some 12) (.pointer (some ⟨g2, 0, none⟩))) wr := by
      intro wr g0 g2 HW B0 L0 B2 L2 n02
      rw [HG.out, HA0.out]
      simp only [Act.put, List.setIfInBounds_toArray, List.set_cons_zero, List.set_cons_succ]
      have Dka := Lib.hid (F4ka.out.belowW HW.out)
      have Dkb := Lib.hid (F4kb.out.belowW HW.out)
      have Dt := Lib.hid (F4t.out.belowW HW.out)
      refine wpAnyH_ready (rs := [2, 14]) (by kernel_rfl) (by simp) ?_
      refine AllReadyH.cons rfl (fun K hK => ?_) ?_
      case refine_1 =>
        go_simp
        (with_reducible refine (enclose_any an ad N _ Dt.out.toRB a1 a2 a3 a4).mono ?_)
        rw [HX.out]
        rintro e wn ⟨A1, U1, n1, c1, m1, d1, rfl, HS1, HS2, HX⟩
        go_wp2_with fail
        have HWn := Lib.hid (HW.out.trans (HX.out.mono HW.out.size))
        refine hK.out _ _ ?_ (fun hHeld => ?_)
        case refine_1 =>
          have D2ka := Lib.hid (F4ka.out.belowW HWn.out)
          have D2kb := Lib.hid (F4kb.out.belowW HWn.out)
          have D2t := Lib.hid (F4t.out.belowW HWn.out)
          exact ⟨D2ka.out.cell 0, D2ka.out.cell 1, D2kb.out.cell 0, D2kb.out.cell 1⟩
        clear hK K
        simp only [List.setIfInBounds_toArray, List.set_cons_zero, List.set_cons_succ]
        have h9 := st_1_02 wn A1 U1 n1 c1 m1 d1 g0 g2 HWn (Lib.hid (HS1.out)) (Lib.hid (HS2.out)) (Lib.hid (B0.out.belowW HX.out)) L0 (Lib.hid (B2.out.belowW HX.out)) L2 n02
        rw [HG.out, HA0.out] at h9
        simp only [Act.put, List.setIfInBounds_toArray, List.set_cons_zero, List.set_cons_succ] at h9
        exact h9
      refine AllReadyH.cons rfl (fun K hK => ?_) ?_
      case refine_1 =>
        go_simp
        have HX := Lib.hid (below_a1 wr (.cells #[.bool false, .slice none 0 0, .int .i64 0, .bool false, .slice none 0 0, .int .i64 0, .bool false] 30))
        have HWn := Lib.hid (HW.out.trans (HX.out.mono HW.out.size))
        refine hK.out _ _ ?_ (fun hHeld => ?_)
        case refine_1 =>
          have D2ka := Lib.hid (F4ka.out.belowW HWn.out)
          have D2kb := Lib.hid (F4kb.out.belowW HWn.out)
          have D2t := Lib.hid (F4t.out.belowW HWn.out)
          exact ⟨D2ka.out.cell 0, D2ka.out.cell 1, D2kb.out.cell 0, D2kb.out.cell 1⟩
        clear hK K
        simp only [List.setIfInBounds_toArray, List.set_cons_zero, List.set_cons_succ]
        have h9 := st_0_012 ((wr.alloc (.cells #[.bool false, .slice none 0 0, .int .i64 0, .bool false, .slice none 0 0, .int .i64 0, .bool false] 30))) g0 wr.heap.size g2 HWn (Lib.hid (B0.out.belowW HX.out)) L0 (Lib.hid (Blk.new _ _ _)) (Lib.hid HW.out.size) (Lib.hid (B2.out.belowW HX.out)) L2 (Nat.ne_of_lt B0.out.lt) n02 (Nat.ne_of_gt B2.out.lt)
        rw [HG.out, HA0.out] at h9
        simp only [Act.put, List.setIfInBounds_toArray, List.set_cons_zero, List.set_cons_succ] at h9
        exact h9
      exact AllReadyH.nil
    have st_0_12 : ∀ (wr : World) (g1 : Nat) (g2 : Nat), Hid (Below w4.heap.size w4 wr) → Hid (Blk wr g1 30 #[.bool false, .slice none 0 0, .int .i64 0, .bool false, .slice none 0 0, .int .i64 0, .bool false]) → Hid (w4.heap.size ≤ g1) → Hid (Blk wr g2 30 #[.bool false, .slice none 0 0, .int .i64 0, .bool false, .slice none 0 0, .int .i64 0, .bool false]) → Hid (w4.heap.size ≤ g2) → g1 ≠ g2 → G 7 #[true, true, false, true, true, true, true, true, true, false, true, true, false, false, true, true, false, false, false] ((A0.put (some 11) (.pointer (some ⟨g1, 0, none⟩))).put (some 12) (.pointer (some ⟨g2, 0, none⟩))) wr := by
      intro wr g1 g2 HW B1 L1 B2 L2 n12
      rw [HG.out, HA0.out]
      simp only [Act.put, List.setIfInBounds_toArray, List.set_cons_zero, List.set_cons_succ]
      have Dka := Lib.hid (F4ka.out.belowW HW.out)
      have Dkb := Lib.hid (F4kb.out.belowW HW.out)
      have Dt := Lib.hid (F4t.out.belowW HW.out)
      refine wpAnyH_ready (rs := [2, 13]) (by kernel_rfl) (by simp) ?_
      refine AllReadyH.cons rfl (fun K hK => ?_) ?_
      case refine_1 =>
        go_simp
        (with_reducible refine (enclose_any an ad N _ Dt.out.toRB a1 a2 a3 a4).mono ?_)
        rw [HX.out]
        rintro e wn ⟨A1, U1, n1, c1, m1, d1, rfl, HS1, HS2, HX⟩
        go_wp2_with fail
        have HWn := Lib.hid (HW.out.trans (HX.out.mono HW.out.size))
        refine hK.out _ _ ?_ (fun hHeld => ?_)
        case refine_1 =>
          have D2ka := Lib.hid (F4ka.out.belowW HWn.out)
          have D2kb := Lib.hid (F4kb.out.belowW HWn.out)
          have D2t := Lib.hid (F4t.out.belowW HWn.out)
          exact ⟨D2ka.out.cell 0, D2ka.out.cell 1, D2kb.out.cell 0, D2kb.out.cell 1⟩
        clear hK K
        simp only [List.setIfInBounds_toArray, List.set_cons_zero, List.set_cons_succ]
        have h9 := st_1_12 wn A1 U1 n1 c1 m1 d1 g1 g2 HWn (Lib.hid (HS1.out)) (Lib.hid (HS2.out)) (Lib.hid (B1.out.belowW HX.out)) L1 (Lib.hid (B2.out.belowW HX.out)) L2 n12
        rw [HG.out, HA0.out] at h9
        simp only [Act.put, List.setIfInBounds_toArray, List.set_cons_zero, List.set_cons_succ] at h9
        exact h9
      refine AllReadyH.cons rfl (fun K hK => ?_) ?_
      case refine_1 =>
        go_simp
        have HX := Lib.hid (below_a1 wr (.cells #[.bool false, .slice none 0 0, .int .i64 0, .bool false, .slice none 0 0, .int .i64 0, .bool false] 30))
        have HWn := Lib.hid (HW.out.trans (HX.out.mono HW.out.size))
        refine hK.out _ _ ?_ (fun hHeld => ?_)
        case refine_1 =>
          have D2ka := Lib.hid (F4ka.out.belowW HWn.out)
          have D2kb := Lib.hid (F4kb.out.belowW HWn.out)
          have D2t := Lib.hid (F4t.out.belowW HWn.out)
          exact ⟨D2ka.out.cell 0, D2ka.out.cell 1, D2kb.out.cell 0, D2kb.out.cell 1⟩
        clear hK K
        simp only [List.setIfInBounds_toArray, List.set_cons_zero, List.set_cons_succ]
        have h9 := st_0_012 ((wr.alloc (.cells #[.bool false, .slice none 0 0, .int .i64 0, .bool false, .slice none 0 0, .int .i64 0, .bool false] 30))) wr.heap.size g1 g2 HWn (Lib.hid (Blk.new _ _ _)) (Lib.hid HW.out.size) (Lib.hid (B1.out.belowW HX.out)) L1 (Lib.hid (B2.out.belowW HX.out)) L2 (Nat.ne_of_gt B1.out.lt) (Nat.ne_of_gt B2.out.lt) n12
        rw [HG.out, HA0.out] at h9
        simp only [Act.put, List.setIfInBounds_toArray, List.set_cons_zero, List.set_cons_succ] at h9
        exact h9
      exact AllReadyH.nil
    have st_0_0 : ∀ (wr : World) (g0 : Nat), Hid (Below w4.heap.size w4 wr) → Hid (Blk wr g0 30 #[.bool false, .slice none 0 0, .int .i64 0, .bool false, .slice none 0 0, .int .i64 0, .bool false]) → Hid (w4.heap.size ≤ g0) → G 8 #[true, true, false, true, true, true, true, true, true, false, true, true, false, true, false, false, false, false, false] (A0.put (some 10) (.pointer (some ⟨g0, 0, none⟩))) wr := by
      intro wr g0 HW B0 L0
      rw [HG.out, HA0.out]
      simp only [Act.put, List.setIfInBounds_toArray, List.set_cons_zero, List.set_cons_succ]
      have Dka := Lib.hid (F4ka.out.belowW HW.out)
      have Dkb := Lib.hid (F4kb.out.belowW HW.out)
      have Dt := Lib.hid (F4t.out.belowW HW.out)
      refine wpAnyH_ready (rs := [2, 14, 15]) (by kernel_rfl) (by simp) ?_
      refine AllReadyH.cons rfl (fun K hK => ?_) ?_
      case refine_1 =>
        go_simp
        (with_reducible refine (enclose_any an ad N _ Dt.out.toRB a1 a2 a3 a4).mono ?_)
        rw [HX.out]
        rintro e wn ⟨A1, U1, n1, c1, m1, d1, rfl, HS1, HS2, HX⟩
        go_wp2_with fail
        have HWn := Lib.hid (HW.out.trans (HX.out.mono HW.out.size))
        refine hK.out _ _ ?_ (fun hHeld => ?_)
        case refine_1 =>
          have D2ka := Lib.hid (F4ka.out.belowW HWn.out)
          have D2kb := Lib.hid (F4kb.out.belowW HWn.out)
          have D2t := Lib.hid (F4t.out.belowW HWn.out)
          exact ⟨D2ka.out.cell 0, D2ka.out.cell 1, D2kb.out.cell 0, D2kb.out.cell 1⟩
        clear hK K
        simp only [List.setIfInBounds_toArray, List.set_cons_zero, List.set_cons_succ]
        have h9 := st_1_0 wn A1 U1 n1 c1 m1 d1 g0 HWn (Lib.hid (HS1.out)) (Lib.hid (HS2.out)) (Lib.hid (B0.out.belowW HX.out)) L0
        rw [HG.out, HA0.out] at h9
        simp only [Act.put, List.setIfInBounds_toArray, List.set_cons_zero, List.set_cons_succ] at h9
        exact h9
      refine AllReadyH.cons rfl (fun K hK => ?_) ?_
      case refine_1 =>
        go_simp
        have HX := Lib.hid (below_a1 wr (.cells #[.bool false, .slice none 0 0, .int .i64 0, .bool false, .slice none 0 0, .int .i64 0, .bool false] 30))
        have HWn := Lib.hid (HW.out.trans (HX.out.mono HW.out.size))
        refine hK.out _ _ ?_ (fun hHeld => ?_)
        case refine_1 =>
          have D2ka := Lib.hid (F4ka.out.belowW HWn.out)
          have D2kb := Lib.hid (F4kb.out.belowW HWn.out)
          have D2t := Lib.hid (F4t.out.belowW HWn.out)
          exact ⟨D2ka.out.cell 0, D2ka.out.cell 1, D2kb.out.cell 0, D2kb.out.cell 1⟩
        clear hK K
        simp only [List.setIfInBounds_toArray, List.set_cons_zero, List.set_cons_succ]
        have h9 := st_0_01 ((wr.alloc (.cells #[.bool false, .slice none 0 0, .int .i64 0, .bool false, .slice none 0 0, .int .i64 0, .bool false] 30))) g0 wr.heap.size HWn (Lib.hid (B0.out.belowW HX.out)) L0 (Lib.hid (Blk.new _ _ _)) (Lib.hid HW.out.size) (Nat.ne_of_lt B0.out.lt)
        rw [HG.out, HA0.out] at h9
        simp only [Act.put, List.setIfInBounds_toArray, List.set_cons_zero, List.set_cons_succ] at h9
        exact h9
      refine AllReadyH.cons rfl (fun K hK => ?_) ?_
      case refine_1 =>
        go_simp
        have HX := Lib.hid (below_a1 wr (.cells #[.bool false, .slice none 0 0, .int .i64 0, .bool false, .slice none 0 0, .int .i64 0, .bool false] 30))
        have HWn := Lib.hid (HW.out.trans (HX.out.mono HW.out.size))
        refine hK.out _ _ ?_ (fun hHeld => ?_)
        case refine_1 =>
          have D2ka := Lib.hid (F4ka.out.belowW HWn.out)
          have D2kb := Lib.hid (F4kb.out.belowW HWn.out)
          have D2t := Lib.hid (F4t.out.belowW HWn.out)
          exact ⟨D2ka.out.cell 0, D2ka.out.cell 1, D2kb.out.cell 0, D2kb.out.cell 1⟩
        clear hK K
        simp only [List.setIfInBounds_toArray, List.set_cons_zero, List.set_cons_succ]
        have h9 := st_0_02 ((wr.alloc (.cells #[.bool false, .slice none 0 0, .int .i64 0, .bool false, .slice none 0 0, .int .i64 0, .bool false] 30))) g0 wr.heap.size HWn (Lib.hid (B0.out.belowW HX.out)) L0 (Lib.hid (Blk.new _ _ _)) (Lib.hid HW.out.size) (Nat.ne_of_lt B0.out.lt)
        rw [HG.out, HA0.out] at h9
        simp only [Act.put, List.setIfInBounds_toArray, List.set_cons_zero, List.set_cons_succ] at h9
        exact h9
      exact AllReadyH.nil
    have st_0_1 : ∀ (wr : World) (g1 : Nat), Hid (Below w4.heap.size w4 wr) → Hid (Blk wr g1 30 #[.bool false, .slice none 0 0, .int .i64 0, .bool false, .slice none 0 0, .int .i64 0, .bool false]) → Hid (w4.heap.size ≤ g1) → G 8 #[true, true, false, true, true, true, true, true, true, false, true, true, false, false, true, false, false, false, false] (A0.put (some 11) (.pointer (some ⟨g1, 0, none⟩))) wr := by
      intro wr g1 HW B1 L1
      rw [HG.out, HA0.out]
      simp only [Act.put, List.setIfInBounds_toArray, List.set_cons_zero, List.set_cons_succ]
      have Dka := Lib.hid (F4ka.out.belowW HW.out)
      have Dkb := Lib.hid (F4kb.out.belowW HW.out)
      have Dt := Lib.hid (F4t.out.belowW HW.out)
      refine wpAnyH_ready (rs := [2, 13, 15]) (by kernel_rfl) (by simp) ?_
      refine AllReadyH.cons rfl (fun K hK => ?_) ?_
      case refine_1 =>
        go_simp
        (with_reducible refine (enclose_any an ad N _ Dt.out.toRB a1 a2 a3 a4).mono ?_)
        rw [HX.out]
        rintro e wn ⟨A1, U1, n1, c1, m1, d1, rfl, HS1, HS2, HX⟩
        go_wp2_with fail
        have HWn := Lib.hid (HW.out.trans (HX.out.mono HW.out.size))
        refine hK.out _ _ ?_ (fun hHeld => ?_)
        case refine_1 =>
          have D2ka := Lib.hid (F4ka.out.belowW HWn.out)
          have D2kb := Lib.hid (F4kb.out.belowW HWn.out)
          have D2t := Lib.hid (F4t.out.belowW HWn.out)
          exact ⟨D2ka.out.cell 0, D2ka.out.cell 1, D2kb.out.cell 0, D2kb.out.cell 1⟩
        clear hK K
        simp only [List.setIfInBounds_toArray, List.set_cons_zero, List.set_cons_succ]
        have h9 := st_1_1 wn A1 U1 n1 c1 m1 d1 g1 HWn (Lib.hid (HS1.out)) (Lib.hid (HS2.out)) (Lib.hid (B1.out.belowW HX.out)) L1
        rw [HG.out, HA0.out] at h9
        simp only [Act.put, List.setIfInBounds_toArray, List.set_cons_zero, List.set_cons_succ] at h9
        exact h9
      refine AllReadyH.cons rfl (fun K hK => ?_) ?_
      case refine_1 =>
        go_simp
        have HX := Lib.hid (below_a1 wr (.cells #[.bool false, .slice none 0 0, .int .i64 0, .bool false, .slice none 0 0, .int .i64 0, .bool false] 30))
        have HWn := Lib.hid (HW.out.trans (HX.out.mono HW.out.size))
        refine hK.out _ _ ?_ (fun hHeld => ?_)
        case refine_1 =>
          have D2ka := Lib.hid (F4ka.out.belowW HWn.out)
          have D2kb := Lib.hid (F4kb.out.belowW HWn.out)
          have D2t := Lib.hid (F4t.out.belowW HWn.out)
          exact ⟨D2ka.out.cell 0, D2ka.out.cell 1, D2kb.out.cell 0, D2kb.out.cell 1⟩
        clear hK K
        simp only [List.setIfInBounds_toArray, List.set_cons_zero, List.set_cons_succ]
        have h9 := st_0_01 ((wr.alloc (.cells #[.bool false, .slice none 0 0, .int .i64 0, .bool false, .slice none 0 0, .int .i64 0, .bool false] 30))) wr.heap.size g1 HWn (Lib.hid (Blk.new _ _ _)) (Lib.hid HW.out.size) (Lib.hid (B1.out.belowW HX.out)) L1 (Nat.ne_of_gt B1.out.lt)
        rw [HG.out, HA0.out] at h9
        simp only [Act.put, List.setIfInBounds_toArray, List.set_cons_zero, List.set_cons_succ] at h9
        exact h9
      refine AllReadyH.cons rfl (fun K hK => ?_) ?_
      case refine_1 =>
        go_simp
        have HX := Lib.hid (below_a1 wr (.cells #[.bool false, .slice none 0 0, .int .i64 0, .bool false, .slice none 0 0, .int .i64 0, .bool false] 30))
        have HWn := Lib.hid (HW.out.trans (HX.out.mono HW.out.size))
        refine hK.out _ _ ?_ (fun hHeld => ?_)
        case refine_1 =>
          have D2ka := Lib.hid (F4ka.out.belowW HWn.out)
          have D2kb := Lib.hid (F4kb.out.belowW HWn.out)
          have D2t := Lib.hid (F4t.out.belowW HWn.out)
          exact ⟨D2ka.out.cell 0, D2ka.out.cell 1, D2kb.out.cell 0, D2kb.out.cell 1⟩
        clear hK K
        simp only [List.setIfInBounds_toArray, List.set_cons_zero, List.set_cons_succ]
        have h9 := st_0_12 ((wr.alloc (.cells #[.bool false, .slice none 0 0, .int .i64 0, .bool false, .slice none 0 0, .int .i64 0, .bool false] 30))) g1 wr.heap.size HWn (Lib.hid (B1.out.belowW HX.out)) L1 (Lib.hid (Blk.new _ _ _)) (Lib.hid HW.out.size) (Nat.ne_of_lt B1.out.lt)
        rw [HG.out, HA0.out] at h9
        simp only [Act.put, List.setIfInBounds_toArray, List.set_cons_zero, List.set_cons_succ] at h9
        exact h9
      exact AllReadyH.nil
    have st_0_2 : ∀ (wr : World) (g2 : Nat), Hid (Below w4.heap.size w4 wr) → Hid (Blk wr g2 30 #[.bool false, .slice none 0 0, .int .i64 0, .bool false, .slice none 0 0, .int .i64 0, .bool false]) → Hid (w4.heap.size ≤ g2) → G 8 #[true, true, false, true, true, true, true, true, true, false, true, true, false, false, false, true, false, false, false] (A0.put (some 12) (.pointer (some ⟨g2, 0, none⟩))) wr := by
      intro wr g2 HW B2 L2
      rw [HG.out, HA0.out]
      simp only [Act.put, List.setIfInBounds_toArray, List.set_cons_zero, List.set_cons_succ]
      have Dka := Lib.hid (F4ka.out.belowW HW.out)
      have Dkb := Lib.hid (F4kb.out.belowW HW.out)
      have Dt := Lib.hid (F4t.out.belowW HW.out)
      refine wpAnyH_ready (rs := [2, 13, 14]) (by kernel_rfl) (by simp) ?_
      refine AllReadyH.cons rfl (fun K hK => ?_) ?_
      case refine_1 =>
        go_simp
        (with_reducible refine (enclose_any an ad N _ Dt.out.toRB a1 a2 a3 a4).mono ?_)
        rw [HX.out]
        rintro e wn ⟨A1, U1, n1, c1, m1, d1, rfl, HS1, HS2, HX⟩
        go_wp2_with fail
        have HWn := Lib.hid (HW.out.trans (HX.out.mono HW.out.size))
        refine hK.out _ _ ?_ (fun hHeld => ?_)
        case refine_1 =>
          have D2ka := Lib.hid (F4ka.out.belowW HWn.out)
          have D2kb := Lib.hid (F4kb.out.belowW HWn.out)
          have D2t := Lib.hid (F4t.out.belowW HWn.out)
          exact ⟨D2ka.out.cell 0, D2ka.out.cell 1, D2kb.out.cell 0, D2kb.out.cell 1⟩
        clear hK K
        simp only [List.setIfInBounds_toArray, List.set_cons_zero, List.set_cons_succ]
        have h9 := st_1_2 wn A1 U1 n1 c1 m1 d1 g2 HWn (Lib.hid (HS1.out)) (Lib.hid (HS2.out)) (Lib.hid (B2.out.belowW HX.out)) L2
        rw [HG.out, HA0.out] at h9
        simp only [Act.put, List.setIfInBounds_toArray, List.set_cons_zero, List.set_cons_succ] at h9
        exact h9
      refine AllReadyH.cons rfl (fun K hK => ?_) ?_
      case refine_1 =>
        go_simp
        have HX := Lib.hid (below_a1 wr (.cells #[.bool false, .slice none 0 0, .int .i64 0, .bool false, .slice none 0 0, .int .i64 0, .bool false] 30))
        have HWn := Lib.hid (HW.out.trans (HX.out.mono HW.out.size))
        refine hK.out _ _ ?_ (fun hHeld => ?_)
        case refine_1 =>
          have D2ka := Lib.hid (F4ka.out.belowW HWn.out)
          have D2kb := Lib.hid (F4kb.out.belowW HWn.out)
          have D2t := Lib.hid (F4t.out.belowW HWn.out)
          exact ⟨D2ka.out.cell 0, D2ka.out.cell 1, D2kb.out.cell 0, D2kb.out.cell 1⟩
        clear hK K
        simp only [List.setIfInBounds_toArray, List.set_cons_zero, List.set_cons_succ]
        have h9 := st_0_02 ((wr.alloc (.cells #[.bool false, .slice none 0 0, .int .i64 0, .bool false, .slice none 0 0, .int .i64 0, .bool false] 30))) wr.heap.size g2 HWn (Lib.hid (Blk.new _ _ _)) (Lib.hid HW.out.size) (Lib.hid (B2.out.belowW HX.out)) L2 (Nat.ne_of_gt B2.out.lt)
        rw [HG.out, HA0.out] at h9
        simp only [Act.put, List.setIfInBounds_toArray, List.set_cons_zero, List.set_cons_succ] at h9
        exact h9
      refine AllReadyH.cons rfl (fun K hK => ?_) ?_
      case refine_1 =>
        go_simp
        have HX := Lib.hid (below_a1 wr (.cells #[.bool false, .slice none 0 0, .int .i64 0, .bool false, .slice none 0 0, .int .i64 0, .bool false] 30))
        have HWn := Lib.hid (HW.out.trans (HX.out.mono HW.out.size))
        refine hK.out _ _ ?_ (fun hHeld => ?_)
        case refine_1 =>
          have D2ka := Lib.hid (F4ka.out.belowW HWn.out)
          have D2kb := Lib.hid (F4kb.out.belowW HWn.out)
          have D2t := Lib.hid (F4t.out.belowW HWn.out)
          exact ⟨D2ka.out.cell 0, D2ka.out.cell 1, D2kb.out.cell 0, D2kb.out.cell 1⟩
        clear hK K
        simp only [List.setIfInBounds_toArray, List.set_cons_zero, List.set_cons_succ]
        have h9 := st_0_12 ((wr.alloc (.cells #[.bool false, .slice none 0 0, .int .i64 0, .bool false, .slice none 0 0, .int .i64 0, .bool false] 30))) wr.heap.size g2 HWn (Lib.hid (Blk.new _ _ _)) (Lib.hid HW.out.size) (Lib.hid (B2.out.belowW HX.out)) L2 (Nat.ne_of_gt B2.out.lt)
        rw [HG.out, HA0.out] at h9
        simp only [Act.put, List.setIfInBounds_toArray, List.set_cons_zero, List.set_cons_succ] at h9
        exact h9
      exact AllReadyH.nil
    have st_0_n : ∀ (wr : World), Hid (Below w4.heap.size w4 wr) → G 9 #[true, true, false, true, true, true, true, true, true, false, true, true, false, false, false, false, false, false, false] A0 wr := by
      intro wr HW
      rw [HG.out, HA0.out]
      have Dka := Lib.hid (F4ka.out.belowW HW.out)
      have Dkb := Lib.hid (F4kb.out.belowW HW.out)
      have Dt := Lib.hid (F4t.out.belowW HW.out)
      refine wpAnyH_ready (rs := [2, 13, 14, 15]) (by kernel_rfl) (by simp) ?_
      refine AllReadyH.cons rfl (fun K hK => ?_) ?_
      case refine_1 =>
        go_simp
        (with_reducible refine (enclose_any an ad N _ Dt.out.toRB a1 a2 a3 a4).mono ?_)
        rw [HX.out]
        rintro e wn ⟨A1, U1, n1, c1, m1, d1, rfl, HS1, HS2, HX⟩
        go_wp2_with fail
        have HWn := Lib.hid (HW.out.trans (HX.out.mono HW.out.size))
        refine hK.out _ _ ?_ (fun hHeld => ?_)
        case refine_1 =>
          have D2ka := Lib.hid (F4ka.out.belowW HWn.out)
          have D2kb := Lib.hid (F4kb.out.belowW HWn.out)
          have D2t := Lib.hid (F4t.out.belowW HWn.out)
          exact ⟨D2ka.out.cell 0, D2ka.out.cell 1, D2kb.out.cell 0, D2kb.out.cell 1⟩
        clear hK K
        simp only [List.setIfInBounds_toArray, List.set_cons_zero, List.set_cons_succ]
        have h9 := st_1_n wn A1 U1 n1 c1 m1 d1 HWn (Lib.hid (HS1.out)) (Lib.hid (HS2.out))
        rw [HG.out, HA0.out] at h9
        simp only [Act.put, List.setIfInBounds_toArray, List.set_cons_zero, List.set_cons_succ] at h9
        exact h9
      refine AllReadyH.cons rfl (fun K hK => ?_) ?_
      case refine_1 =>
        go_simp
        have HX := Lib.hid (below_a1 wr (.cells #[.bool false, .slice none 0 0, .int .i64 0, .bool false, .slice none 0 0, .int .i64 0, .bool false] 30))
        have HWn := Lib.hid (HW.out.trans (HX.out.mono HW.out.size))
        refine hK.out _ _ ?_ (fun hHeld => ?_)
        case refine_1 =>
          have D2ka := Lib.hid (F4ka.out.belowW HWn.out)
          have D2kb := Lib.hid (F4kb.out.belowW HWn.out)
          have D2t := Lib.hid (F4t.out.belowW HWn.out)
          exact ⟨D2ka.out.cell 0, D2ka.out.cell 1, D2kb.out.cell 0, D2kb.out.cell 1⟩
        clear hK K
        simp only [List.setIfInBounds_toArray, List.set_cons_zero, List.set_cons_succ]
        have h9 := st_0_0 ((wr.alloc (.cells #[.bool false, .slice none 0 0, .int .i64 0, .bool false, .slice none 0 0, .int .i64 0, .bool false] 30))) wr.heap.size HWn (Lib.hid (Blk.new _ _ _)) (Lib.hid HW.out.size)
        rw [HG.out, HA0.out] at h9
        simp only [Act.put, List.setIfInBounds_toArray, List.set_cons_zero, List.set_cons_succ] at h9
        exact h9
      refine AllReadyH.cons rfl (fun K hK => ?_) ?_
      case refine_1 =>
        go_simp
        have HX := Lib.hid (below_a1 wr (.cells #[.bool false, .slice none 0 0, .int .i64 0, .bool false, .slice none 0 0, .int .i64 0, .bool false] 30))
        have HWn := Lib.hid (HW.out.trans (HX.out.mono HW.out.size))
        refine hK.out _ _ ?_ (fun hHeld => ?_)
        case refine_1 =>
          have D2ka := Lib.hid (F4ka.out.belowW HWn.out)
          have D2kb := Lib.hid (F4kb.out.belowW HWn.out)
          have D2t := Lib.hid (F4t.out.belowW HWn.out)
          exact ⟨D2ka.out.cell 0, D2ka.out.cell 1, D2kb.out.cell 0, D2kb.out.cell 1⟩
        clear hK K
        simp only [List.setIfInBounds_toArray, List.set_cons_zero, List.set_cons_succ]
        have h9 := st_0_1 ((wr.alloc (.cells #[.bool false, .slice none 0 0, .int .i64 0, .bool false, .slice none 0 0, .int .i64 0, .bool false] 30))) wr.heap.size HWn (Lib.hid (Blk.new _ _ _)) (Lib.hid HW.out.size)
        rw [HG.out, HA0.out] at h9
        simp only [Act.put, List.setIfInBounds_toArray, List.set_cons_zero, List.set_cons_succ] at h9
        exact h9
      refine AllReadyH.cons rfl (fun K hK => ?_) ?_
      case refine_1 =>
        go_simp
        have HX := Lib.hid (below_a1 wr (.cells #[.bool false, .slice none 0 0, .int .i64 0, .bool false, .slice none 0 0, .int .i64 0, .bool false] 30))
        have HWn := Lib.hid (HW.out.trans (HX.out.mono HW.out.size))
        refine hK.out _ _ ?_ (fun hHeld => ?_)
        case refine_1 =>
          have D2ka := Lib.hid (F4ka.out.belowW HWn.out)
          have D2kb := Lib.hid (F4kb.out.belowW HWn.out)
          have D2t := Lib.hid (F4t.out.belowW HWn.out)
          exact ⟨D2ka.out.cell 0, D2ka.out.cell 1, D2kb.out.cell 0, D2kb.out.cell 1⟩
        clear hK K
        simp only [List.setIfInBounds_toArray, List.set_cons_zero, List.set_cons_succ]
        have h9 := st_0_2 ((wr.alloc (.cells #[.bool false, .slice none 0 0, .int .i64 0, .bool false, .slice none 0 0, .int .i64 0, .bool false] 30))) wr.heap.size HWn (Lib.hid (Blk.new _ _ _)) (Lib.hid HW.out.size)
        rw [HG.out, HA0.out] at h9
        simp only [Act.put, List.setIfInBounds_toArray, List.set_cons_zero, List.set_cons_succ] at h9
        exact h9
      exact AllReadyH.nil
    have h9 := st_0_n _ HR5
    rw [HG.out, HA0.out] at h9 ⊢
    exact h9
  case rest =>
    obtain ⟨g0, g1, g2, A1, U1, A2, U2, A3, U3, n1, c1, m1, d1, n2, c2, m2, d2, n3, c3, m3, d3, rfl, rfl, rfl, FX, FY, FZ, FX1, FX2, FY1, FY2, FZ1, FZ2, HQQ⟩ := hcut
    obtain ⟨w6, hw⟩ : ∃ z9 : World, z9 = wc := ⟨_, rfl⟩
    rw [← hw] at FX FY FZ FX1 FX2 FY1 FY2 FZ1 FZ2 HQQ ⊢
    clear hw
    have F6t := Lib.hid (F4t.out.belowW HQQ.out)
    have F6ka := Lib.hid (F4ka.out.belowW HQQ.out)
    have F6kb := Lib.hid (F4kb.out.belowW HQQ.out)
    have HL6 := Lib.hid (HL4.out.trans (HQQ.out.mono HL4.out.size))
    clear F4t F4ka F4kb HL4 HQQ
    have pka0 : w6.cell? ⟨w.heap.size, 0, none⟩ = some (.int .i64 an) := F6ka.out.cell 0
    have pka1 : w6.cell? ⟨w.heap.size, 1, none⟩ = some (.int .i64 ad) := F6ka.out.cell 1
    have px0 : w6.cell? ⟨g0, 0, none⟩ = some (.bool x1.neg) := FX.out.cell 0
    have px1 : w6.cell? ⟨g0, 1, none⟩ = some (.slice A1 n1 c1) := FX.out.cell 1
    have px2 : w6.cell? ⟨g0, 2, none⟩ = some (.int .i64 x1.e) := FX.out.cell 2
    have px3 : w6.cell? ⟨g0, 3, none⟩ = some (.bool x2.neg) := FX.out.cell 3
    have px4 : w6.cell? ⟨g0, 4, none⟩ = some (.slice U1 m1 d1) := FX.out.cell 4
    have px5 : w6.cell? ⟨g0, 5, none⟩ = some (.int .i64 x2.e) := FX.out.cell 5
    have px6 : w6.cell? ⟨g0, 6, none⟩ = some (.bool false) := FX.out.cell 6
    have py6 : w6.cell? ⟨g1, 6, none⟩ = some (.bool false) := FY.out.cell 6
    have pz6 : w6.cell? ⟨g2, 6, none⟩ = some (.bool false) := FZ.out.cell 6
    go_wp2_with fail
    refine (compare_yes an ad x1 A1 n1 c1 w6 FX1.out VX1.out VA.out).mono ?_
    rw [HL1.out]
    rintro e w7 ⟨rfl, HB7⟩
    have F7t := Lib.hid (F6t.out.belowW HB7.out)
    have F7ka := Lib.hid (F6ka.out.belowW HB7.out)
    have F7kb := Lib.hid (F6kb.out.belowW HB7.out)
    have F7x := Lib.hid (FX.out.belowW HB7.out)
    have F7y := Lib.hid (FY.out.belowW HB7.out)
    have F7z := Lib.hid (FZ.out.belowW HB7.out)
    have F7sx1 := Lib.hid (FX1.out.belowW HB7.out)
    have F7sx2 := Lib.hid (FX2.out.belowW HB7.out)
    have F7sy1 := Lib.hid (FY1.out.belowW HB7.out)
    have F7sy2 := Lib.hid (FY2.out.belowW HB7.out)
    have F7sz1 := Lib.hid (FZ1.out.belowW HB7.out)
    have F7sz2 := Lib.hid (FZ2.out.belowW HB7.out)
    have HL7 := Lib.hid (HL6.out.trans (HB7.out.mono HL6.out.size))
    clear F6t F6ka F6kb FX FY FZ FX1 FX2 FY1 FY2 FZ1 FZ2 HL6 HB7
    clear pka0 pka1 px0 px1 px2 px3 px4 px5 px6 py6 pz6
    have pka0 : w7.cell? ⟨w.heap.size, 0, none⟩ = some (.int .i64 an) := F7ka.out.cell 0
    have pka1 : w7.cell? ⟨w.heap.size, 1, none⟩ = some (.int .i64 ad) := F7ka.out.cell 1
    have px3 : w7.cell? ⟨g0, 3, none⟩ = some (.bool x2.neg) := F7x.out.cell 3
    have px4 : w7.cell? ⟨g0, 4, none⟩ = some (.slice U1 m1 d1) := F7x.out.cell 4
    have px5 : w7.cell? ⟨g0, 5, none⟩ = some (.int .i64 x2.e) := F7x.out.cell 5
    go_wp2_with fail
    refine (compare_yes an ad x2 U1 m1 d1 w7 F7sx2.out VX2.out VA.out).mono ?_
    rw [HL2.out]
    rintro e w8 ⟨rfl, HB8⟩
    have F8t := Lib.hid (F7t.out.belowW HB8.out)
    have F8ka := Lib.hid (F7ka.out.belowW HB8.out)
    have F8kb := Lib.hid (F7kb.out.belowW HB8.out)
    have F8x := Lib.hid (F7x.out.belowW HB8.out)
    have F8y := Lib.hid (F7y.out.belowW HB8.out)
    have F8z := Lib.hid (F7z.out.belowW HB8.out)
    have F8sx1 := Lib.hid (F7sx1.out.belowW HB8.out)
    have F8sx2 := Lib.hid (F7sx2.out.belowW HB8.out)
    have F8sy1 := Lib.hid (F7sy1.out.belowW HB8.out)
    have F8sy2 := Lib.hid (F7sy2.out.belowW HB8.out)
    have F8sz1 := Lib.hid (F7sz1.out.belowW HB8.out)
    have F8sz2 := Lib.hid (F7sz2.out.belowW HB8.out)
    have HL8 := Lib.hid (HL7.out.trans (HB8.out.mono HL7.out.size))
    clear F7t F7ka F7kb F7x F7y F7z F7sx1 F7sx2 F7sy1 F7sy2 F7sz1 F7sz2 HL7 HB8
    clear pka0 pka1 px3 px4 px5
    have px0 : w8.cell? ⟨g0, 0, none⟩ = some (.bool x1.neg) := F8x.out.cell 0
    have px1 : w8.cell? ⟨g0, 1, none⟩ = some (.slice A1 n1 c1) := F8x.out.cell 1
    have px2 : w8.cell? ⟨g0, 2, none⟩ = some (.int .i64 x1.e) := F8x.out.cell 2
    go_wp2_with fail
    refine (is_any x1 A1 n1 c1 N w8 F8sx1.out VX1.out Z1 Z2).mono ?_
    rw [HI1.out]
    rintro e w9 ⟨rfl, HB9⟩
    have F9t := Lib.hid (F8t.out.belowW HB9.out)
    have F9ka := Lib.hid (F8ka.out.belowW HB9.out)
    have F9kb := Lib.hid (F8kb.out.belowW HB9.out)
    have F9x := Lib.hid (F8x.out.belowW HB9.out)
    have F9y := Lib.hid (F8y.out.belowW HB9.out)
    have F9z := Lib.hid (F8z.out.belowW HB9.out)
    have F9sx1 := Lib.hid (F8sx1.out.belowW HB9.out)
    have F9sx2 := Lib.hid (F8sx2.out.belowW HB9.out)
    have F9sy1 := Lib.hid (F8sy1.out.belowW HB9.out)
    have F9sy2 := Lib.hid (F8sy2.out.belowW HB9.out)
    have F9sz1 := Lib.hid (F8sz1.out.belowW HB9.out)
    have F9sz2 := Lib.hid (F8sz2.out.belowW HB9.out)
    have HL9 := Lib.hid (HL8.out.trans (HB9.out.mono HL8.out.size))
    clear F8t F8ka F8kb F8x F8y F8z F8sx1 F8sx2 F8sy1 F8sy2 F8sz1 F8sz2 HL8 HB9
    clear px0 px1 px2
    have px3 : w9.cell? ⟨g0, 3, none⟩ = some (.bool x2.neg) := F9x.out.cell 3
    have px4 : w9.cell? ⟨g0, 4, none⟩ = some (.slice U1 m1 d1) := F9x.out.cell 4
    have px5 : w9.cell? ⟨g0, 5, none⟩ = some (.int .i64 x2.e) := F9x.out.cell 5
    go_wp2_with fail
    refine (is_any x2 U1 m1 d1 N w9 F9sx2.out VX2.out Z1 Z2).mono ?_
    rw [HI2.out]
    rintro e w10 ⟨rfl, HB10⟩
    have F10t := Lib.hid (F9t.out.belowW HB10.out)
    have F10ka := Lib.hid (F9ka.out.belowW HB10.out)
    have F10kb := Lib.hid (F9kb.out.belowW HB10.out)
    have F10x := Lib.hid (F9x.out.belowW HB10.out)
    have F10y := Lib.hid (F9y.out.belowW HB10.out)
    have F10z := Lib.hid (F9z.out.belowW HB10.out)
    have F10sx1 := Lib.hid (F9sx1.out.belowW HB10.out)
    have F10sx2 := Lib.hid (F9sx2.out.belowW HB10.out)
    have F10sy1 := Lib.hid (F9sy1.out.belowW HB10.out)
    have F10sy2 := Lib.hid (F9sy2.out.belowW HB10.out)
    have F10sz1 := Lib.hid (F9sz1.out.belowW HB10.out)
    have F10sz2 := Lib.hid (F9sz2.out.belowW HB10.out)
    have HL10 := Lib.hid (HL9.out.trans (HB10.out.mono HL9.out.size))
    clear F9t F9ka F9kb F9x F9y F9z F9sx1 F9sx2 F9sy1 F9sy2 F9sz1 F9sz2 HL9 HB10
    clear px3 px4 px5
    have px0 : w10.cell? ⟨g0, 0, none⟩ = some (.bool x1.neg) := F10x.out.cell 0
    have px1 : w10.cell? ⟨g0, 1, none⟩ = some (.slice A1 n1 c1) := F10x.out.cell 1
    have px2 : w10.cell? ⟨g0, 2, none⟩ = some (.int .i64 x1.e) := F10x.out.cell 2
    have py0 : w10.cell? ⟨g1, 0, none⟩ = some (.bool y1.neg) := F10y.out.cell 0
    have py1 : w10.cell? ⟨g1, 1, none⟩ = some (.slice A2 n2 c2) := F10y.out.cell 1
    have py2 : w10.cell? ⟨g1, 2, none⟩ = some (.int .i64 y1.e) := F10y.out.cell 2
    go_wp2_with fail
    refine (dcmp_any x1 y1 A1 A2 n1 c1 n2 c2 w10 F10sx1.out F10sy1.out VX1.out VY1.out).mono ?_
    rw [HK1.out]
    rintro e w11 ⟨rfl, HB11⟩
    have F11t := Lib.hid (F10t.out.belowW HB11.out)
    have F11ka := Lib.hid (F10ka.out.belowW HB11.out)
    have F11kb := Lib.hid (F10kb.out.belowW HB11.out)
    have F11x := Lib.hid (F10x.out.belowW HB11.out)
    have F11y := Lib.hid (F10y.out.belowW HB11.out)
    have F11z := Lib.hid (F10z.out.belowW HB11.out)
    have F11sx1 := Lib.hid (F10sx1.out.belowW HB11.out)
    have F11sx2 := Lib.hid (F10sx2.out.belowW HB11.out)
    have F11sy1 := Lib.hid (F10sy1.out.belowW HB11.out)
    have F11sy2 := Lib.hid (F10sy2.out.belowW HB11.out)
    have F11sz1 := Lib.hid (F10sz1.out.belowW HB11.out)
    have F11sz2 := Lib.hid (F10sz2.out.belowW HB11.out)
    have HL11 := Lib.hid (HL10.out.trans (HB11.out.mono HL10.out.size))
    clear F10t F10ka F10kb F10x F10y F10z F10sx1 F10sx2 F10sy1 F10sy2 F10sz1 F10sz2 HL10 HB11
    clear px0 px1 px2 py0 py1 py2
    have px3 : w11.cell? ⟨g0, 3, none⟩ = some (.bool x2.neg) := F11x.out.cell 3
    have px4 : w11.cell? ⟨g0, 4, none⟩ = some (.slice U1 m1 d1) := F11x.out.cell 4
    have px5 : w11.cell? ⟨g0, 5, none⟩ = some (.int .i64 x2.e) := F11x.out.cell 5
    have py3 : w11.cell? ⟨g1, 3, none⟩ = some (.bool y2.neg) := F11y.out.cell 3
    have py4 : w11.cell? ⟨g1, 4, none⟩ = some (.slice U2 m2 d2) := F11y.out.cell 4
    have py5 : w11.cell? ⟨g1, 5, none⟩ = some (.int .i64 y2.e) := F11y.out.cell 5
    go_wp2_with fail
    refine (dcmp_any x2 y2 U1 U2 m1 d1 m2 d2 w11 F11sx2.out F11sy2.out VX2.out VY2.out).mono ?_
    rw [HK2.out]
    rintro e w12 ⟨rfl, HB12⟩
    have F12t := Lib.hid (F11t.out.belowW HB12.out)
    have F12ka := Lib.hid (F11ka.out.belowW HB12.out)
    have F12kb := Lib.hid (F11kb.out.belowW HB12.out)
    have F12x := Lib.hid (F11x.out.belowW HB12.out)
    have F12y := Lib.hid (F11y.out.belowW HB12.out)
    have F12z := Lib.hid (F11z.out.belowW HB12.out)
    have F12sx1 := Lib.hid (F11sx1.out.belowW HB12.out)
    have F12sx2 := Lib.hid (F11sx2.out.belowW HB12.out)
    have F12sy1 := Lib.hid (F11sy1.out.belowW HB12.out)
    have F12sy2 := Lib.hid (F11sy2.out.belowW HB12.out)
    have F12sz1 := Lib.hid (F11sz1.out.belowW HB12.out)
    have F12sz2 := Lib.hid (F11sz2.out.belowW HB12.out)
    have HL12 := Lib.hid (HL11.out.trans (HB12.out.mono HL11.out.size))
    clear F11t F11ka F11kb F11x F11y F11z F11sx1 F11sx2 F11sy1 F11sy2 F11sz1 F11sz2 HL11 HB12
    clear px3 px4 px5 py3 py4 py5
    have pka0 : w12.cell? ⟨w.heap.size, 0, none⟩ = some (.int .i64 an) := F12ka.out.cell 0
    have pka1 : w12.cell? ⟨w.heap.size, 1, none⟩ = some (.int .i64 ad) := F12ka.out.cell 1
    go_wp2_with fail
    refine (exact_any an ad w12 F12t.out.toRB a1 a2 a3 a4).mono ?_
    rw [HXE.out]
    rintro e w13 ⟨L, ln, lc, rfl, HS, HB13⟩
    have F13t := Lib.hid (F12t.out.belowW HB13.out)
    have F13ka := Lib.hid (F12ka.out.belowW HB13.out)
    have F13kb := Lib.hid (F12kb.out.belowW HB13.out)
    have F13x := Lib.hid (F12x.out.belowW HB13.out)
    have F13y := Lib.hid (F12y.out.belowW HB13.out)
    have F13z := Lib.hid (F12z.out.belowW HB13.out)
    have F13sx1 := Lib.hid (F12sx1.out.belowW HB13.out)
    have F13sx2 := Lib.hid (F12sx2.out.belowW HB13.out)
    have F13sy1 := Lib.hid (F12sy1.out.belowW HB13.out)
    have F13sy2 := Lib.hid (F12sy2.out.belowW HB13.out)
    have F13sz1 := Lib.hid (F12sz1.out.belowW HB13.out)
    have F13sz2 := Lib.hid (F12sz2.out.belowW HB13.out)
    have HL13 := Lib.hid (HL12.out.trans (HB13.out.mono HL12.out.size))
    clear F12t F12ka F12kb F12x F12y F12z F12sx1 F12sx2 F12sy1 F12sy2 F12sz1 F12sz2 HL12 HB13
    have F13e := Lib.hid (HS.out)
    clear pka0 pka1
    go_upto_region 16 with (fail)
    obtain ⟨w14, hw⟩ : ∃ z9 : World, z9 = w13.alloc (.cells #[.bool xe.neg, .slice L ln lc, .int .i64 xe.e] 28) := ⟨_, rfl⟩
    have HB14 := Lib.hid (show Below w13.heap.size w13 w14 by rw [hw]; exact below_a1 _ _)
    have F14ve := Lib.hid (show Blk w14 w13.heap.size 28 #[.bool xe.neg, .slice L ln lc, .int .i64 xe.e] by rw [hw]; exact Blk.new _ _ _)
    rw [← hw]
    clear hw
    have F14t := Lib.hid (F13t.out.belowW HB14.out)
    have F14ka := Lib.hid (F13ka.out.belowW HB14.out)
    have F14kb := Lib.hid (F13kb.out.belowW HB14.out)
    have F14x := Lib.hid (F13x.out.belowW HB14.out)
    have F14y := Lib.hid (F13y.out.belowW HB14.out)
    have F14z := Lib.hid (F13z.out.belowW HB14.out)
    have F14sx1 := Lib.hid (F13sx1.out.belowW HB14.out)
    have F14sx2 := Lib.hid (F13sx2.out.belowW HB14.out)
    have F14sy1 := Lib.hid (F13sy1.out.belowW HB14.out)
    have F14sy2 := Lib.hid (F13sy2.out.belowW HB14.out)
    have F14sz1 := Lib.hid (F13sz1.out.belowW HB14.out)
    have F14sz2 := Lib.hid (F13sz2.out.belowW HB14.out)
    have F14e := Lib.hid (F13e.out.belowW HB14.out)
    have HL14 := Lib.hid (HL13.out.trans (HB14.out.mono HL13.out.size))
    clear F13t F13ka F13kb F13x F13y F13z F13sx1 F13sx2 F13sy1 F13sy2 F13sz1 F13sz2 F13e HL13 HB14
    have px0 : w14.cell? ⟨g0, 0, none⟩ = some (.bool x1.neg) := F14x.out.cell 0
    have px1 : w14.cell? ⟨g0, 1, none⟩ = some (.slice A1 n1 c1) := F14x.out.cell 1
    have px2 : w14.cell? ⟨g0, 2, none⟩ = some (.int .i64 x1.e) := F14x.out.cell 2
    have px3 : w14.cell? ⟨g0, 3, none⟩ = some (.bool x2.neg) := F14x.out.cell 3
    have px4 : w14.cell? ⟨g0, 4, none⟩ = some (.slice U1 m1 d1) := F14x.out.cell 4
    have px5 : w14.cell? ⟨g0, 5, none⟩ = some (.int .i64 x2.e) := F14x.out.cell 5
    have px6 : w14.cell? ⟨g0, 6, none⟩ = some (.bool false) := F14x.out.cell 6
    have pve0 : w14.cell? ⟨w13.heap.size, 0, none⟩ = some (.bool xe.neg) := F14ve.out.cell 0
    have pve1 : w14.cell? ⟨w13.heap.size, 1, none⟩ = some (.slice L ln lc) := F14ve.out.cell 1
    have pve2 : w14.cell? ⟨w13.heap.size, 2, none⟩ = some (.int .i64 xe.e) := F14ve.out.cell 2
    go_wp2_with fail
    refine (same_any x1.neg x2.neg A1 U1 n1 c1 m1 d1 (limbs x1.k) (limbs x2.k) x1.e x2.e w14 F14sx1.out F14sx2.out).mono ?_
    rw [HSB.out]
    rintro e w15 ⟨rfl, HB15⟩
    have F15t := Lib.hid (F14t.out.belowW HB15.out)
    have F15ka := Lib.hid (F14ka.out.belowW HB15.out)
    have F15kb := Lib.hid (F14kb.out.belowW HB15.out)
    have F15x := Lib.hid (F14x.out.belowW HB15.out)
    have F15y := Lib.hid (F14y.out.belowW HB15.out)
    have F15z := Lib.hid (F14z.out.belowW HB15.out)
    have F15sx1 := Lib.hid (F14sx1.out.belowW HB15.out)
    have F15sx2 := Lib.hid (F14sx2.out.belowW HB15.out)
    have F15sy1 := Lib.hid (F14sy1.out.belowW HB15.out)
    have F15sy2 := Lib.hid (F14sy2.out.belowW HB15.out)
    have F15sz1 := Lib.hid (F14sz1.out.belowW HB15.out)
    have F15sz2 := Lib.hid (F14sz2.out.belowW HB15.out)
    have F15e := Lib.hid (F14e.out.belowW HB15.out)
    have F15ve := Lib.hid (F14ve.out.belowW HB15.out)
    have HL15 := Lib.hid (HL14.out.trans (HB15.out.mono HL14.out.size))
    clear F14t F14ka F14kb F14x F14y F14z F14sx1 F14sx2 F14sy1 F14sy2 F14sz1 F14sz2 F14e F14ve HL14 HB15
    cases b with
    | false =>
      rw [Bool.false_and]
      clear px0 px1 px2 px3 px4 px5 px6 pve0 pve1 pve2
      have pka0 : w15.cell? ⟨w.heap.size, 0, none⟩ = some (.int .i64 an) := F15ka.out.cell 0
      have pka1 : w15.cell? ⟨w.heap.size, 1, none⟩ = some (.int .i64 ad) := F15ka.out.cell 1
      have pkb0 : w15.cell? ⟨w.heap.size + 1, 0, none⟩ = some (.int .i64 bn) := F15kb.out.cell 0
      have pkb1 : w15.cell? ⟨w.heap.size + 1, 1, none⟩ = some (.int .i64 bd) := F15kb.out.cell 1
      go_wp2_with fail
      refine (qCmp an ad bn bd w15 a1 a2 a3 a4 b1 b2 b3 b4).mono ?_
      rw [HCO.out]
      rintro e w16 ⟨rfl, HB16⟩
      have F16t := Lib.hid (F15t.out.belowW HB16.out)
      have F16ka := Lib.hid (F15ka.out.belowW HB16.out)
      have F16kb := Lib.hid (F15kb.out.belowW HB16.out)
      have F16x := Lib.hid (F15x.out.belowW HB16.out)
      have F16y := Lib.hid (F15y.out.belowW HB16.out)
      have F16z := Lib.hid (F15z.out.belowW HB16.out)
      have F16sx1 := Lib.hid (F15sx1.out.belowW HB16.out)
      have F16sx2 := Lib.hid (F15sx2.out.belowW HB16.out)
      have F16sy1 := Lib.hid (F15sy1.out.belowW HB16.out)
      have F16sy2 := Lib.hid (F15sy2.out.belowW HB16.out)
      have F16sz1 := Lib.hid (F15sz1.out.belowW HB16.out)
      have F16sz2 := Lib.hid (F15sz2.out.belowW HB16.out)
      have F16e := Lib.hid (F15e.out.belowW HB16.out)
      have F16ve := Lib.hid (F15ve.out.belowW HB16.out)
      have HL16 := Lib.hid (HL15.out.trans (HB16.out.mono HL15.out.size))
      clear F15t F15ka F15kb F15x F15y F15z F15sx1 F15sx2 F15sy1 F15sy2 F15sz1 F15sz2 F15e F15ve HL15 HB16
      by_cases hc : co ≤ 0
      case pos =>
        have dc : decide (co ≤ 0) = true := decide_eq_true hc
        have u1 : decide (o1 ≤ 0) = true := decide_eq_true (HOR.out.1 hc).1
        have u2 : decide (o2 ≤ 0) = true := decide_eq_true (HOR.out.1 hc).2
        clear hc
        clear pka0 pka1 pkb0 pkb1
        have px0 : w16.cell? ⟨g0, 0, none⟩ = some (.bool x1.neg) := F16x.out.cell 0
        have px1 : w16.cell? ⟨g0, 1, none⟩ = some (.slice A1 n1 c1) := F16x.out.cell 1
        have px2 : w16.cell? ⟨g0, 2, none⟩ = some (.int .i64 x1.e) := F16x.out.cell 2
        have pz0 : w16.cell? ⟨g2, 0, none⟩ = some (.bool z1.neg) := F16z.out.cell 0
        have pz1 : w16.cell? ⟨g2, 1, none⟩ = some (.slice A3 n3 c3) := F16z.out.cell 1
        have pz2 : w16.cell? ⟨g2, 2, none⟩ = some (.int .i64 z1.e) := F16z.out.cell 2
        go_wp2_with fail
        refine (dcmp_any x1 z1 A1 A3 n1 c1 n3 c3 w16 F16sx1.out F16sz1.out VX1.out VZ1.out).mono ?_
        rw [HO1.out]
        rintro e w17 ⟨rfl, HB17⟩
        have F17t := Lib.hid (F16t.out.belowW HB17.out)
        have F17ka := Lib.hid (F16ka.out.belowW HB17.out)
        have F17kb := Lib.hid (F16kb.out.belowW HB17.out)
        have F17x := Lib.hid (F16x.out.belowW HB17.out)
        have F17y := Lib.hid (F16y.out.belowW HB17.out)
        have F17z := Lib.hid (F16z.out.belowW HB17.out)
        have F17sx1 := Lib.hid (F16sx1.out.belowW HB17.out)
        have F17sx2 := Lib.hid (F16sx2.out.belowW HB17.out)
        have F17sy1 := Lib.hid (F16sy1.out.belowW HB17.out)
        have F17sy2 := Lib.hid (F16sy2.out.belowW HB17.out)
        have F17sz1 := Lib.hid (F16sz1.out.belowW HB17.out)
        have F17sz2 := Lib.hid (F16sz2.out.belowW HB17.out)
        have F17e := Lib.hid (F16e.out.belowW HB17.out)
        have F17ve := Lib.hid (F16ve.out.belowW HB17.out)
        have HL17 := Lib.hid (HL16.out.trans (HB17.out.mono HL16.out.size))
        clear F16t F16ka F16kb F16x F16y F16z F16sx1 F16sx2 F16sy1 F16sy2 F16sz1 F16sz2 F16e F16ve HL16 HB17
        clear px0 px1 px2 pz0 pz1 pz2
        have px3 : w17.cell? ⟨g0, 3, none⟩ = some (.bool x2.neg) := F17x.out.cell 3
        have px4 : w17.cell? ⟨g0, 4, none⟩ = some (.slice U1 m1 d1) := F17x.out.cell 4
        have px5 : w17.cell? ⟨g0, 5, none⟩ = some (.int .i64 x2.e) := F17x.out.cell 5
        have pz3 : w17.cell? ⟨g2, 3, none⟩ = some (.bool z2.neg) := F17z.out.cell 3
        have pz4 : w17.cell? ⟨g2, 4, none⟩ = some (.slice U3 m3 d3) := F17z.out.cell 4
        have pz5 : w17.cell? ⟨g2, 5, none⟩ = some (.int .i64 z2.e) := F17z.out.cell 5
        go_wp2_with fail
        refine (dcmp_any x2 z2 U1 U3 m1 d1 m3 d3 w17 F17sx2.out F17sz2.out VX2.out VZ2.out).mono ?_
        rw [HO2.out]
        rintro e w18 ⟨rfl, HB18⟩
        have F18t := Lib.hid (F17t.out.belowW HB18.out)
        have F18ka := Lib.hid (F17ka.out.belowW HB18.out)
        have F18kb := Lib.hid (F17kb.out.belowW HB18.out)
        have F18x := Lib.hid (F17x.out.belowW HB18.out)
        have F18y := Lib.hid (F17y.out.belowW HB18.out)
        have F18z := Lib.hid (F17z.out.belowW HB18.out)
        have F18sx1 := Lib.hid (F17sx1.out.belowW HB18.out)
        have F18sx2 := Lib.hid (F17sx2.out.belowW HB18.out)
        have F18sy1 := Lib.hid (F17sy1.out.belowW HB18.out)
        have F18sy2 := Lib.hid (F17sy2.out.belowW HB18.out)
        have F18sz1 := Lib.hid (F17sz1.out.belowW HB18.out)
        have F18sz2 := Lib.hid (F17sz2.out.belowW HB18.out)
        have F18e := Lib.hid (F17e.out.belowW HB18.out)
        have F18ve := Lib.hid (F17ve.out.belowW HB18.out)
        have HL18 := Lib.hid (HL17.out.trans (HB18.out.mono HL17.out.size))
        clear F17t F17ka F17kb F17x F17y F17z F17sx1 F17sx2 F17sy1 F17sy2 F17sz1 F17sz2 F17e F17ve HL17 HB18
        go_wp2_with fail
        go_ret
        exact ⟨rfl, HL18⟩
      case neg =>
        have dc : decide (co ≤ 0) = false := decide_eq_false hc
        have u1 : decide (0 ≤ o1) = true := decide_eq_true (HOR.out.2 (by omega)).1
        have u2 : decide (0 ≤ o2) = true := decide_eq_true (HOR.out.2 (by omega)).2
        clear hc
        clear pka0 pka1 pkb0 pkb1
        have px0 : w16.cell? ⟨g0, 0, none⟩ = some (.bool x1.neg) := F16x.out.cell 0
        have px1 : w16.cell? ⟨g0, 1, none⟩ = some (.slice A1 n1 c1) := F16x.out.cell 1
        have px2 : w16.cell? ⟨g0, 2, none⟩ = some (.int .i64 x1.e) := F16x.out.cell 2
        have pz0 : w16.cell? ⟨g2, 0, none⟩ = some (.bool z1.neg) := F16z.out.cell 0
        have pz1 : w16.cell? ⟨g2, 1, none⟩ = some (.slice A3 n3 c3) := F16z.out.cell 1
        have pz2 : w16.cell? ⟨g2, 2, none⟩ = some (.int .i64 z1.e) := F16z.out.cell 2
        go_wp2_with fail
        refine (dcmp_any x1 z1 A1 A3 n1 c1 n3 c3 w16 F16sx1.out F16sz1.out VX1.out VZ1.out).mono ?_
        rw [HO1.out]
        rintro e w17 ⟨rfl, HB17⟩
        have F17t := Lib.hid (F16t.out.belowW HB17.out)
        have F17ka := Lib.hid (F16ka.out.belowW HB17.out)
        have F17kb := Lib.hid (F16kb.out.belowW HB17.out)
        have F17x := Lib.hid (F16x.out.belowW HB17.out)
        have F17y := Lib.hid (F16y.out.belowW HB17.out)
        have F17z := Lib.hid (F16z.out.belowW HB17.out)
        have F17sx1 := Lib.hid (F16sx1.out.belowW HB17.out)
        have F17sx2 := Lib.hid (F16sx2.out.belowW HB17.out)
        have F17sy1 := Lib.hid (F16sy1.out.belowW HB17.out)
        have F17sy2 := Lib.hid (F16sy2.out.belowW HB17.out)
        have F17sz1 := Lib.hid (F16sz1.out.belowW HB17.out)
        have F17sz2 := Lib.hid (F16sz2.out.belowW HB17.out)
        have F17e := Lib.hid (F16e.out.belowW HB17.out)
        have F17ve := Lib.hid (F16ve.out.belowW HB17.out)
        have HL17 := Lib.hid (HL16.out.trans (HB17.out.mono HL16.out.size))
        clear F16t F16ka F16kb F16x F16y F16z F16sx1 F16sx2 F16sy1 F16sy2 F16sz1 F16sz2 F16e F16ve HL16 HB17
        clear px0 px1 px2 pz0 pz1 pz2
        have px3 : w17.cell? ⟨g0, 3, none⟩ = some (.bool x2.neg) := F17x.out.cell 3
        have px4 : w17.cell? ⟨g0, 4, none⟩ = some (.slice U1 m1 d1) := F17x.out.cell 4
        have px5 : w17.cell? ⟨g0, 5, none⟩ = some (.int .i64 x2.e) := F17x.out.cell 5
        have pz3 : w17.cell? ⟨g2, 3, none⟩ = some (.bool z2.neg) := F17z.out.cell 3
        have pz4 : w17.cell? ⟨g2, 4, none⟩ = some (.slice U3 m3 d3) := F17z.out.cell 4
        have pz5 : w17.cell? ⟨g2, 5, none⟩ = some (.int .i64 z2.e) := F17z.out.cell 5
        go_wp2_with fail
        refine (dcmp_any x2 z2 U1 U3 m1 d1 m3 d3 w17 F17sx2.out F17sz2.out VX2.out VZ2.out).mono ?_
        rw [HO2.out]
        rintro e w18 ⟨rfl, HB18⟩
        have F18t := Lib.hid (F17t.out.belowW HB18.out)
        have F18ka := Lib.hid (F17ka.out.belowW HB18.out)
        have F18kb := Lib.hid (F17kb.out.belowW HB18.out)
        have F18x := Lib.hid (F17x.out.belowW HB18.out)
        have F18y := Lib.hid (F17y.out.belowW HB18.out)
        have F18z := Lib.hid (F17z.out.belowW HB18.out)
        have F18sx1 := Lib.hid (F17sx1.out.belowW HB18.out)
        have F18sx2 := Lib.hid (F17sx2.out.belowW HB18.out)
        have F18sy1 := Lib.hid (F17sy1.out.belowW HB18.out)
        have F18sy2 := Lib.hid (F17sy2.out.belowW HB18.out)
        have F18sz1 := Lib.hid (F17sz1.out.belowW HB18.out)
        have F18sz2 := Lib.hid (F17sz2.out.belowW HB18.out)
        have F18e := Lib.hid (F17e.out.belowW HB18.out)
        have F18ve := Lib.hid (F17ve.out.belowW HB18.out)
        have HL18 := Lib.hid (HL17.out.trans (HB18.out.mono HL17.out.size))
        clear F17t F17ka F17kb F17x F17y F17z F17sx1 F17sx2 F17sy1 F17sy2 F17sz1 F17sz2 F17e F17ve HL17 HB18
        go_wp2_with fail
        go_ret
        exact ⟨rfl, HL18⟩
    | true =>
      rw [Bool.true_and]
      have VXE := Lib.hid (exD_true HXE.out).2.2
      clear px0 px1 px2 px3 px4 px5 px6 pve0 pve1 pve2
      have pve0 : w15.cell? ⟨w13.heap.size, 0, none⟩ = some (.bool xe.neg) := F15ve.out.cell 0
      have pve1 : w15.cell? ⟨w13.heap.size, 1, none⟩ = some (.slice L ln lc) := F15ve.out.cell 1
      have pve2 : w15.cell? ⟨w13.heap.size, 2, none⟩ = some (.int .i64 xe.e) := F15ve.out.cell 2
      go_wp2_with fail
      refine (is_any xe L ln lc N w15 F15e.out VXE.out Z1 Z2).mono ?_
      rw [HTT.out]
      rintro e w16 ⟨rfl, HB16⟩
      have F16t := Lib.hid (F15t.out.belowW HB16.out)
      have F16ka := Lib.hid (F15ka.out.belowW HB16.out)
      have F16kb := Lib.hid (F15kb.out.belowW HB16.out)
      have F16x := Lib.hid (F15x.out.belowW HB16.out)
      have F16y := Lib.hid (F15y.out.belowW HB16.out)
      have F16z := Lib.hid (F15z.out.belowW HB16.out)
      have F16sx1 := Lib.hid (F15sx1.out.belowW HB16.out)
      have F16sx2 := Lib.hid (F15sx2.out.belowW HB16.out)
      have F16sy1 := Lib.hid (F15sy1.out.belowW HB16.out)
      have F16sy2 := Lib.hid (F15sy2.out.belowW HB16.out)
      have F16sz1 := Lib.hid (F15sz1.out.belowW HB16.out)
      have F16sz2 := Lib.hid (F15sz2.out.belowW HB16.out)
      have F16e := Lib.hid (F15e.out.belowW HB16.out)
      have F16ve := Lib.hid (F15ve.out.belowW HB16.out)
      have HL16 := Lib.hid (HL15.out.trans (HB16.out.mono HL15.out.size))
      clear F15t F15ka F15kb F15x F15y F15z F15sx1 F15sx2 F15sy1 F15sy2 F15sz1 F15sz2 F15e F15ve HL15 HB16
      clear pve0 pve1 pve2
      have pka0 : w16.cell? ⟨w.heap.size, 0, none⟩ = some (.int .i64 an) := F16ka.out.cell 0
      have pka1 : w16.cell? ⟨w.heap.size, 1, none⟩ = some (.int .i64 ad) := F16ka.out.cell 1
      have pkb0 : w16.cell? ⟨w.heap.size + 1, 0, none⟩ = some (.int .i64 bn) := F16kb.out.cell 0
      have pkb1 : w16.cell? ⟨w.heap.size + 1, 1, none⟩ = some (.int .i64 bd) := F16kb.out.cell 1
      go_wp2_with fail
      refine (qCmp an ad bn bd w16 a1 a2 a3 a4 b1 b2 b3 b4).mono ?_
      rw [HCO.out]
      rintro e w17 ⟨rfl, HB17⟩
      have F17t := Lib.hid (F16t.out.belowW HB17.out)
      have F17ka := Lib.hid (F16ka.out.belowW HB17.out)
      have F17kb := Lib.hid (F16kb.out.belowW HB17.out)
      have F17x := Lib.hid (F16x.out.belowW HB17.out)
      have F17y := Lib.hid (F16y.out.belowW HB17.out)
      have F17z := Lib.hid (F16z.out.belowW HB17.out)
      have F17sx1 := Lib.hid (F16sx1.out.belowW HB17.out)
      have F17sx2 := Lib.hid (F16sx2.out.belowW HB17.out)
      have F17sy1 := Lib.hid (F16sy1.out.belowW HB17.out)
      have F17sy2 := Lib.hid (F16sy2.out.belowW HB17.out)
      have F17sz1 := Lib.hid (F16sz1.out.belowW HB17.out)
      have F17sz2 := Lib.hid (F16sz2.out.belowW HB17.out)
      have F17e := Lib.hid (F16e.out.belowW HB17.out)
      have F17ve := Lib.hid (F16ve.out.belowW HB17.out)
      have HL17 := Lib.hid (HL16.out.trans (HB17.out.mono HL16.out.size))
      clear F16t F16ka F16kb F16x F16y F16z F16sx1 F16sx2 F16sy1 F16sy2 F16sz1 F16sz2 F16e F16ve HL16 HB17
      by_cases hc : co ≤ 0
      case pos =>
        have dc : decide (co ≤ 0) = true := decide_eq_true hc
        have u1 : decide (o1 ≤ 0) = true := decide_eq_true (HOR.out.1 hc).1
        have u2 : decide (o2 ≤ 0) = true := decide_eq_true (HOR.out.1 hc).2
        clear hc
        clear pka0 pka1 pkb0 pkb1
        have px0 : w17.cell? ⟨g0, 0, none⟩ = some (.bool x1.neg) := F17x.out.cell 0
        have px1 : w17.cell? ⟨g0, 1, none⟩ = some (.slice A1 n1 c1) := F17x.out.cell 1
        have px2 : w17.cell? ⟨g0, 2, none⟩ = some (.int .i64 x1.e) := F17x.out.cell 2
        have pz0 : w17.cell? ⟨g2, 0, none⟩ = some (.bool z1.neg) := F17z.out.cell 0
        have pz1 : w17.cell? ⟨g2, 1, none⟩ = some (.slice A3 n3 c3) := F17z.out.cell 1
        have pz2 : w17.cell? ⟨g2, 2, none⟩ = some (.int .i64 z1.e) := F17z.out.cell 2
        go_wp2_with fail
        refine (dcmp_any x1 z1 A1 A3 n1 c1 n3 c3 w17 F17sx1.out F17sz1.out VX1.out VZ1.out).mono ?_
        rw [HO1.out]
        rintro e w18 ⟨rfl, HB18⟩
        have F18t := Lib.hid (F17t.out.belowW HB18.out)
        have F18ka := Lib.hid (F17ka.out.belowW HB18.out)
        have F18kb := Lib.hid (F17kb.out.belowW HB18.out)
        have F18x := Lib.hid (F17x.out.belowW HB18.out)
        have F18y := Lib.hid (F17y.out.belowW HB18.out)
        have F18z := Lib.hid (F17z.out.belowW HB18.out)
        have F18sx1 := Lib.hid (F17sx1.out.belowW HB18.out)
        have F18sx2 := Lib.hid (F17sx2.out.belowW HB18.out)
        have F18sy1 := Lib.hid (F17sy1.out.belowW HB18.out)
        have F18sy2 := Lib.hid (F17sy2.out.belowW HB18.out)
        have F18sz1 := Lib.hid (F17sz1.out.belowW HB18.out)
        have F18sz2 := Lib.hid (F17sz2.out.belowW HB18.out)
        have F18e := Lib.hid (F17e.out.belowW HB18.out)
        have F18ve := Lib.hid (F17ve.out.belowW HB18.out)
        have HL18 := Lib.hid (HL17.out.trans (HB18.out.mono HL17.out.size))
        clear F17t F17ka F17kb F17x F17y F17z F17sx1 F17sx2 F17sy1 F17sy2 F17sz1 F17sz2 F17e F17ve HL17 HB18
        clear px0 px1 px2 pz0 pz1 pz2
        have px3 : w18.cell? ⟨g0, 3, none⟩ = some (.bool x2.neg) := F18x.out.cell 3
        have px4 : w18.cell? ⟨g0, 4, none⟩ = some (.slice U1 m1 d1) := F18x.out.cell 4
        have px5 : w18.cell? ⟨g0, 5, none⟩ = some (.int .i64 x2.e) := F18x.out.cell 5
        have pz3 : w18.cell? ⟨g2, 3, none⟩ = some (.bool z2.neg) := F18z.out.cell 3
        have pz4 : w18.cell? ⟨g2, 4, none⟩ = some (.slice U3 m3 d3) := F18z.out.cell 4
        have pz5 : w18.cell? ⟨g2, 5, none⟩ = some (.int .i64 z2.e) := F18z.out.cell 5
        go_wp2_with fail
        refine (dcmp_any x2 z2 U1 U3 m1 d1 m3 d3 w18 F18sx2.out F18sz2.out VX2.out VZ2.out).mono ?_
        rw [HO2.out]
        rintro e w19 ⟨rfl, HB19⟩
        have F19t := Lib.hid (F18t.out.belowW HB19.out)
        have F19ka := Lib.hid (F18ka.out.belowW HB19.out)
        have F19kb := Lib.hid (F18kb.out.belowW HB19.out)
        have F19x := Lib.hid (F18x.out.belowW HB19.out)
        have F19y := Lib.hid (F18y.out.belowW HB19.out)
        have F19z := Lib.hid (F18z.out.belowW HB19.out)
        have F19sx1 := Lib.hid (F18sx1.out.belowW HB19.out)
        have F19sx2 := Lib.hid (F18sx2.out.belowW HB19.out)
        have F19sy1 := Lib.hid (F18sy1.out.belowW HB19.out)
        have F19sy2 := Lib.hid (F18sy2.out.belowW HB19.out)
        have F19sz1 := Lib.hid (F18sz1.out.belowW HB19.out)
        have F19sz2 := Lib.hid (F18sz2.out.belowW HB19.out)
        have F19e := Lib.hid (F18e.out.belowW HB19.out)
        have F19ve := Lib.hid (F18ve.out.belowW HB19.out)
        have HL19 := Lib.hid (HL18.out.trans (HB19.out.mono HL18.out.size))
        clear F18t F18ka F18kb F18x F18y F18z F18sx1 F18sx2 F18sy1 F18sy2 F18sz1 F18sz2 F18e F18ve HL18 HB19
        go_wp2_with fail
        go_ret
        exact ⟨rfl, HL19⟩
      case neg =>
        have dc : decide (co ≤ 0) = false := decide_eq_false hc
        have u1 : decide (0 ≤ o1) = true := decide_eq_true (HOR.out.2 (by omega)).1
        have u2 : decide (0 ≤ o2) = true := decide_eq_true (HOR.out.2 (by omega)).2
        clear hc
        clear pka0 pka1 pkb0 pkb1
        have px0 : w17.cell? ⟨g0, 0, none⟩ = some (.bool x1.neg) := F17x.out.cell 0
        have px1 : w17.cell? ⟨g0, 1, none⟩ = some (.slice A1 n1 c1) := F17x.out.cell 1
        have px2 : w17.cell? ⟨g0, 2, none⟩ = some (.int .i64 x1.e) := F17x.out.cell 2
        have pz0 : w17.cell? ⟨g2, 0, none⟩ = some (.bool z1.neg) := F17z.out.cell 0
        have pz1 : w17.cell? ⟨g2, 1, none⟩ = some (.slice A3 n3 c3) := F17z.out.cell 1
        have pz2 : w17.cell? ⟨g2, 2, none⟩ = some (.int .i64 z1.e) := F17z.out.cell 2
        go_wp2_with fail
        refine (dcmp_any x1 z1 A1 A3 n1 c1 n3 c3 w17 F17sx1.out F17sz1.out VX1.out VZ1.out).mono ?_
        rw [HO1.out]
        rintro e w18 ⟨rfl, HB18⟩
        have F18t := Lib.hid (F17t.out.belowW HB18.out)
        have F18ka := Lib.hid (F17ka.out.belowW HB18.out)
        have F18kb := Lib.hid (F17kb.out.belowW HB18.out)
        have F18x := Lib.hid (F17x.out.belowW HB18.out)
        have F18y := Lib.hid (F17y.out.belowW HB18.out)
        have F18z := Lib.hid (F17z.out.belowW HB18.out)
        have F18sx1 := Lib.hid (F17sx1.out.belowW HB18.out)
        have F18sx2 := Lib.hid (F17sx2.out.belowW HB18.out)
        have F18sy1 := Lib.hid (F17sy1.out.belowW HB18.out)
        have F18sy2 := Lib.hid (F17sy2.out.belowW HB18.out)
        have F18sz1 := Lib.hid (F17sz1.out.belowW HB18.out)
        have F18sz2 := Lib.hid (F17sz2.out.belowW HB18.out)
        have F18e := Lib.hid (F17e.out.belowW HB18.out)
        have F18ve := Lib.hid (F17ve.out.belowW HB18.out)
        have HL18 := Lib.hid (HL17.out.trans (HB18.out.mono HL17.out.size))
        clear F17t F17ka F17kb F17x F17y F17z F17sx1 F17sx2 F17sy1 F17sy2 F17sz1 F17sz2 F17e F17ve HL17 HB18
        clear px0 px1 px2 pz0 pz1 pz2
        have px3 : w18.cell? ⟨g0, 3, none⟩ = some (.bool x2.neg) := F18x.out.cell 3
        have px4 : w18.cell? ⟨g0, 4, none⟩ = some (.slice U1 m1 d1) := F18x.out.cell 4
        have px5 : w18.cell? ⟨g0, 5, none⟩ = some (.int .i64 x2.e) := F18x.out.cell 5
        have pz3 : w18.cell? ⟨g2, 3, none⟩ = some (.bool z2.neg) := F18z.out.cell 3
        have pz4 : w18.cell? ⟨g2, 4, none⟩ = some (.slice U3 m3 d3) := F18z.out.cell 4
        have pz5 : w18.cell? ⟨g2, 5, none⟩ = some (.int .i64 z2.e) := F18z.out.cell 5
        go_wp2_with fail
        refine (dcmp_any x2 z2 U1 U3 m1 d1 m3 d3 w18 F18sx2.out F18sz2.out VX2.out VZ2.out).mono ?_
        rw [HO2.out]
        rintro e w19 ⟨rfl, HB19⟩
        have F19t := Lib.hid (F18t.out.belowW HB19.out)
        have F19ka := Lib.hid (F18ka.out.belowW HB19.out)
        have F19kb := Lib.hid (F18kb.out.belowW HB19.out)
        have F19x := Lib.hid (F18x.out.belowW HB19.out)
        have F19y := Lib.hid (F18y.out.belowW HB19.out)
        have F19z := Lib.hid (F18z.out.belowW HB19.out)
        have F19sx1 := Lib.hid (F18sx1.out.belowW HB19.out)
        have F19sx2 := Lib.hid (F18sx2.out.belowW HB19.out)
        have F19sy1 := Lib.hid (F18sy1.out.belowW HB19.out)
        have F19sy2 := Lib.hid (F18sy2.out.belowW HB19.out)
        have F19sz1 := Lib.hid (F18sz1.out.belowW HB19.out)
        have F19sz2 := Lib.hid (F18sz2.out.belowW HB19.out)
        have F19e := Lib.hid (F18e.out.belowW HB19.out)
        have F19ve := Lib.hid (F18ve.out.belowW HB19.out)
        have HL19 := Lib.hid (HL18.out.trans (HB19.out.mono HL18.out.size))
        clear F18t F18ka F18kb F18x F18y F18z F18sx1 F18sx2 F18sy1 F18sy2 F18sz1 F18sz2 F18e F18ve HL18 HB19
        go_wp2_with fail
        go_ret
        exact ⟨rfl, HL19⟩

theorem ratioInside_any (an ad bn bd : Int) (p mo : Nat) (w : World) (hT : RX w) (a1 : -9223372036854775808 ≤ an) (a2 : an ≤ 9223372036854775807) (a3 : -9223372036854775808 ≤ ad) (a4 : ad ≤ 9223372036854775807) (b1 : -9223372036854775808 ≤ bn) (b2 : bn ≤ 9223372036854775807) (b3 : -9223372036854775808 ≤ bd) (b4 : bd ≤ 9223372036854775807) (hp : p < 65536) (hmo : mo < 65536) :
    Calls Tryz.prog 12 #[.agg #[.int .i64 an, .int .i64 ad], .agg #[.int .i64 bn, .int .i64 bd], .int .u16 p, .int .u16 mo] w (Awk w) := by
  cases ha : vB an ad with
  | false => exact inside_noa an ad bn bd p mo w hT a1 a2 a3 a4 b1 b2 b3 b4 hp hmo ha
  | true =>
    cases hb : vB bn bd with
    | false => exact inside_nob an ad bn bd p mo w hT a1 a2 a3 a4 b1 b2 b3 b4 hp hmo ha hb
    | true => exact inside_yes an ad bn bd p mo w hT a1 a2 a3 a4 b1 b2 b3 b4 hp hmo ha hb
end Go.Proofs.YtnogfceojmnjiaaGreatDoor
