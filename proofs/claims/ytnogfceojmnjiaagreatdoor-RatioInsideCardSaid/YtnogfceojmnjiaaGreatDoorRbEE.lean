/-
  Ratios that are dyadic numbers: there and back. Of no program.
  The walk of the law RatioBack.
-/
import Derived.Test.YtnogfceojmnjiaaGreatDoorRbBB
import Derived.Test.YtnogfceojmnjiaaGreatDoorRbDD
import Derived.Test.YtnogfceojmnjiaaGreatDoorRaN
set_option linter.unusedVariables false
namespace Go.Fl.Dy
open Go.Fl.Nm Go.Fl.Rt Go.Fl.Pop
theorem make_err {x y a b e : Int} (h : make x y = (a, b, e)) (he : e ≠ 0) : a = 0 ∧ b = 0 := by
  unfold make at h
  repeat' split at h
  all_goals
    simp only [Prod.mk.injEq] at h
    obtain ⟨h1, h2, h3⟩ := h
    first
    | exact ⟨h1.symm, h2.symm⟩
    | exact absurd h3.symm he
theorem ofV_no {x : D} {a b : Int} (h : ofV x = (a, b, false)) : a = 0 ∧ b = 0 := by
  unfold ofV at h
  split at h
  · simp only [Prod.mk.injEq, decide_eq_false_iff_not] at h
    obtain ⟨h1, h2, h3⟩ := h
    have := make_err (a := a) (b := b) (by rw [← h1, ← h2]) h3
    exact this
  · simp only [Prod.mk.injEq] at h
    exact ⟨h.1.symm, h.2.1.symm⟩
theorem ofD_no {ng : Bool} {l : List Nat} {ex a b : Int} (h : ofD ng l ex = (a, b, false)) : a = 0 ∧ b = 0 := by
  unfold ofD at h
  split at h
  · exact ofV_no h
  · simp only [Prod.mk.injEq] at h
    exact ⟨h.1.symm, h.2.1.symm⟩
theorem ofD_yes {ng : Bool} {l : List Nat} {ex a b : Int} (h : ofD ng l ex = (a, b, true)) : vldL ng l ex = true ∧ ofV ⟨ng, val l, ex⟩ = (a, b, true) := by
  unfold ofD at h
  split at h
  · rename_i hv; exact ⟨hv, h⟩
  · simp at h
theorem odd_dvd_pow {m j : Nat} (hm : m % 2 = 1) (h : m ∣ 2 ^ j) : m = 1 := by
  have hc : Nat.Coprime m (2 ^ j) := Nat.Coprime.pow_right j (by
    rw [Nat.coprime_comm]
    show Nat.gcd 2 m = 1
    rw [Nat.gcd_rec, hm]
    rfl)
  exact Nat.Coprime.eq_one_of_dvd hc h
theorem dvd_pow {b j : Nat} (hb : b ≠ 0) (h : b ∣ 2 ^ j) : b = 2 ^ v2 b := by
  obtain ⟨e, ho⟩ := v2_spec hb
  have h1 : od b ∣ 2 ^ j := Nat.dvd_trans ⟨2 ^ v2 b, by rw [Nat.mul_comm]; exact e⟩ h
  have h2 := odd_dvd_pow ho h1
  rw [h2, Nat.mul_one] at e
  exact e
theorem and_pred_pow (k : Nat) : 2 ^ k &&& (2 ^ k - 1) = 0 := by rw [Nat.and_two_pow_sub_one_eq_mod, Nat.mod_self]
theorem top_bit {x j : Nat} (h1 : 2 ^ j ≤ x) (h2 : x < 2 ^ (j + 1)) : x.testBit j = true := by
  rw [Nat.testBit_eq_decide_div_mod_eq]
  have e : x / 2 ^ j = 1 := by
    rw [Nat.div_eq_iff (Nat.two_pow_pos j)]
    rw [Nat.pow_succ] at h2
    omega
  rw [e]; rfl
theorem and_pred {d : Nat} (hd : d ≠ 0) : d &&& (d - 1) = 0 ↔ ∃ k, d = 2 ^ k := by
  constructor
  · intro h
    have hb := blen_spec hd
    have hp := blen_pos hd
    obtain ⟨j, hj⟩ : ∃ j, blen d = j + 1 := ⟨blen d - 1, by omega⟩
    rw [hj, Nat.add_sub_cancel] at hb
    refine ⟨j, ?_⟩
    rcases Nat.lt_or_ge (2 ^ j) d with h1 | h1
    · have t1 := top_bit hb.1 hb.2
      have t2 := top_bit (x := d - 1) (j := j) (by omega) (by omega)
      have t3 : (d &&& (d - 1)).testBit j = true := by rw [Nat.testBit_and, t1, t2]; rfl
      rw [h, Nat.zero_testBit] at t3
      cases t3
    · omega
  · rintro ⟨k, rfl⟩
    exact and_pred_pow k
/-- The exact value of a ratio: there and back. -/
theorem exD_of {n d : Int} (hv : vB n d = true) (h1 : cnt d.toNat = 1) : ofV (canon (decide (n < 0)) n.natAbs (-(v2 d.toNat : Int))) = (n, d, true) ∧ vld (canon (decide (n < 0)) n.natAbs (-(v2 d.toNat : Int))) := by
  obtain ⟨v1, v2', v3, v4⟩ := vB_bd hv
  have hval := vB_iff.1 hv
  obtain ⟨N, hN⟩ : ∃ N, n.natAbs = N := ⟨_, rfl⟩
  obtain ⟨q, hq⟩ : ∃ q, d.toNat = q := ⟨_, rfl⟩
  have hdq : d = (q : Int) := by omega
  have hg : Nat.gcd N q = 1 := by have := hval.2.2.2.2; rw [hN, show d.natAbs = q by omega] at this; exact this
  rw [hN, hq]
  rw [hq] at h1
  obtain ⟨k, hk⟩ := (cnt_one (by omega : q < 4294967296)).1 h1
  have hv2 : v2 q = k := (v2_unique (n := q) (k := k) (m := 1) rfl (by rw [hk, Nat.mul_one])).1
  have hk30 : k ≤ 30 := by
    rcases Nat.lt_or_ge 30 k with h | h
    · have : 2 ^ 31 ≤ 2 ^ k := Nat.pow_le_pow_right (by decide) h
      omega
    · exact h
  rw [hv2]
  have bN : blen N ≤ 31 := blen_le (by omega)
  have hvld : vld (canon (decide (n < 0)) N (-(k : Int))) := by
    have := chk_vld (decide (n < 0)) N (-(k : Int))
    rwa [chk_of (by omega) (by omega) (by omega)] at this
  refine ⟨?_, hvld⟩
  by_cases h0 : N = 0
  · subst h0
    rw [Nat.gcd_zero_left] at hg
    obtain rfl : n = 0 := by omega
    subst hg
    subst hdq
    rw [canon_zero]
    decide +kernel
  · obtain ⟨e1, eo⟩ := v2_spec h0
    have hcase : k = 0 ∨ v2 N = 0 := by
      rcases Nat.eq_zero_or_pos k with h | h
      · exact .inl h
      · right
        refine v2_odd ?_
        rcases Nat.mod_two_eq_zero_or_one N with h2 | h2
        · exfalso
          have d1 : 2 ∣ N := Nat.dvd_of_mod_eq_zero h2
          have d2 : 2 ∣ q := by rw [hk]; exact Nat.dvd_trans (Nat.dvd_refl 2) (Nat.pow_dvd_pow 2 h)
          have := Nat.dvd_gcd d1 d2
          rw [hg] at this
          omega
        · exact h2
    have hbo := blen_od h0
    have hbp := blen_pos (od_ne h0)
    rw [canon_pos h0]
    have hsgn : (if decide (n < 0) = true then -(N : Int) else N) = n := by
      by_cases h : n < 0
      · rw [if_pos (by simpa using h)]; omega
      · rw [if_neg (by simpa using h)]; omega
    unfold ofV
    have hok : ofOk ⟨decide (n < 0), od N, -(k : Int) + v2 N⟩ = true := by
      unfold ofOk
      simp only [Bool.and_eq_true, decide_eq_true_eq]
      omega
    rw [if_pos hok]
    have hm : make ((if decide (n < 0) = true then -(od N : Int) else od N) * 2 ^ (-(k : Int) + v2 N).toNat) (2 ^ (-(-(k : Int) + v2 N)).toNat) = (n, d, 0) := by
      refine make_of_eq hval ?_ ?_
      · have := Int.pow_pos (n := 2) (m := (-(-(k : Int) + v2 N)).toNat) (by decide); omega
      · rw [hdq, hk]
        have e2 : (if decide (n < 0) = true then -(od N : Int) else od N) * ((2 ^ v2 N : Nat) : Int) = n := by
          refine Eq.trans ?_ hsgn
          have e3 : (od N : Int) * ((2 ^ v2 N : Nat) : Int) = (N : Int) := by rw [← Int.natCast_mul, Nat.mul_comm, ← e1]
          by_cases h : n < 0
          · rw [if_pos (by simpa using h), if_pos (by simpa using h), Int.neg_mul, e3]
          · rw [if_neg (by simpa using h), if_neg (by simpa using h), e3]
        rcases hcase with rfl | hz
        · rw [show (-((0 : Nat) : Int) + v2 N).toNat = v2 N by omega, show (-(-((0 : Nat) : Int) + v2 N)).toNat = 0 by omega]
          rw [Int.natCast_pow] at e2
          simp only [Int.pow_zero, Nat.pow_zero]
          have : ((2 : Nat) : Int) = 2 := rfl
          rw [this] at e2
          rw [e2]
          simp
        · rw [hz] at e2 ⊢
          rw [show (-(k : Int) + (0 : Nat)).toNat = 0 by omega, show (-(-(k : Int) + (0 : Nat))).toNat = k by omega, Int.pow_zero, Int.mul_one]
          rw [Nat.pow_zero, Int.natCast_one, Int.mul_one] at e2
          rw [e2, Int.natCast_pow]
          rfl
    simp only
    rw [hm]
    rfl
/-- A dyadic number that is a ratio is its exact value. -/
theorem of_exD {x : D} {a b : Int} (hx : vld x) (h : ofV x = (a, b, true)) : vB a b = true ∧ exD a b = (x, true) ∧ cmpRD a b x = 0 := by
  obtain ⟨v, e⟩ := of_val hx h
  have hv := vB_iff.2 v
  obtain ⟨v1, v2', v3, v4⟩ := vB_bd hv
  have hb := valid_pos v
  have hc : cmpRD a b x = 0 := by rw [cmpRD_eq hb hx]; exact cmpI_eq e.symm
  refine ⟨hv, ?_, hc⟩
  obtain ⟨q, hq⟩ : ∃ q, b.toNat = q := ⟨_, rfl⟩
  have hbq : b = (q : Int) := by omega
  have hg : Nat.gcd a.natAbs q = 1 := by have := v.2.2.2.2; rwa [show b.natAbs = q by omega] at this
  have hp : q = 2 ^ v2 q := by
    unfold ofV at h
    split at h
    · simp only [Prod.mk.injEq, decide_eq_true_eq] at h
      obtain ⟨g1, g2, g3⟩ := h
      have hm : make ((if x.neg then -(x.k : Int) else x.k) * 2 ^ x.e.toNat) (2 ^ (-x.e).toNat) = (a, b, 0) := by rw [← g1, ← g2, ← g3]
      obtain ⟨_, _, hcr⟩ := make_ok hm
      refine dvd_pow (j := (-x.e).toNat) (by omega) ?_
      have d1 : b ∣ a * 2 ^ (-x.e).toNat := ⟨_, by rw [Int.mul_comm] at hcr; exact hcr.symm⟩
      have d2 := Int.natAbs_dvd_natAbs.2 d1
      rw [Int.natAbs_mul, Int.natAbs_pow, show b.natAbs = q by omega] at d2
      exact (Nat.Coprime.dvd_of_dvd_mul_left (Nat.coprime_comm.1 hg) d2)
    · simp at h
  have hcnt : cnt q = 1 := (cnt_one (by omega)).2 ⟨_, hp⟩
  unfold exD
  rw [hq, if_pos ⟨hv, hcnt⟩]
  have hex := (exD_of hv (by rw [hq]; exact hcnt)).2
  have hof := (exD_of hv (by rw [hq]; exact hcnt)).1
  rw [hq] at hex hof
  obtain ⟨_, e'⟩ := of_val hex hof
  have hiv : iv (canon (decide (a < 0)) a.natAbs (-(v2 q : Int))) = iv x := Int.eq_of_mul_eq_mul_right (a := b) (by omega) (by rw [e', e])
  rw [iv_inj hex hx hiv]
end Go.Fl.Dy
namespace Go.Fl.Dy
open Go.Fl.Nm Go.Fl.Rt Go.Fl.Pop
theorem and_predI {d : Int} (h1 : 1 ≤ d) (h2 : d ≤ 1073741824) : Go.bits .and .i64 d (d - 1) = ((d.toNat &&& (d.toNat - 1) : Nat) : Int) := by
  obtain ⟨q, rfl⟩ : ∃ q : Nat, d = (q : Int) := ⟨d.toNat, by omega⟩
  rw [show (q : Int) - 1 = ((q - 1 : Nat) : Int) by omega, andi64 q (q - 1) (by omega) (by omega)]
  rfl
theorem exD_flag {n d : Int} (hv : vB n d = true) : (exD n d).2 = ((Go.bits .and .i64 d (d - 1)) == 0) := by
  obtain ⟨v1, v2', v3, v4⟩ := vB_bd hv
  rw [and_predI v1 v2']
  have h1 := and_pred (d := d.toNat) (by omega)
  have h2 := cnt_one (x := d.toNat) (by omega)
  unfold exD
  by_cases hc : cnt d.toNat = 1
  · rw [if_pos ⟨hv, hc⟩, h1.2 (h2.1 hc)]; rfl
  · rw [if_neg (fun h => hc h.2)]
    have : d.toNat &&& (d.toNat - 1) ≠ 0 := fun e => hc (h2.2 (h1.1 e))
    show false = _
    symm
    rw [beq_eq_false_iff_ne]
    omega
theorem exD_true {n d : Int} {x : D} (h : exD n d = (x, true)) : vB n d = true ∧ ofV x = (n, d, true) ∧ vld x := by
  unfold exD at h
  split at h
  · rename_i hc
    simp only [Prod.mk.injEq, and_true] at h
    have := exD_of hc.1 hc.2
    rw [h] at this
    exact ⟨hc.1, this⟩
  · simp at h
theorem exD_novB {n d : Int} (h : vB n d = false) : exD n d = (⟨false, 0, 0⟩, false) := by unfold exD; rw [if_neg (by rw [h]; rintro ⟨h, _⟩; cases h)]
theorem text_len {n d : Int} (h : valid n d) : (textR n d).length ≤ 100 := by
  have hi : ∀ z : Int, z.natAbs ≤ MX → (Lib.itoa z).length ≤ 11 := fun z hz => by
    unfold Lib.itoa
    split
    · have := dec_len9 (v := z.natAbs) hz
      simp only [List.length_cons]; omega
    · have := dec_len9 (v := z.toNat) (by omega)
      omega
  obtain ⟨h1, h2, h3, h4, _⟩ := h
  have e1 := hi n (by omega)
  have e2 := hi d (by omega)
  unfold textR
  split
  · simp only [List.append_nil]; omega
  · simp only [List.length_append, List.length_cons]; omega
end Go.Fl.Dy
namespace Go.Proofs.YtnogfceojmnjiaaGreatDoor
open Go.RowKit Go.Fl Go.Fl.Nm Go.Fl.Dy Go.Fl.Rt Go.Fl.Pop

set_option maxHeartbeats 8000000 in
set_option maxRecDepth 100000 in
theorem ratioBack_any (an ad : Int) (ng : Bool) (A : Option Addr) (m c : Nat) (ex : Int) (l : List Nat) (w : World) (hT : RX w) (a1 : -9223372036854775808 ≤ an) (a2 : an ≤ 9223372036854775807) (a3 : -9223372036854775808 ≤ ad) (a4 : ad ≤ 9223372036854775807) (hx : Sl w A m c l) (x1 : -9223372036854775808 ≤ ex) (x2 : ex ≤ 9223372036854775807) :
    Calls Tryz.prog 11 #[.agg #[.int .i64 an, .int .i64 ad], .agg #[.bool ng, .slice A m c, .int .i64 ex]] w (Awk w) := by
  have HT := Lib.hid hT
  have HX := Lib.hid hx
  have hmx := hx.max
  obtain ⟨qa, qb, ok2, hod⟩ : ∃ a b c, ofD ng l ex = (a, b, c) := ⟨_, _, _, rfl⟩
  have HOD := Lib.hid hod
  obtain ⟨xe, ok1, hxe⟩ : ∃ x b, exD an ad = (x, b) := ⟨_, _, rfl⟩
  have HXE := Lib.hid hxe
  clear hT hx hod hxe
  go_enter Tryz.func11, Tryz.ntmps11
  go_wp2_with fail
  obtain ⟨w1, hw⟩ : ∃ z9 : World, z9 = ((w.alloc (.cells #[.int .i64 an, .int .i64 ad] 23)).alloc (.cells #[.bool ng, .slice A m c, .int .i64 ex] 28)) := ⟨_, rfl⟩
  have HB1 := Lib.hid (show Below w.heap.size w w1 by rw [hw]; exact below_a2 _ _ _)
  have F1t := Lib.hid (HT.out.belowW HB1.out)
  have F1x := Lib.hid (HX.out.belowW HB1.out)
  have F1ka := Lib.hid (show Blk w1 (w.heap.size) 23 #[.int .i64 an, .int .i64 ad] by rw [hw]; exact (Blk.new _ _ _).alloc _)
  have F1kx := Lib.hid (show Blk w1 (w.heap.size + 1) 28 #[.bool ng, .slice A m c, .int .i64 ex] by rw [hw]; exact Blk.new1 _ _ _ _)
  rw [← hw]
  clear hw
  refine (awake_any w1 F1t.out).mono ?_
  rintro e w2 ⟨rfl, HB2⟩
  have F2t := Lib.hid (F1t.out.belowW HB2.out)
  have F2x := Lib.hid (F1x.out.belowW HB2.out)
  have F2ka := Lib.hid (F1ka.out.belowW HB2.out)
  have F2kx := Lib.hid (F1kx.out.belowW HB2.out)
  have HL2 := Lib.hid (HB1.out.trans (HB2.out.mono HB1.out.size))
  clear F1t F1x F1ka F1kx HB1 HB2
  have pka0 : (w2).cell? ⟨w.heap.size, 0, none⟩ = some (.int .i64 an) := F2ka.out.cell 0
  have fka0 : (w2).frozen? ⟨w.heap.size, 0, none⟩ = false := F2ka.out.frozen 0
  have pka1 : (w2).cell? ⟨w.heap.size, 1, none⟩ = some (.int .i64 ad) := F2ka.out.cell 1
  have fka1 : (w2).frozen? ⟨w.heap.size, 1, none⟩ = false := F2ka.out.frozen 1
  have pkx0 : (w2).cell? ⟨w.heap.size + 1, 0, none⟩ = some (.bool ng) := F2kx.out.cell 0
  have fkx0 : (w2).frozen? ⟨w.heap.size + 1, 0, none⟩ = false := F2kx.out.frozen 0
  have pkx1 : (w2).cell? ⟨w.heap.size + 1, 1, none⟩ = some (.slice A m c) := F2kx.out.cell 1
  have fkx1 : (w2).frozen? ⟨w.heap.size + 1, 1, none⟩ = false := F2kx.out.frozen 1
  have pkx2 : (w2).cell? ⟨w.heap.size + 1, 2, none⟩ = some (.int .i64 ex) := F2kx.out.cell 2
  have fkx2 : (w2).frozen? ⟨w.heap.size + 1, 2, none⟩ = false := F2kx.out.frozen 2
  go_wp2_with fail
  refine (short4_any ng A m c ex w2 hmx).mono ?_
  rintro e w3 ⟨rfl, HB3⟩
  have F3t := Lib.hid (F2t.out.belowW HB3.out)
  have F3x := Lib.hid (F2x.out.belowW HB3.out)
  have F3ka := Lib.hid (F2ka.out.belowW HB3.out)
  have F3kx := Lib.hid (F2kx.out.belowW HB3.out)
  have HL3 := Lib.hid (HL2.out.trans (HB3.out.mono HL2.out.size))
  clear F2t F2x F2ka F2kx HL2 HB3
  clear pka0 fka0 pka1 fka1 pkx0 fkx0 pkx1 fkx1 pkx2 fkx2
  have pka0 : (w3).cell? ⟨w.heap.size, 0, none⟩ = some (.int .i64 an) := F3ka.out.cell 0
  have fka0 : (w3).frozen? ⟨w.heap.size, 0, none⟩ = false := F3ka.out.frozen 0
  have pka1 : (w3).cell? ⟨w.heap.size, 1, none⟩ = some (.int .i64 ad) := F3ka.out.cell 1
  have fka1 : (w3).frozen? ⟨w.heap.size, 1, none⟩ = false := F3ka.out.frozen 1
  have pkx0 : (w3).cell? ⟨w.heap.size + 1, 0, none⟩ = some (.bool ng) := F3kx.out.cell 0
  have fkx0 : (w3).frozen? ⟨w.heap.size + 1, 0, none⟩ = false := F3kx.out.frozen 0
  have pkx1 : (w3).cell? ⟨w.heap.size + 1, 1, none⟩ = some (.slice A m c) := F3kx.out.cell 1
  have fkx1 : (w3).frozen? ⟨w.heap.size + 1, 1, none⟩ = false := F3kx.out.frozen 1
  have pkx2 : (w3).cell? ⟨w.heap.size + 1, 2, none⟩ = some (.int .i64 ex) := F3kx.out.cell 2
  have fkx2 : (w3).frozen? ⟨w.heap.size + 1, 2, none⟩ = false := F3kx.out.frozen 2
  by_cases hs : m ≤ 300
  case neg =>
    have ds : decide (m ≤ 300) = false := decide_eq_false hs
    go_wp2_with fail
    go_ret
    exact ⟨rfl, HL3⟩
  have ds : decide (m ≤ 300) = true := decide_eq_true hs
  clear hs
  go_wp2_with fail
  refine (text_q an ad w3 F3t.out.toRB a1 a2 a3 a4).mono ?_
  rintro e w4 ⟨S, rfl, HS, HB4⟩
  have F4t := Lib.hid (F3t.out.belowW HB4.out)
  have F4x := Lib.hid (F3x.out.belowW HB4.out)
  have F4ka := Lib.hid (F3ka.out.belowW HB4.out)
  have F4kx := Lib.hid (F3kx.out.belowW HB4.out)
  have HL4 := Lib.hid (HL3.out.trans (HB4.out.mono HL3.out.size))
  clear F3t F3x F3ka F3kx HL3 HB4
  clear pka0 fka0 pka1 fka1 pkx0 fkx0 pkx1 fkx1 pkx2 fkx2
  have pka0 : (w4).cell? ⟨w.heap.size, 0, none⟩ = some (.int .i64 an) := F4ka.out.cell 0
  have fka0 : (w4).frozen? ⟨w.heap.size, 0, none⟩ = false := F4ka.out.frozen 0
  have pka1 : (w4).cell? ⟨w.heap.size, 1, none⟩ = some (.int .i64 ad) := F4ka.out.cell 1
  have fka1 : (w4).frozen? ⟨w.heap.size, 1, none⟩ = false := F4ka.out.frozen 1
  have pkx0 : (w4).cell? ⟨w.heap.size + 1, 0, none⟩ = some (.bool ng) := F4kx.out.cell 0
  have fkx0 : (w4).frozen? ⟨w.heap.size + 1, 0, none⟩ = false := F4kx.out.frozen 0
  have pkx1 : (w4).cell? ⟨w.heap.size + 1, 1, none⟩ = some (.slice A m c) := F4kx.out.cell 1
  have fkx1 : (w4).frozen? ⟨w.heap.size + 1, 1, none⟩ = false := F4kx.out.frozen 1
  have pkx2 : (w4).cell? ⟨w.heap.size + 1, 2, none⟩ = some (.int .i64 ex) := F4kx.out.cell 2
  have fkx2 : (w4).frozen? ⟨w.heap.size + 1, 2, none⟩ = false := F4kx.out.frozen 2
  go_wp2_with fail
  cases hv : vB an ad with
  | false =>
    have VA := Lib.hid hv
    have HE2 := Lib.hid (exD_novB hv)
    obtain rfl : S = ⟨#[]⟩ := by
      have h := HS.out
      unfold textE at h
      rw [hv] at h
      cases S with | mk d => cases d with | mk l => simp at h; rw [h]
    clear hv
    refine (valid_q an ad w4 a1 a2 a3 a4).mono ?_
    rw [VA.out]
    rintro e w5 ⟨rfl, HB5⟩
    have F5t := Lib.hid (F4t.out.belowW HB5.out)
    have F5x := Lib.hid (F4x.out.belowW HB5.out)
    have F5ka := Lib.hid (F4ka.out.belowW HB5.out)
    have F5kx := Lib.hid (F4kx.out.belowW HB5.out)
    have HL5 := Lib.hid (HL4.out.trans (HB5.out.mono HL4.out.size))
    clear F4t F4x F4ka F4kx HL4 HB5
    clear pka0 fka0 pka1 fka1 pkx0 fkx0 pkx1 fkx1 pkx2 fkx2
    have pka0 : (w5).cell? ⟨w.heap.size, 0, none⟩ = some (.int .i64 an) := F5ka.out.cell 0
    have fka0 : (w5).frozen? ⟨w.heap.size, 0, none⟩ = false := F5ka.out.frozen 0
    have pka1 : (w5).cell? ⟨w.heap.size, 1, none⟩ = some (.int .i64 ad) := F5ka.out.cell 1
    have fka1 : (w5).frozen? ⟨w.heap.size, 1, none⟩ = false := F5ka.out.frozen 1
    have pkx0 : (w5).cell? ⟨w.heap.size + 1, 0, none⟩ = some (.bool ng) := F5kx.out.cell 0
    have fkx0 : (w5).frozen? ⟨w.heap.size + 1, 0, none⟩ = false := F5kx.out.frozen 0
    have pkx1 : (w5).cell? ⟨w.heap.size + 1, 1, none⟩ = some (.slice A m c) := F5kx.out.cell 1
    have fkx1 : (w5).frozen? ⟨w.heap.size + 1, 1, none⟩ = false := F5kx.out.frozen 1
    have pkx2 : (w5).cell? ⟨w.heap.size + 1, 2, none⟩ = some (.int .i64 ex) := F5kx.out.cell 2
    have fkx2 : (w5).frozen? ⟨w.heap.size + 1, 2, none⟩ = false := F5kx.out.frozen 2
    go_wp2_with fail
    refine (exact_any an ad w5 F5t.out.toRB a1 a2 a3 a4).mono ?_
    rw [HE2.out]
    rintro e w6 ⟨L1, n1, c1, rfl, HS1, HB6⟩
    have F6t := Lib.hid (F5t.out.belowW HB6.out)
    have F6x := Lib.hid (F5x.out.belowW HB6.out)
    have F6ka := Lib.hid (F5ka.out.belowW HB6.out)
    have F6kx := Lib.hid (F5kx.out.belowW HB6.out)
    have HL6 := Lib.hid (HL5.out.trans (HB6.out.mono HL5.out.size))
    clear F5t F5x F5ka F5kx HL5 HB6
    go_upto_region 8 with (fail)
    obtain ⟨w7, hw⟩ : ∃ z9 : World, z9 = w6.alloc (.cells #[.bool false, .slice L1 n1 c1, .int .i64 0] 28) := ⟨_, rfl⟩
    have HB7 := Lib.hid (show Below w6.heap.size w6 w7 by rw [hw]; exact below_a1 _ _)
    have F7x1 := Lib.hid (show Blk w7 w6.heap.size 28 #[.bool false, .slice L1 n1 c1, .int .i64 0] by rw [hw]; exact Blk.new _ _ _)
    rw [← hw]
    clear hw
    have F7t := Lib.hid (F6t.out.belowW HB7.out)
    have F7x := Lib.hid (F6x.out.belowW HB7.out)
    have F7ka := Lib.hid (F6ka.out.belowW HB7.out)
    have F7kx := Lib.hid (F6kx.out.belowW HB7.out)
    have HL7 := Lib.hid (HL6.out.trans (HB7.out.mono HL6.out.size))
    clear F6t F6x F6ka F6kx HL6 HB7
    clear pka0 fka0 pka1 fka1 pkx0 fkx0 pkx1 fkx1 pkx2 fkx2
    have pka0 : (w7).cell? ⟨w.heap.size, 0, none⟩ = some (.int .i64 an) := F7ka.out.cell 0
    have fka0 : (w7).frozen? ⟨w.heap.size, 0, none⟩ = false := F7ka.out.frozen 0
    have pka1 : (w7).cell? ⟨w.heap.size, 1, none⟩ = some (.int .i64 ad) := F7ka.out.cell 1
    have fka1 : (w7).frozen? ⟨w.heap.size, 1, none⟩ = false := F7ka.out.frozen 1
    have pkx0 : (w7).cell? ⟨w.heap.size + 1, 0, none⟩ = some (.bool ng) := F7kx.out.cell 0
    have fkx0 : (w7).frozen? ⟨w.heap.size + 1, 0, none⟩ = false := F7kx.out.frozen 0
    have pkx1 : (w7).cell? ⟨w.heap.size + 1, 1, none⟩ = some (.slice A m c) := F7kx.out.cell 1
    have fkx1 : (w7).frozen? ⟨w.heap.size + 1, 1, none⟩ = false := F7kx.out.frozen 1
    have pkx2 : (w7).cell? ⟨w.heap.size + 1, 2, none⟩ = some (.int .i64 ex) := F7kx.out.cell 2
    have fkx2 : (w7).frozen? ⟨w.heap.size + 1, 2, none⟩ = false := F7kx.out.frozen 2
    go_wp2_with fail
    refine (of_any ng A m c ex l w7 F7x.out).mono ?_
    rw [HOD.out]
    rintro e w8 ⟨rfl, HB8⟩
    have F8t := Lib.hid (F7t.out.belowW HB8.out)
    have F8x := Lib.hid (F7x.out.belowW HB8.out)
    have F8ka := Lib.hid (F7ka.out.belowW HB8.out)
    have F8kx := Lib.hid (F7kx.out.belowW HB8.out)
    have F8x1 := Lib.hid (F7x1.out.belowW HB8.out)
    have HL8 := Lib.hid (HL7.out.trans (HB8.out.mono HL7.out.size))
    clear F7t F7x F7ka F7kx F7x1 HL7 HB8
    go_upto_region 21 with (fail)
    obtain ⟨w9, hw⟩ : ∃ z9 : World, z9 = w8.alloc (.cells #[.int .i64 qa, .int .i64 qb] 23) := ⟨_, rfl⟩
    have HB9 := Lib.hid (show Below w8.heap.size w8 w9 by rw [hw]; exact below_a1 _ _)
    have F9q := Lib.hid (show Blk w9 w8.heap.size 23 #[.int .i64 qa, .int .i64 qb] by rw [hw]; exact Blk.new _ _ _)
    rw [← hw]
    clear hw
    have F9t := Lib.hid (F8t.out.belowW HB9.out)
    have F9x := Lib.hid (F8x.out.belowW HB9.out)
    have F9ka := Lib.hid (F8ka.out.belowW HB9.out)
    have F9kx := Lib.hid (F8kx.out.belowW HB9.out)
    have F9x1 := Lib.hid (F8x1.out.belowW HB9.out)
    have HL9 := Lib.hid (HL8.out.trans (HB9.out.mono HL8.out.size))
    clear F8t F8x F8ka F8kx F8x1 HL8 HB9
    cases ok2 with
    | false =>
      obtain ⟨rfl, rfl⟩ := ofD_no HOD.out
      clear pka0 fka0 pka1 fka1 pkx0 fkx0 pkx1 fkx1 pkx2 fkx2
      have pq0 : (w9).cell? ⟨w8.heap.size, 0, none⟩ = some (.int .i64 0) := F9q.out.cell 0
      have fq0 : (w9).frozen? ⟨w8.heap.size, 0, none⟩ = false := F9q.out.frozen 0
      have pq1 : (w9).cell? ⟨w8.heap.size, 1, none⟩ = some (.int .i64 0) := F9q.out.cell 1
      have fq1 : (w9).frozen? ⟨w8.heap.size, 1, none⟩ = false := F9q.out.frozen 1
      go_wp2_with fail
      go_ret
      exact ⟨rfl, HL9⟩
    | true =>
      obtain ⟨hv2, hof2⟩ := ofD_yes HOD.out
      obtain ⟨hl2, hvld2⟩ := vldL_iff.1 hv2
      obtain ⟨vq, exq, cq⟩ := of_exD hvld2 hof2
      have HXQ := Lib.hid exq
      have HCQ := Lib.hid cq
      have VQ := Lib.hid vq
      have VX2 := Lib.hid hvld2
      have HL2 := Lib.hid hl2
      obtain ⟨k1, k2, k3, k4⟩ := vB_bd vq
      have FLX := Lib.hid (show Sl w9 A m c (limbs (val l)) by rw [← hl2]; exact F9x.out)
      have HSM := Lib.hid (show sameB ng ng (limbs (val l)) l ex ex = true by unfold sameB; rw [← hl2]; simp)
      clear hv2 hof2 hl2 hvld2 vq exq cq
      clear pka0 fka0 pka1 fka1 pkx0 fkx0 pkx1 fkx1 pkx2 fkx2
      have pkx0 : (w9).cell? ⟨w.heap.size + 1, 0, none⟩ = some (.bool ng) := F9kx.out.cell 0
      have fkx0 : (w9).frozen? ⟨w.heap.size + 1, 0, none⟩ = false := F9kx.out.frozen 0
      have pkx1 : (w9).cell? ⟨w.heap.size + 1, 1, none⟩ = some (.slice A m c) := F9kx.out.cell 1
      have fkx1 : (w9).frozen? ⟨w.heap.size + 1, 1, none⟩ = false := F9kx.out.frozen 1
      have pkx2 : (w9).cell? ⟨w.heap.size + 1, 2, none⟩ = some (.int .i64 ex) := F9kx.out.cell 2
      have fkx2 : (w9).frozen? ⟨w.heap.size + 1, 2, none⟩ = false := F9kx.out.frozen 2
      have pq0 : (w9).cell? ⟨w8.heap.size, 0, none⟩ = some (.int .i64 qa) := F9q.out.cell 0
      have fq0 : (w9).frozen? ⟨w8.heap.size, 0, none⟩ = false := F9q.out.frozen 0
      have pq1 : (w9).cell? ⟨w8.heap.size, 1, none⟩ = some (.int .i64 qb) := F9q.out.cell 1
      have fq1 : (w9).frozen? ⟨w8.heap.size, 1, none⟩ = false := F9q.out.frozen 1
      go_wp2_with fail
      refine (exact_any qa qb w9 F9t.out.toRB (by omega) (by omega) (by omega) (by omega)).mono ?_
      rw [HXQ.out]
      rintro e w10 ⟨L2, n2, c2, rfl, HS2, HB10⟩
      have F10t := Lib.hid (F9t.out.belowW HB10.out)
      have F10x := Lib.hid (F9x.out.belowW HB10.out)
      have F10ka := Lib.hid (F9ka.out.belowW HB10.out)
      have F10kx := Lib.hid (F9kx.out.belowW HB10.out)
      have F10x1 := Lib.hid (F9x1.out.belowW HB10.out)
      have F10q := Lib.hid (F9q.out.belowW HB10.out)
      have F10lx := Lib.hid (FLX.out.belowW HB10.out)
      have HL10 := Lib.hid (HL9.out.trans (HB10.out.mono HL9.out.size))
      clear F9t F9x F9ka F9kx F9x1 F9q FLX HL9 HB10
      have F10s2 := Lib.hid (HS2.out)
      go_upto_region 24 with (fail)
      obtain ⟨w11, hw⟩ : ∃ z9 : World, z9 = w10.alloc (.cells #[.bool ng, .slice L2 n2 c2, .int .i64 ex] 28) := ⟨_, rfl⟩
      have HB11 := Lib.hid (show Below w10.heap.size w10 w11 by rw [hw]; exact below_a1 _ _)
      have F11x2 := Lib.hid (show Blk w11 w10.heap.size 28 #[.bool ng, .slice L2 n2 c2, .int .i64 ex] by rw [hw]; exact Blk.new _ _ _)
      rw [← hw]
      clear hw
      have F11t := Lib.hid (F10t.out.belowW HB11.out)
      have F11x := Lib.hid (F10x.out.belowW HB11.out)
      have F11ka := Lib.hid (F10ka.out.belowW HB11.out)
      have F11kx := Lib.hid (F10kx.out.belowW HB11.out)
      have F11x1 := Lib.hid (F10x1.out.belowW HB11.out)
      have F11q := Lib.hid (F10q.out.belowW HB11.out)
      have F11lx := Lib.hid (F10lx.out.belowW HB11.out)
      have F11s2 := Lib.hid (F10s2.out.belowW HB11.out)
      have HL11 := Lib.hid (HL10.out.trans (HB11.out.mono HL10.out.size))
      clear F10t F10x F10ka F10kx F10x1 F10q F10lx F10s2 HL10 HB11
      clear pkx0 fkx0 pkx1 fkx1 pkx2 fkx2 pq0 fq0 pq1 fq1
      have pkx0 : (w11).cell? ⟨w.heap.size + 1, 0, none⟩ = some (.bool ng) := F11kx.out.cell 0
      have fkx0 : (w11).frozen? ⟨w.heap.size + 1, 0, none⟩ = false := F11kx.out.frozen 0
      have pkx1 : (w11).cell? ⟨w.heap.size + 1, 1, none⟩ = some (.slice A m c) := F11kx.out.cell 1
      have fkx1 : (w11).frozen? ⟨w.heap.size + 1, 1, none⟩ = false := F11kx.out.frozen 1
      have pkx2 : (w11).cell? ⟨w.heap.size + 1, 2, none⟩ = some (.int .i64 ex) := F11kx.out.cell 2
      have fkx2 : (w11).frozen? ⟨w.heap.size + 1, 2, none⟩ = false := F11kx.out.frozen 2
      have pq0 : (w11).cell? ⟨w8.heap.size, 0, none⟩ = some (.int .i64 qa) := F11q.out.cell 0
      have fq0 : (w11).frozen? ⟨w8.heap.size, 0, none⟩ = false := F11q.out.frozen 0
      have pq1 : (w11).cell? ⟨w8.heap.size, 1, none⟩ = some (.int .i64 qb) := F11q.out.cell 1
      have fq1 : (w11).frozen? ⟨w8.heap.size, 1, none⟩ = false := F11q.out.frozen 1
      have px20 : (w11).cell? ⟨w10.heap.size, 0, none⟩ = some (.bool ng) := F11x2.out.cell 0
      have fx20 : (w11).frozen? ⟨w10.heap.size, 0, none⟩ = false := F11x2.out.frozen 0
      have px21 : (w11).cell? ⟨w10.heap.size, 1, none⟩ = some (.slice L2 n2 c2) := F11x2.out.cell 1
      have fx21 : (w11).frozen? ⟨w10.heap.size, 1, none⟩ = false := F11x2.out.frozen 1
      have px22 : (w11).cell? ⟨w10.heap.size, 2, none⟩ = some (.int .i64 ex) := F11x2.out.cell 2
      have fx22 : (w11).frozen? ⟨w10.heap.size, 2, none⟩ = false := F11x2.out.frozen 2
      go_wp2_with fail
      refine (compare_yes qa qb ⟨ng, val l, ex⟩ A m c w11 F11lx.out VX2.out VQ.out).mono ?_
      rw [HCQ.out]
      rintro e w12 ⟨rfl, HB12⟩
      have F12t := Lib.hid (F11t.out.belowW HB12.out)
      have F12x := Lib.hid (F11x.out.belowW HB12.out)
      have F12ka := Lib.hid (F11ka.out.belowW HB12.out)
      have F12kx := Lib.hid (F11kx.out.belowW HB12.out)
      have F12x1 := Lib.hid (F11x1.out.belowW HB12.out)
      have F12q := Lib.hid (F11q.out.belowW HB12.out)
      have F12lx := Lib.hid (F11lx.out.belowW HB12.out)
      have F12s2 := Lib.hid (F11s2.out.belowW HB12.out)
      have F12x2 := Lib.hid (F11x2.out.belowW HB12.out)
      have HL12 := Lib.hid (HL11.out.trans (HB12.out.mono HL11.out.size))
      clear F11t F11x F11ka F11kx F11x1 F11q F11lx F11s2 F11x2 HL11 HB12
      clear pkx0 fkx0 pkx1 fkx1 pkx2 fkx2 pq0 fq0 pq1 fq1 px20 fx20 px21 fx21 px22 fx22
      have pkx0 : (w12).cell? ⟨w.heap.size + 1, 0, none⟩ = some (.bool ng) := F12kx.out.cell 0
      have fkx0 : (w12).frozen? ⟨w.heap.size + 1, 0, none⟩ = false := F12kx.out.frozen 0
      have pkx1 : (w12).cell? ⟨w.heap.size + 1, 1, none⟩ = some (.slice A m c) := F12kx.out.cell 1
      have fkx1 : (w12).frozen? ⟨w.heap.size + 1, 1, none⟩ = false := F12kx.out.frozen 1
      have pkx2 : (w12).cell? ⟨w.heap.size + 1, 2, none⟩ = some (.int .i64 ex) := F12kx.out.cell 2
      have fkx2 : (w12).frozen? ⟨w.heap.size + 1, 2, none⟩ = false := F12kx.out.frozen 2
      have pq0 : (w12).cell? ⟨w8.heap.size, 0, none⟩ = some (.int .i64 qa) := F12q.out.cell 0
      have fq0 : (w12).frozen? ⟨w8.heap.size, 0, none⟩ = false := F12q.out.frozen 0
      have pq1 : (w12).cell? ⟨w8.heap.size, 1, none⟩ = some (.int .i64 qb) := F12q.out.cell 1
      have fq1 : (w12).frozen? ⟨w8.heap.size, 1, none⟩ = false := F12q.out.frozen 1
      have px20 : (w12).cell? ⟨w10.heap.size, 0, none⟩ = some (.bool ng) := F12x2.out.cell 0
      have fx20 : (w12).frozen? ⟨w10.heap.size, 0, none⟩ = false := F12x2.out.frozen 0
      have px21 : (w12).cell? ⟨w10.heap.size, 1, none⟩ = some (.slice L2 n2 c2) := F12x2.out.cell 1
      have fx21 : (w12).frozen? ⟨w10.heap.size, 1, none⟩ = false := F12x2.out.frozen 1
      have px22 : (w12).cell? ⟨w10.heap.size, 2, none⟩ = some (.int .i64 ex) := F12x2.out.cell 2
      have fx22 : (w12).frozen? ⟨w10.heap.size, 2, none⟩ = false := F12x2.out.frozen 2
      go_wp2_with fail
      refine (same_any ng ng L2 A n2 c2 m c _ l ex ex w12 F12s2.out F12x.out).mono ?_
      rw [HSM.out]
      rintro e w13 ⟨rfl, HB13⟩
      have F13t := Lib.hid (F12t.out.belowW HB13.out)
      have F13x := Lib.hid (F12x.out.belowW HB13.out)
      have F13ka := Lib.hid (F12ka.out.belowW HB13.out)
      have F13kx := Lib.hid (F12kx.out.belowW HB13.out)
      have F13x1 := Lib.hid (F12x1.out.belowW HB13.out)
      have F13q := Lib.hid (F12q.out.belowW HB13.out)
      have F13lx := Lib.hid (F12lx.out.belowW HB13.out)
      have F13s2 := Lib.hid (F12s2.out.belowW HB13.out)
      have F13x2 := Lib.hid (F12x2.out.belowW HB13.out)
      have HL13 := Lib.hid (HL12.out.trans (HB13.out.mono HL12.out.size))
      clear F12t F12x F12ka F12kx F12x1 F12q F12lx F12s2 F12x2 HL12 HB13
      clear pkx0 fkx0 pkx1 fkx1 pkx2 fkx2 pq0 fq0 pq1 fq1 px20 fx20 px21 fx21 px22 fx22
      have pkx0 : (w13).cell? ⟨w.heap.size + 1, 0, none⟩ = some (.bool ng) := F13kx.out.cell 0
      have fkx0 : (w13).frozen? ⟨w.heap.size + 1, 0, none⟩ = false := F13kx.out.frozen 0
      have pkx1 : (w13).cell? ⟨w.heap.size + 1, 1, none⟩ = some (.slice A m c) := F13kx.out.cell 1
      have fkx1 : (w13).frozen? ⟨w.heap.size + 1, 1, none⟩ = false := F13kx.out.frozen 1
      have pkx2 : (w13).cell? ⟨w.heap.size + 1, 2, none⟩ = some (.int .i64 ex) := F13kx.out.cell 2
      have fkx2 : (w13).frozen? ⟨w.heap.size + 1, 2, none⟩ = false := F13kx.out.frozen 2
      have pq0 : (w13).cell? ⟨w8.heap.size, 0, none⟩ = some (.int .i64 qa) := F13q.out.cell 0
      have fq0 : (w13).frozen? ⟨w8.heap.size, 0, none⟩ = false := F13q.out.frozen 0
      have pq1 : (w13).cell? ⟨w8.heap.size, 1, none⟩ = some (.int .i64 qb) := F13q.out.cell 1
      have fq1 : (w13).frozen? ⟨w8.heap.size, 1, none⟩ = false := F13q.out.frozen 1
      have px20 : (w13).cell? ⟨w10.heap.size, 0, none⟩ = some (.bool ng) := F13x2.out.cell 0
      have fx20 : (w13).frozen? ⟨w10.heap.size, 0, none⟩ = false := F13x2.out.frozen 0
      have px21 : (w13).cell? ⟨w10.heap.size, 1, none⟩ = some (.slice L2 n2 c2) := F13x2.out.cell 1
      have fx21 : (w13).frozen? ⟨w10.heap.size, 1, none⟩ = false := F13x2.out.frozen 1
      have px22 : (w13).cell? ⟨w10.heap.size, 2, none⟩ = some (.int .i64 ex) := F13x2.out.cell 2
      have fx22 : (w13).frozen? ⟨w10.heap.size, 2, none⟩ = false := F13x2.out.frozen 2
      go_wp2_with fail
      refine (valid_q qa qb w13 (by omega) (by omega) (by omega) (by omega)).mono ?_
      rw [VQ.out]
      rintro e w14 ⟨rfl, HB14⟩
      have F14t := Lib.hid (F13t.out.belowW HB14.out)
      have F14x := Lib.hid (F13x.out.belowW HB14.out)
      have F14ka := Lib.hid (F13ka.out.belowW HB14.out)
      have F14kx := Lib.hid (F13kx.out.belowW HB14.out)
      have F14x1 := Lib.hid (F13x1.out.belowW HB14.out)
      have F14q := Lib.hid (F13q.out.belowW HB14.out)
      have F14lx := Lib.hid (F13lx.out.belowW HB14.out)
      have F14s2 := Lib.hid (F13s2.out.belowW HB14.out)
      have F14x2 := Lib.hid (F13x2.out.belowW HB14.out)
      have HL14 := Lib.hid (HL13.out.trans (HB14.out.mono HL13.out.size))
      clear F13t F13x F13ka F13kx F13x1 F13q F13lx F13s2 F13x2 HL13 HB14
      clear pkx0 fkx0 pkx1 fkx1 pkx2 fkx2 pq0 fq0 pq1 fq1 px20 fx20 px21 fx21 px22 fx22
      have pkx0 : (w14).cell? ⟨w.heap.size + 1, 0, none⟩ = some (.bool ng) := F14kx.out.cell 0
      have fkx0 : (w14).frozen? ⟨w.heap.size + 1, 0, none⟩ = false := F14kx.out.frozen 0
      have pkx1 : (w14).cell? ⟨w.heap.size + 1, 1, none⟩ = some (.slice A m c) := F14kx.out.cell 1
      have fkx1 : (w14).frozen? ⟨w.heap.size + 1, 1, none⟩ = false := F14kx.out.frozen 1
      have pkx2 : (w14).cell? ⟨w.heap.size + 1, 2, none⟩ = some (.int .i64 ex) := F14kx.out.cell 2
      have fkx2 : (w14).frozen? ⟨w.heap.size + 1, 2, none⟩ = false := F14kx.out.frozen 2
      have pq0 : (w14).cell? ⟨w8.heap.size, 0, none⟩ = some (.int .i64 qa) := F14q.out.cell 0
      have fq0 : (w14).frozen? ⟨w8.heap.size, 0, none⟩ = false := F14q.out.frozen 0
      have pq1 : (w14).cell? ⟨w8.heap.size, 1, none⟩ = some (.int .i64 qb) := F14q.out.cell 1
      have fq1 : (w14).frozen? ⟨w8.heap.size, 1, none⟩ = false := F14q.out.frozen 1
      go_wp2_with fail
      go_ret
      exact ⟨rfl, HL14⟩
  | true =>
    have VA := Lib.hid hv
    have HRD := Lib.hid (show read1 S.data.toList = (an, ad, 0) by rw [HS.out]; unfold textE; rw [hv]; exact read_text (vB_iff.1 hv))
    have zS : S.size ≤ 1000 := by
      have h : S.data.toList.length ≤ 100 := by rw [HS.out]; unfold textE; rw [hv]; exact text_len (vB_iff.1 hv)
      simp at h
      omega
    have HFL := Lib.hid (show ok1 = (bits .and .i64 ad (ad - 1) == 0) by rw [← exD_flag hv, HXE.out])
    obtain ⟨v1, v2', v3, v4⟩ := vB_bd hv
    obtain ⟨V, hV⟩ : ∃ V, bits .and .i64 ad (ad - 1) = V := ⟨_, rfl⟩
    rw [hV] at HFL
    clear hv
    refine (valid_q an ad w4 a1 a2 a3 a4).mono ?_
    rw [VA.out]
    rintro e w5 ⟨rfl, HB5⟩
    have F5t := Lib.hid (F4t.out.belowW HB5.out)
    have F5x := Lib.hid (F4x.out.belowW HB5.out)
    have F5ka := Lib.hid (F4ka.out.belowW HB5.out)
    have F5kx := Lib.hid (F4kx.out.belowW HB5.out)
    have HL5 := Lib.hid (HL4.out.trans (HB5.out.mono HL4.out.size))
    clear F4t F4x F4ka F4kx HL4 HB5
    clear pka0 fka0 pka1 fka1 pkx0 fkx0 pkx1 fkx1 pkx2 fkx2
    have pka0 : (w5).cell? ⟨w.heap.size, 0, none⟩ = some (.int .i64 an) := F5ka.out.cell 0
    have fka0 : (w5).frozen? ⟨w.heap.size, 0, none⟩ = false := F5ka.out.frozen 0
    have pka1 : (w5).cell? ⟨w.heap.size, 1, none⟩ = some (.int .i64 ad) := F5ka.out.cell 1
    have fka1 : (w5).frozen? ⟨w.heap.size, 1, none⟩ = false := F5ka.out.frozen 1
    have pkx0 : (w5).cell? ⟨w.heap.size + 1, 0, none⟩ = some (.bool ng) := F5kx.out.cell 0
    have fkx0 : (w5).frozen? ⟨w.heap.size + 1, 0, none⟩ = false := F5kx.out.frozen 0
    have pkx1 : (w5).cell? ⟨w.heap.size + 1, 1, none⟩ = some (.slice A m c) := F5kx.out.cell 1
    have fkx1 : (w5).frozen? ⟨w.heap.size + 1, 1, none⟩ = false := F5kx.out.frozen 1
    have pkx2 : (w5).cell? ⟨w.heap.size + 1, 2, none⟩ = some (.int .i64 ex) := F5kx.out.cell 2
    have fkx2 : (w5).frozen? ⟨w.heap.size + 1, 2, none⟩ = false := F5kx.out.frozen 2
    go_wp2_with fail
    refine (parse_any' S w5 F5t.out zS).mono ?_
    rw [HRD.out]
    rintro e w6 ⟨rfl, HB6⟩
    have F6t := Lib.hid (F5t.out.belowW HB6.out)
    have F6x := Lib.hid (F5x.out.belowW HB6.out)
    have F6ka := Lib.hid (F5ka.out.belowW HB6.out)
    have F6kx := Lib.hid (F5kx.out.belowW HB6.out)
    have HL6 := Lib.hid (HL5.out.trans (HB6.out.mono HL5.out.size))
    clear F5t F5x F5ka F5kx HL5 HB6
    go_upto_region 11 with (fail)
    obtain ⟨w7, hw⟩ : ∃ z9 : World, z9 = w6.alloc (.cells #[.int .i64 an, .int .i64 ad] 23) := ⟨_, rfl⟩
    have HB7 := Lib.hid (show Below w6.heap.size w6 w7 by rw [hw]; exact below_a1 _ _)
    have F7ag := Lib.hid (show Blk w7 w6.heap.size 23 #[.int .i64 an, .int .i64 ad] by rw [hw]; exact Blk.new _ _ _)
    rw [← hw]
    clear hw
    have F7t := Lib.hid (F6t.out.belowW HB7.out)
    have F7x := Lib.hid (F6x.out.belowW HB7.out)
    have F7ka := Lib.hid (F6ka.out.belowW HB7.out)
    have F7kx := Lib.hid (F6kx.out.belowW HB7.out)
    have HL7 := Lib.hid (HL6.out.trans (HB7.out.mono HL6.out.size))
    clear F6t F6x F6ka F6kx HL6 HB7
    clear pka0 fka0 pka1 fka1 pkx0 fkx0 pkx1 fkx1 pkx2 fkx2
    have pka0 : (w7).cell? ⟨w.heap.size, 0, none⟩ = some (.int .i64 an) := F7ka.out.cell 0
    have fka0 : (w7).frozen? ⟨w.heap.size, 0, none⟩ = false := F7ka.out.frozen 0
    have pka1 : (w7).cell? ⟨w.heap.size, 1, none⟩ = some (.int .i64 ad) := F7ka.out.cell 1
    have fka1 : (w7).frozen? ⟨w.heap.size, 1, none⟩ = false := F7ka.out.frozen 1
    have pag0 : (w7).cell? ⟨w6.heap.size, 0, none⟩ = some (.int .i64 an) := F7ag.out.cell 0
    have fag0 : (w7).frozen? ⟨w6.heap.size, 0, none⟩ = false := F7ag.out.frozen 0
    have pag1 : (w7).cell? ⟨w6.heap.size, 1, none⟩ = some (.int .i64 ad) := F7ag.out.cell 1
    have fag1 : (w7).frozen? ⟨w6.heap.size, 1, none⟩ = false := F7ag.out.frozen 1
    go_wp2_with fail
    refine (exact_any an ad w7 F7t.out.toRB a1 a2 a3 a4).mono ?_
    rw [HXE.out]
    rintro e w8 ⟨L1, n1, c1, rfl, HS1, HB8⟩
    have F8t := Lib.hid (F7t.out.belowW HB8.out)
    have F8x := Lib.hid (F7x.out.belowW HB8.out)
    have F8ka := Lib.hid (F7ka.out.belowW HB8.out)
    have F8kx := Lib.hid (F7kx.out.belowW HB8.out)
    have F8ag := Lib.hid (F7ag.out.belowW HB8.out)
    have HL8 := Lib.hid (HL7.out.trans (HB8.out.mono HL7.out.size))
    clear F7t F7x F7ka F7kx F7ag HL7 HB8
    have F8s1 := Lib.hid (HS1.out)
    go_upto_region 14 with (fail)
    obtain ⟨w9, hw⟩ : ∃ z9 : World, z9 = w8.alloc (.cells #[.bool xe.neg, .slice L1 n1 c1, .int .i64 xe.e] 28) := ⟨_, rfl⟩
    have HB9 := Lib.hid (show Below w8.heap.size w8 w9 by rw [hw]; exact below_a1 _ _)
    have F9x1 := Lib.hid (show Blk w9 w8.heap.size 28 #[.bool xe.neg, .slice L1 n1 c1, .int .i64 xe.e] by rw [hw]; exact Blk.new _ _ _)
    rw [← hw]
    clear hw
    have F9t := Lib.hid (F8t.out.belowW HB9.out)
    have F9x := Lib.hid (F8x.out.belowW HB9.out)
    have F9ka := Lib.hid (F8ka.out.belowW HB9.out)
    have F9kx := Lib.hid (F8kx.out.belowW HB9.out)
    have F9ag := Lib.hid (F8ag.out.belowW HB9.out)
    have F9s1 := Lib.hid (F8s1.out.belowW HB9.out)
    have HL9 := Lib.hid (HL8.out.trans (HB9.out.mono HL8.out.size))
    clear F8t F8x F8ka F8kx F8ag F8s1 HL8 HB9
    clear pka0 fka0 pka1 fka1 pag0 fag0 pag1 fag1
    have pka0 : (w9).cell? ⟨w.heap.size, 0, none⟩ = some (.int .i64 an) := F9ka.out.cell 0
    have fka0 : (w9).frozen? ⟨w.heap.size, 0, none⟩ = false := F9ka.out.frozen 0
    have pka1 : (w9).cell? ⟨w.heap.size, 1, none⟩ = some (.int .i64 ad) := F9ka.out.cell 1
    have fka1 : (w9).frozen? ⟨w.heap.size, 1, none⟩ = false := F9ka.out.frozen 1
    have pkx0 : (w9).cell? ⟨w.heap.size + 1, 0, none⟩ = some (.bool ng) := F9kx.out.cell 0
    have fkx0 : (w9).frozen? ⟨w.heap.size + 1, 0, none⟩ = false := F9kx.out.frozen 0
    have pkx1 : (w9).cell? ⟨w.heap.size + 1, 1, none⟩ = some (.slice A m c) := F9kx.out.cell 1
    have fkx1 : (w9).frozen? ⟨w.heap.size + 1, 1, none⟩ = false := F9kx.out.frozen 1
    have pkx2 : (w9).cell? ⟨w.heap.size + 1, 2, none⟩ = some (.int .i64 ex) := F9kx.out.cell 2
    have fkx2 : (w9).frozen? ⟨w.heap.size + 1, 2, none⟩ = false := F9kx.out.frozen 2
    have px10 : (w9).cell? ⟨w8.heap.size, 0, none⟩ = some (.bool xe.neg) := F9x1.out.cell 0
    have fx10 : (w9).frozen? ⟨w8.heap.size, 0, none⟩ = false := F9x1.out.frozen 0
    have px11 : (w9).cell? ⟨w8.heap.size, 1, none⟩ = some (.slice L1 n1 c1) := F9x1.out.cell 1
    have fx11 : (w9).frozen? ⟨w8.heap.size, 1, none⟩ = false := F9x1.out.frozen 1
    have px12 : (w9).cell? ⟨w8.heap.size, 2, none⟩ = some (.int .i64 xe.e) := F9x1.out.cell 2
    have fx12 : (w9).frozen? ⟨w8.heap.size, 2, none⟩ = false := F9x1.out.frozen 2
    cases ok1 with
    | false =>
      have dV : (V == 0) = false := HFL.out.symm
      go_wp2_with fail
      refine (of_any ng A m c ex l w9 F9x.out).mono ?_
      rw [HOD.out]
      rintro e w10 ⟨rfl, HB10⟩
      have F10t := Lib.hid (F9t.out.belowW HB10.out)
      have F10x := Lib.hid (F9x.out.belowW HB10.out)
      have F10ka := Lib.hid (F9ka.out.belowW HB10.out)
      have F10kx := Lib.hid (F9kx.out.belowW HB10.out)
      have F10ag := Lib.hid (F9ag.out.belowW HB10.out)
      have F10s1 := Lib.hid (F9s1.out.belowW HB10.out)
      have F10x1 := Lib.hid (F9x1.out.belowW HB10.out)
      have HL10 := Lib.hid (HL9.out.trans (HB10.out.mono HL9.out.size))
      clear F9t F9x F9ka F9kx F9ag F9s1 F9x1 HL9 HB10
      go_upto_region 21 with (fail)
      obtain ⟨w11, hw⟩ : ∃ z9 : World, z9 = w10.alloc (.cells #[.int .i64 qa, .int .i64 qb] 23) := ⟨_, rfl⟩
      have HB11 := Lib.hid (show Below w10.heap.size w10 w11 by rw [hw]; exact below_a1 _ _)
      have F11q := Lib.hid (show Blk w11 w10.heap.size 23 #[.int .i64 qa, .int .i64 qb] by rw [hw]; exact Blk.new _ _ _)
      rw [← hw]
      clear hw
      have F11t := Lib.hid (F10t.out.belowW HB11.out)
      have F11x := Lib.hid (F10x.out.belowW HB11.out)
      have F11ka := Lib.hid (F10ka.out.belowW HB11.out)
      have F11kx := Lib.hid (F10kx.out.belowW HB11.out)
      have F11ag := Lib.hid (F10ag.out.belowW HB11.out)
      have F11s1 := Lib.hid (F10s1.out.belowW HB11.out)
      have F11x1 := Lib.hid (F10x1.out.belowW HB11.out)
      have HL11 := Lib.hid (HL10.out.trans (HB11.out.mono HL10.out.size))
      clear F10t F10x F10ka F10kx F10ag F10s1 F10x1 HL10 HB11
      cases ok2 with
      | false =>
        obtain ⟨rfl, rfl⟩ := ofD_no HOD.out
        clear pka0 fka0 pka1 fka1 pkx0 fkx0 pkx1 fkx1 pkx2 fkx2 px10 fx10 px11 fx11 px12 fx12
        have pq0 : (w11).cell? ⟨w10.heap.size, 0, none⟩ = some (.int .i64 0) := F11q.out.cell 0
        have fq0 : (w11).frozen? ⟨w10.heap.size, 0, none⟩ = false := F11q.out.frozen 0
        have pq1 : (w11).cell? ⟨w10.heap.size, 1, none⟩ = some (.int .i64 0) := F11q.out.cell 1
        have fq1 : (w11).frozen? ⟨w10.heap.size, 1, none⟩ = false := F11q.out.frozen 1
        go_wp2_with fail
        go_ret
        exact ⟨rfl, HL11⟩
      | true =>
        obtain ⟨hv2, hof2⟩ := ofD_yes HOD.out
        obtain ⟨hl2, hvld2⟩ := vldL_iff.1 hv2
        obtain ⟨vq, exq, cq⟩ := of_exD hvld2 hof2
        have HXQ := Lib.hid exq
        have HCQ := Lib.hid cq
        have VQ := Lib.hid vq
        have VX2 := Lib.hid hvld2
        have HL2 := Lib.hid hl2
        obtain ⟨k1, k2, k3, k4⟩ := vB_bd vq
        have FLX := Lib.hid (show Sl w11 A m c (limbs (val l)) by rw [← hl2]; exact F11x.out)
        have HSM := Lib.hid (show sameB ng ng (limbs (val l)) l ex ex = true by unfold sameB; rw [← hl2]; simp)
        clear hv2 hof2 hl2 hvld2 vq exq cq
        clear pka0 fka0 pka1 fka1 pkx0 fkx0 pkx1 fkx1 pkx2 fkx2 px10 fx10 px11 fx11 px12 fx12
        have pkx0 : (w11).cell? ⟨w.heap.size + 1, 0, none⟩ = some (.bool ng) := F11kx.out.cell 0
        have fkx0 : (w11).frozen? ⟨w.heap.size + 1, 0, none⟩ = false := F11kx.out.frozen 0
        have pkx1 : (w11).cell? ⟨w.heap.size + 1, 1, none⟩ = some (.slice A m c) := F11kx.out.cell 1
        have fkx1 : (w11).frozen? ⟨w.heap.size + 1, 1, none⟩ = false := F11kx.out.frozen 1
        have pkx2 : (w11).cell? ⟨w.heap.size + 1, 2, none⟩ = some (.int .i64 ex) := F11kx.out.cell 2
        have fkx2 : (w11).frozen? ⟨w.heap.size + 1, 2, none⟩ = false := F11kx.out.frozen 2
        have pq0 : (w11).cell? ⟨w10.heap.size, 0, none⟩ = some (.int .i64 qa) := F11q.out.cell 0
        have fq0 : (w11).frozen? ⟨w10.heap.size, 0, none⟩ = false := F11q.out.frozen 0
        have pq1 : (w11).cell? ⟨w10.heap.size, 1, none⟩ = some (.int .i64 qb) := F11q.out.cell 1
        have fq1 : (w11).frozen? ⟨w10.heap.size, 1, none⟩ = false := F11q.out.frozen 1
        go_wp2_with fail
        refine (exact_any qa qb w11 F11t.out.toRB (by omega) (by omega) (by omega) (by omega)).mono ?_
        rw [HXQ.out]
        rintro e w12 ⟨L2, n2, c2, rfl, HS2, HB12⟩
        have F12t := Lib.hid (F11t.out.belowW HB12.out)
        have F12x := Lib.hid (F11x.out.belowW HB12.out)
        have F12ka := Lib.hid (F11ka.out.belowW HB12.out)
        have F12kx := Lib.hid (F11kx.out.belowW HB12.out)
        have F12ag := Lib.hid (F11ag.out.belowW HB12.out)
        have F12s1 := Lib.hid (F11s1.out.belowW HB12.out)
        have F12x1 := Lib.hid (F11x1.out.belowW HB12.out)
        have F12q := Lib.hid (F11q.out.belowW HB12.out)
        have F12lx := Lib.hid (FLX.out.belowW HB12.out)
        have HL12 := Lib.hid (HL11.out.trans (HB12.out.mono HL11.out.size))
        clear F11t F11x F11ka F11kx F11ag F11s1 F11x1 F11q FLX HL11 HB12
        have F12s2 := Lib.hid (HS2.out)
        go_upto_region 24 with (fail)
        obtain ⟨w13, hw⟩ : ∃ z9 : World, z9 = w12.alloc (.cells #[.bool ng, .slice L2 n2 c2, .int .i64 ex] 28) := ⟨_, rfl⟩
        have HB13 := Lib.hid (show Below w12.heap.size w12 w13 by rw [hw]; exact below_a1 _ _)
        have F13x2 := Lib.hid (show Blk w13 w12.heap.size 28 #[.bool ng, .slice L2 n2 c2, .int .i64 ex] by rw [hw]; exact Blk.new _ _ _)
        rw [← hw]
        clear hw
        have F13t := Lib.hid (F12t.out.belowW HB13.out)
        have F13x := Lib.hid (F12x.out.belowW HB13.out)
        have F13ka := Lib.hid (F12ka.out.belowW HB13.out)
        have F13kx := Lib.hid (F12kx.out.belowW HB13.out)
        have F13ag := Lib.hid (F12ag.out.belowW HB13.out)
        have F13s1 := Lib.hid (F12s1.out.belowW HB13.out)
        have F13x1 := Lib.hid (F12x1.out.belowW HB13.out)
        have F13q := Lib.hid (F12q.out.belowW HB13.out)
        have F13lx := Lib.hid (F12lx.out.belowW HB13.out)
        have F13s2 := Lib.hid (F12s2.out.belowW HB13.out)
        have HL13 := Lib.hid (HL12.out.trans (HB13.out.mono HL12.out.size))
        clear F12t F12x F12ka F12kx F12ag F12s1 F12x1 F12q F12lx F12s2 HL12 HB13
        clear pkx0 fkx0 pkx1 fkx1 pkx2 fkx2 pq0 fq0 pq1 fq1
        have pkx0 : (w13).cell? ⟨w.heap.size + 1, 0, none⟩ = some (.bool ng) := F13kx.out.cell 0
        have fkx0 : (w13).frozen? ⟨w.heap.size + 1, 0, none⟩ = false := F13kx.out.frozen 0
        have pkx1 : (w13).cell? ⟨w.heap.size + 1, 1, none⟩ = some (.slice A m c) := F13kx.out.cell 1
        have fkx1 : (w13).frozen? ⟨w.heap.size + 1, 1, none⟩ = false := F13kx.out.frozen 1
        have pkx2 : (w13).cell? ⟨w.heap.size + 1, 2, none⟩ = some (.int .i64 ex) := F13kx.out.cell 2
        have fkx2 : (w13).frozen? ⟨w.heap.size + 1, 2, none⟩ = false := F13kx.out.frozen 2
        have pq0 : (w13).cell? ⟨w10.heap.size, 0, none⟩ = some (.int .i64 qa) := F13q.out.cell 0
        have fq0 : (w13).frozen? ⟨w10.heap.size, 0, none⟩ = false := F13q.out.frozen 0
        have pq1 : (w13).cell? ⟨w10.heap.size, 1, none⟩ = some (.int .i64 qb) := F13q.out.cell 1
        have fq1 : (w13).frozen? ⟨w10.heap.size, 1, none⟩ = false := F13q.out.frozen 1
        have px20 : (w13).cell? ⟨w12.heap.size, 0, none⟩ = some (.bool ng) := F13x2.out.cell 0
        have fx20 : (w13).frozen? ⟨w12.heap.size, 0, none⟩ = false := F13x2.out.frozen 0
        have px21 : (w13).cell? ⟨w12.heap.size, 1, none⟩ = some (.slice L2 n2 c2) := F13x2.out.cell 1
        have fx21 : (w13).frozen? ⟨w12.heap.size, 1, none⟩ = false := F13x2.out.frozen 1
        have px22 : (w13).cell? ⟨w12.heap.size, 2, none⟩ = some (.int .i64 ex) := F13x2.out.cell 2
        have fx22 : (w13).frozen? ⟨w12.heap.size, 2, none⟩ = false := F13x2.out.frozen 2
        go_wp2_with fail
        refine (compare_yes qa qb ⟨ng, val l, ex⟩ A m c w13 F13lx.out VX2.out VQ.out).mono ?_
        rw [HCQ.out]
        rintro e w14 ⟨rfl, HB14⟩
        have F14t := Lib.hid (F13t.out.belowW HB14.out)
        have F14x := Lib.hid (F13x.out.belowW HB14.out)
        have F14ka := Lib.hid (F13ka.out.belowW HB14.out)
        have F14kx := Lib.hid (F13kx.out.belowW HB14.out)
        have F14ag := Lib.hid (F13ag.out.belowW HB14.out)
        have F14s1 := Lib.hid (F13s1.out.belowW HB14.out)
        have F14x1 := Lib.hid (F13x1.out.belowW HB14.out)
        have F14q := Lib.hid (F13q.out.belowW HB14.out)
        have F14lx := Lib.hid (F13lx.out.belowW HB14.out)
        have F14s2 := Lib.hid (F13s2.out.belowW HB14.out)
        have F14x2 := Lib.hid (F13x2.out.belowW HB14.out)
        have HL14 := Lib.hid (HL13.out.trans (HB14.out.mono HL13.out.size))
        clear F13t F13x F13ka F13kx F13ag F13s1 F13x1 F13q F13lx F13s2 F13x2 HL13 HB14
        clear pkx0 fkx0 pkx1 fkx1 pkx2 fkx2 pq0 fq0 pq1 fq1 px20 fx20 px21 fx21 px22 fx22
        have pkx0 : (w14).cell? ⟨w.heap.size + 1, 0, none⟩ = some (.bool ng) := F14kx.out.cell 0
        have fkx0 : (w14).frozen? ⟨w.heap.size + 1, 0, none⟩ = false := F14kx.out.frozen 0
        have pkx1 : (w14).cell? ⟨w.heap.size + 1, 1, none⟩ = some (.slice A m c) := F14kx.out.cell 1
        have fkx1 : (w14).frozen? ⟨w.heap.size + 1, 1, none⟩ = false := F14kx.out.frozen 1
        have pkx2 : (w14).cell? ⟨w.heap.size + 1, 2, none⟩ = some (.int .i64 ex) := F14kx.out.cell 2
        have fkx2 : (w14).frozen? ⟨w.heap.size + 1, 2, none⟩ = false := F14kx.out.frozen 2
        have pq0 : (w14).cell? ⟨w10.heap.size, 0, none⟩ = some (.int .i64 qa) := F14q.out.cell 0
        have fq0 : (w14).frozen? ⟨w10.heap.size, 0, none⟩ = false := F14q.out.frozen 0
        have pq1 : (w14).cell? ⟨w10.heap.size, 1, none⟩ = some (.int .i64 qb) := F14q.out.cell 1
        have fq1 : (w14).frozen? ⟨w10.heap.size, 1, none⟩ = false := F14q.out.frozen 1
        have px20 : (w14).cell? ⟨w12.heap.size, 0, none⟩ = some (.bool ng) := F14x2.out.cell 0
        have fx20 : (w14).frozen? ⟨w12.heap.size, 0, none⟩ = false := F14x2.out.frozen 0
        have px21 : (w14).cell? ⟨w12.heap.size, 1, none⟩ = some (.slice L2 n2 c2) := F14x2.out.cell 1
        have fx21 : (w14).frozen? ⟨w12.heap.size, 1, none⟩ = false := F14x2.out.frozen 1
        have px22 : (w14).cell? ⟨w12.heap.size, 2, none⟩ = some (.int .i64 ex) := F14x2.out.cell 2
        have fx22 : (w14).frozen? ⟨w12.heap.size, 2, none⟩ = false := F14x2.out.frozen 2
        go_wp2_with fail
        refine (same_any ng ng L2 A n2 c2 m c _ l ex ex w14 F14s2.out F14x.out).mono ?_
        rw [HSM.out]
        rintro e w15 ⟨rfl, HB15⟩
        have F15t := Lib.hid (F14t.out.belowW HB15.out)
        have F15x := Lib.hid (F14x.out.belowW HB15.out)
        have F15ka := Lib.hid (F14ka.out.belowW HB15.out)
        have F15kx := Lib.hid (F14kx.out.belowW HB15.out)
        have F15ag := Lib.hid (F14ag.out.belowW HB15.out)
        have F15s1 := Lib.hid (F14s1.out.belowW HB15.out)
        have F15x1 := Lib.hid (F14x1.out.belowW HB15.out)
        have F15q := Lib.hid (F14q.out.belowW HB15.out)
        have F15lx := Lib.hid (F14lx.out.belowW HB15.out)
        have F15s2 := Lib.hid (F14s2.out.belowW HB15.out)
        have F15x2 := Lib.hid (F14x2.out.belowW HB15.out)
        have HL15 := Lib.hid (HL14.out.trans (HB15.out.mono HL14.out.size))
        clear F14t F14x F14ka F14kx F14ag F14s1 F14x1 F14q F14lx F14s2 F14x2 HL14 HB15
        clear pkx0 fkx0 pkx1 fkx1 pkx2 fkx2 pq0 fq0 pq1 fq1 px20 fx20 px21 fx21 px22 fx22
        have pkx0 : (w15).cell? ⟨w.heap.size + 1, 0, none⟩ = some (.bool ng) := F15kx.out.cell 0
        have fkx0 : (w15).frozen? ⟨w.heap.size + 1, 0, none⟩ = false := F15kx.out.frozen 0
        have pkx1 : (w15).cell? ⟨w.heap.size + 1, 1, none⟩ = some (.slice A m c) := F15kx.out.cell 1
        have fkx1 : (w15).frozen? ⟨w.heap.size + 1, 1, none⟩ = false := F15kx.out.frozen 1
        have pkx2 : (w15).cell? ⟨w.heap.size + 1, 2, none⟩ = some (.int .i64 ex) := F15kx.out.cell 2
        have fkx2 : (w15).frozen? ⟨w.heap.size + 1, 2, none⟩ = false := F15kx.out.frozen 2
        have pq0 : (w15).cell? ⟨w10.heap.size, 0, none⟩ = some (.int .i64 qa) := F15q.out.cell 0
        have fq0 : (w15).frozen? ⟨w10.heap.size, 0, none⟩ = false := F15q.out.frozen 0
        have pq1 : (w15).cell? ⟨w10.heap.size, 1, none⟩ = some (.int .i64 qb) := F15q.out.cell 1
        have fq1 : (w15).frozen? ⟨w10.heap.size, 1, none⟩ = false := F15q.out.frozen 1
        have px20 : (w15).cell? ⟨w12.heap.size, 0, none⟩ = some (.bool ng) := F15x2.out.cell 0
        have fx20 : (w15).frozen? ⟨w12.heap.size, 0, none⟩ = false := F15x2.out.frozen 0
        have px21 : (w15).cell? ⟨w12.heap.size, 1, none⟩ = some (.slice L2 n2 c2) := F15x2.out.cell 1
        have fx21 : (w15).frozen? ⟨w12.heap.size, 1, none⟩ = false := F15x2.out.frozen 1
        have px22 : (w15).cell? ⟨w12.heap.size, 2, none⟩ = some (.int .i64 ex) := F15x2.out.cell 2
        have fx22 : (w15).frozen? ⟨w12.heap.size, 2, none⟩ = false := F15x2.out.frozen 2
        go_wp2_with fail
        refine (valid_q qa qb w15 (by omega) (by omega) (by omega) (by omega)).mono ?_
        rw [VQ.out]
        rintro e w16 ⟨rfl, HB16⟩
        have F16t := Lib.hid (F15t.out.belowW HB16.out)
        have F16x := Lib.hid (F15x.out.belowW HB16.out)
        have F16ka := Lib.hid (F15ka.out.belowW HB16.out)
        have F16kx := Lib.hid (F15kx.out.belowW HB16.out)
        have F16ag := Lib.hid (F15ag.out.belowW HB16.out)
        have F16s1 := Lib.hid (F15s1.out.belowW HB16.out)
        have F16x1 := Lib.hid (F15x1.out.belowW HB16.out)
        have F16q := Lib.hid (F15q.out.belowW HB16.out)
        have F16lx := Lib.hid (F15lx.out.belowW HB16.out)
        have F16s2 := Lib.hid (F15s2.out.belowW HB16.out)
        have F16x2 := Lib.hid (F15x2.out.belowW HB16.out)
        have HL16 := Lib.hid (HL15.out.trans (HB16.out.mono HL15.out.size))
        clear F15t F15x F15ka F15kx F15ag F15s1 F15x1 F15q F15lx F15s2 F15x2 HL15 HB16
        clear pkx0 fkx0 pkx1 fkx1 pkx2 fkx2 pq0 fq0 pq1 fq1 px20 fx20 px21 fx21 px22 fx22
        have pkx0 : (w16).cell? ⟨w.heap.size + 1, 0, none⟩ = some (.bool ng) := F16kx.out.cell 0
        have fkx0 : (w16).frozen? ⟨w.heap.size + 1, 0, none⟩ = false := F16kx.out.frozen 0
        have pkx1 : (w16).cell? ⟨w.heap.size + 1, 1, none⟩ = some (.slice A m c) := F16kx.out.cell 1
        have fkx1 : (w16).frozen? ⟨w.heap.size + 1, 1, none⟩ = false := F16kx.out.frozen 1
        have pkx2 : (w16).cell? ⟨w.heap.size + 1, 2, none⟩ = some (.int .i64 ex) := F16kx.out.cell 2
        have fkx2 : (w16).frozen? ⟨w.heap.size + 1, 2, none⟩ = false := F16kx.out.frozen 2
        have pq0 : (w16).cell? ⟨w10.heap.size, 0, none⟩ = some (.int .i64 qa) := F16q.out.cell 0
        have fq0 : (w16).frozen? ⟨w10.heap.size, 0, none⟩ = false := F16q.out.frozen 0
        have pq1 : (w16).cell? ⟨w10.heap.size, 1, none⟩ = some (.int .i64 qb) := F16q.out.cell 1
        have fq1 : (w16).frozen? ⟨w10.heap.size, 1, none⟩ = false := F16q.out.frozen 1
        go_wp2_with fail
        go_ret
        exact ⟨rfl, HL16⟩
    | true =>
      have dV : (V == 0) = true := HFL.out.symm
      obtain ⟨_, hof1, hvl1⟩ := exD_true HXE.out
      have HO1 := Lib.hid hof1
      have VX1 := Lib.hid hvl1
      clear hof1 hvl1
      go_wp2_with fail
      refine (of_yes xe L1 n1 c1 w9 F9s1.out VX1.out).mono ?_
      rw [HO1.out]
      rintro e w10 ⟨rfl, HB10⟩
      have F10t := Lib.hid (F9t.out.belowW HB10.out)
      have F10x := Lib.hid (F9x.out.belowW HB10.out)
      have F10ka := Lib.hid (F9ka.out.belowW HB10.out)
      have F10kx := Lib.hid (F9kx.out.belowW HB10.out)
      have F10ag := Lib.hid (F9ag.out.belowW HB10.out)
      have F10s1 := Lib.hid (F9s1.out.belowW HB10.out)
      have F10x1 := Lib.hid (F9x1.out.belowW HB10.out)
      have HL10 := Lib.hid (HL9.out.trans (HB10.out.mono HL9.out.size))
      clear F9t F9x F9ka F9kx F9ag F9s1 F9x1 HL9 HB10
      go_upto_region 18 with (fail)
      obtain ⟨w11, hw⟩ : ∃ z9 : World, z9 = w10.alloc (.cells #[.int .i64 an, .int .i64 ad] 23) := ⟨_, rfl⟩
      have HB11 := Lib.hid (show Below w10.heap.size w10 w11 by rw [hw]; exact below_a1 _ _)
      have F11bk := Lib.hid (show Blk w11 w10.heap.size 23 #[.int .i64 an, .int .i64 ad] by rw [hw]; exact Blk.new _ _ _)
      rw [← hw]
      clear hw
      have F11t := Lib.hid (F10t.out.belowW HB11.out)
      have F11x := Lib.hid (F10x.out.belowW HB11.out)
      have F11ka := Lib.hid (F10ka.out.belowW HB11.out)
      have F11kx := Lib.hid (F10kx.out.belowW HB11.out)
      have F11ag := Lib.hid (F10ag.out.belowW HB11.out)
      have F11s1 := Lib.hid (F10s1.out.belowW HB11.out)
      have F11x1 := Lib.hid (F10x1.out.belowW HB11.out)
      have HL11 := Lib.hid (HL10.out.trans (HB11.out.mono HL10.out.size))
      clear F10t F10x F10ka F10kx F10ag F10s1 F10x1 HL10 HB11
      clear pka0 fka0 pka1 fka1 pkx0 fkx0 pkx1 fkx1 pkx2 fkx2 px10 fx10 px11 fx11 px12 fx12
      have pka0 : (w11).cell? ⟨w.heap.size, 0, none⟩ = some (.int .i64 an) := F11ka.out.cell 0
      have fka0 : (w11).frozen? ⟨w.heap.size, 0, none⟩ = false := F11ka.out.frozen 0
      have pka1 : (w11).cell? ⟨w.heap.size, 1, none⟩ = some (.int .i64 ad) := F11ka.out.cell 1
      have fka1 : (w11).frozen? ⟨w.heap.size, 1, none⟩ = false := F11ka.out.frozen 1
      have px10 : (w11).cell? ⟨w8.heap.size, 0, none⟩ = some (.bool xe.neg) := F11x1.out.cell 0
      have fx10 : (w11).frozen? ⟨w8.heap.size, 0, none⟩ = false := F11x1.out.frozen 0
      have px11 : (w11).cell? ⟨w8.heap.size, 1, none⟩ = some (.slice L1 n1 c1) := F11x1.out.cell 1
      have fx11 : (w11).frozen? ⟨w8.heap.size, 1, none⟩ = false := F11x1.out.frozen 1
      have px12 : (w11).cell? ⟨w8.heap.size, 2, none⟩ = some (.int .i64 xe.e) := F11x1.out.cell 2
      have fx12 : (w11).frozen? ⟨w8.heap.size, 2, none⟩ = false := F11x1.out.frozen 2
      have pbk0 : (w11).cell? ⟨w10.heap.size, 0, none⟩ = some (.int .i64 an) := F11bk.out.cell 0
      have fbk0 : (w11).frozen? ⟨w10.heap.size, 0, none⟩ = false := F11bk.out.frozen 0
      have pbk1 : (w11).cell? ⟨w10.heap.size, 1, none⟩ = some (.int .i64 ad) := F11bk.out.cell 1
      have fbk1 : (w11).frozen? ⟨w10.heap.size, 1, none⟩ = false := F11bk.out.frozen 1
      go_wp2_with fail
      refine (valid_yes xe L1 n1 c1 w11 F11s1.out VX1.out).mono ?_
      rintro e w12 ⟨rfl, HB12⟩
      have F12t := Lib.hid (F11t.out.belowW HB12.out)
      have F12x := Lib.hid (F11x.out.belowW HB12.out)
      have F12ka := Lib.hid (F11ka.out.belowW HB12.out)
      have F12kx := Lib.hid (F11kx.out.belowW HB12.out)
      have F12ag := Lib.hid (F11ag.out.belowW HB12.out)
      have F12s1 := Lib.hid (F11s1.out.belowW HB12.out)
      have F12x1 := Lib.hid (F11x1.out.belowW HB12.out)
      have F12bk := Lib.hid (F11bk.out.belowW HB12.out)
      have HL12 := Lib.hid (HL11.out.trans (HB12.out.mono HL11.out.size))
      clear F11t F11x F11ka F11kx F11ag F11s1 F11x1 F11bk HL11 HB12
      clear pka0 fka0 pka1 fka1 px10 fx10 px11 fx11 px12 fx12 pbk0 fbk0 pbk1 fbk1
      have pkx0 : (w12).cell? ⟨w.heap.size + 1, 0, none⟩ = some (.bool ng) := F12kx.out.cell 0
      have fkx0 : (w12).frozen? ⟨w.heap.size + 1, 0, none⟩ = false := F12kx.out.frozen 0
      have pkx1 : (w12).cell? ⟨w.heap.size + 1, 1, none⟩ = some (.slice A m c) := F12kx.out.cell 1
      have fkx1 : (w12).frozen? ⟨w.heap.size + 1, 1, none⟩ = false := F12kx.out.frozen 1
      have pkx2 : (w12).cell? ⟨w.heap.size + 1, 2, none⟩ = some (.int .i64 ex) := F12kx.out.cell 2
      have fkx2 : (w12).frozen? ⟨w.heap.size + 1, 2, none⟩ = false := F12kx.out.frozen 2
      go_wp2_with fail
      refine (of_any ng A m c ex l w12 F12x.out).mono ?_
      rw [HOD.out]
      rintro e w13 ⟨rfl, HB13⟩
      have F13t := Lib.hid (F12t.out.belowW HB13.out)
      have F13x := Lib.hid (F12x.out.belowW HB13.out)
      have F13ka := Lib.hid (F12ka.out.belowW HB13.out)
      have F13kx := Lib.hid (F12kx.out.belowW HB13.out)
      have F13ag := Lib.hid (F12ag.out.belowW HB13.out)
      have F13s1 := Lib.hid (F12s1.out.belowW HB13.out)
      have F13x1 := Lib.hid (F12x1.out.belowW HB13.out)
      have F13bk := Lib.hid (F12bk.out.belowW HB13.out)
      have HL13 := Lib.hid (HL12.out.trans (HB13.out.mono HL12.out.size))
      clear F12t F12x F12ka F12kx F12ag F12s1 F12x1 F12bk HL12 HB13
      go_upto_region 21 with (fail)
      obtain ⟨w14, hw⟩ : ∃ z9 : World, z9 = w13.alloc (.cells #[.int .i64 qa, .int .i64 qb] 23) := ⟨_, rfl⟩
      have HB14 := Lib.hid (show Below w13.heap.size w13 w14 by rw [hw]; exact below_a1 _ _)
      have F14q := Lib.hid (show Blk w14 w13.heap.size 23 #[.int .i64 qa, .int .i64 qb] by rw [hw]; exact Blk.new _ _ _)
      rw [← hw]
      clear hw
      have F14t := Lib.hid (F13t.out.belowW HB14.out)
      have F14x := Lib.hid (F13x.out.belowW HB14.out)
      have F14ka := Lib.hid (F13ka.out.belowW HB14.out)
      have F14kx := Lib.hid (F13kx.out.belowW HB14.out)
      have F14ag := Lib.hid (F13ag.out.belowW HB14.out)
      have F14s1 := Lib.hid (F13s1.out.belowW HB14.out)
      have F14x1 := Lib.hid (F13x1.out.belowW HB14.out)
      have F14bk := Lib.hid (F13bk.out.belowW HB14.out)
      have HL14 := Lib.hid (HL13.out.trans (HB14.out.mono HL13.out.size))
      clear F13t F13x F13ka F13kx F13ag F13s1 F13x1 F13bk HL13 HB14
      cases ok2 with
      | false =>
        obtain ⟨rfl, rfl⟩ := ofD_no HOD.out
        clear pkx0 fkx0 pkx1 fkx1 pkx2 fkx2
        have pq0 : (w14).cell? ⟨w13.heap.size, 0, none⟩ = some (.int .i64 0) := F14q.out.cell 0
        have fq0 : (w14).frozen? ⟨w13.heap.size, 0, none⟩ = false := F14q.out.frozen 0
        have pq1 : (w14).cell? ⟨w13.heap.size, 1, none⟩ = some (.int .i64 0) := F14q.out.cell 1
        have fq1 : (w14).frozen? ⟨w13.heap.size, 1, none⟩ = false := F14q.out.frozen 1
        go_wp2_with fail
        go_ret
        exact ⟨rfl, HL14⟩
      | true =>
        obtain ⟨hv2, hof2⟩ := ofD_yes HOD.out
        obtain ⟨hl2, hvld2⟩ := vldL_iff.1 hv2
        obtain ⟨vq, exq, cq⟩ := of_exD hvld2 hof2
        have HXQ := Lib.hid exq
        have HCQ := Lib.hid cq
        have VQ := Lib.hid vq
        have VX2 := Lib.hid hvld2
        have HL2 := Lib.hid hl2
        obtain ⟨k1, k2, k3, k4⟩ := vB_bd vq
        have FLX := Lib.hid (show Sl w14 A m c (limbs (val l)) by rw [← hl2]; exact F14x.out)
        have HSM := Lib.hid (show sameB ng ng (limbs (val l)) l ex ex = true by unfold sameB; rw [← hl2]; simp)
        clear hv2 hof2 hl2 hvld2 vq exq cq
        clear pkx0 fkx0 pkx1 fkx1 pkx2 fkx2
        have pkx0 : (w14).cell? ⟨w.heap.size + 1, 0, none⟩ = some (.bool ng) := F14kx.out.cell 0
        have fkx0 : (w14).frozen? ⟨w.heap.size + 1, 0, none⟩ = false := F14kx.out.frozen 0
        have pkx1 : (w14).cell? ⟨w.heap.size + 1, 1, none⟩ = some (.slice A m c) := F14kx.out.cell 1
        have fkx1 : (w14).frozen? ⟨w.heap.size + 1, 1, none⟩ = false := F14kx.out.frozen 1
        have pkx2 : (w14).cell? ⟨w.heap.size + 1, 2, none⟩ = some (.int .i64 ex) := F14kx.out.cell 2
        have fkx2 : (w14).frozen? ⟨w.heap.size + 1, 2, none⟩ = false := F14kx.out.frozen 2
        have pq0 : (w14).cell? ⟨w13.heap.size, 0, none⟩ = some (.int .i64 qa) := F14q.out.cell 0
        have fq0 : (w14).frozen? ⟨w13.heap.size, 0, none⟩ = false := F14q.out.frozen 0
        have pq1 : (w14).cell? ⟨w13.heap.size, 1, none⟩ = some (.int .i64 qb) := F14q.out.cell 1
        have fq1 : (w14).frozen? ⟨w13.heap.size, 1, none⟩ = false := F14q.out.frozen 1
        go_wp2_with fail
        refine (exact_any qa qb w14 F14t.out.toRB (by omega) (by omega) (by omega) (by omega)).mono ?_
        rw [HXQ.out]
        rintro e w15 ⟨L2, n2, c2, rfl, HS2, HB15⟩
        have F15t := Lib.hid (F14t.out.belowW HB15.out)
        have F15x := Lib.hid (F14x.out.belowW HB15.out)
        have F15ka := Lib.hid (F14ka.out.belowW HB15.out)
        have F15kx := Lib.hid (F14kx.out.belowW HB15.out)
        have F15ag := Lib.hid (F14ag.out.belowW HB15.out)
        have F15s1 := Lib.hid (F14s1.out.belowW HB15.out)
        have F15x1 := Lib.hid (F14x1.out.belowW HB15.out)
        have F15bk := Lib.hid (F14bk.out.belowW HB15.out)
        have F15q := Lib.hid (F14q.out.belowW HB15.out)
        have F15lx := Lib.hid (FLX.out.belowW HB15.out)
        have HL15 := Lib.hid (HL14.out.trans (HB15.out.mono HL14.out.size))
        clear F14t F14x F14ka F14kx F14ag F14s1 F14x1 F14bk F14q FLX HL14 HB15
        have F15s2 := Lib.hid (HS2.out)
        go_upto_region 24 with (fail)
        obtain ⟨w16, hw⟩ : ∃ z9 : World, z9 = w15.alloc (.cells #[.bool ng, .slice L2 n2 c2, .int .i64 ex] 28) := ⟨_, rfl⟩
        have HB16 := Lib.hid (show Below w15.heap.size w15 w16 by rw [hw]; exact below_a1 _ _)
        have F16x2 := Lib.hid (show Blk w16 w15.heap.size 28 #[.bool ng, .slice L2 n2 c2, .int .i64 ex] by rw [hw]; exact Blk.new _ _ _)
        rw [← hw]
        clear hw
        have F16t := Lib.hid (F15t.out.belowW HB16.out)
        have F16x := Lib.hid (F15x.out.belowW HB16.out)
        have F16ka := Lib.hid (F15ka.out.belowW HB16.out)
        have F16kx := Lib.hid (F15kx.out.belowW HB16.out)
        have F16ag := Lib.hid (F15ag.out.belowW HB16.out)
        have F16s1 := Lib.hid (F15s1.out.belowW HB16.out)
        have F16x1 := Lib.hid (F15x1.out.belowW HB16.out)
        have F16bk := Lib.hid (F15bk.out.belowW HB16.out)
        have F16q := Lib.hid (F15q.out.belowW HB16.out)
        have F16lx := Lib.hid (F15lx.out.belowW HB16.out)
        have F16s2 := Lib.hid (F15s2.out.belowW HB16.out)
        have HL16 := Lib.hid (HL15.out.trans (HB16.out.mono HL15.out.size))
        clear F15t F15x F15ka F15kx F15ag F15s1 F15x1 F15bk F15q F15lx F15s2 HL15 HB16
        clear pkx0 fkx0 pkx1 fkx1 pkx2 fkx2 pq0 fq0 pq1 fq1
        have pkx0 : (w16).cell? ⟨w.heap.size + 1, 0, none⟩ = some (.bool ng) := F16kx.out.cell 0
        have fkx0 : (w16).frozen? ⟨w.heap.size + 1, 0, none⟩ = false := F16kx.out.frozen 0
        have pkx1 : (w16).cell? ⟨w.heap.size + 1, 1, none⟩ = some (.slice A m c) := F16kx.out.cell 1
        have fkx1 : (w16).frozen? ⟨w.heap.size + 1, 1, none⟩ = false := F16kx.out.frozen 1
        have pkx2 : (w16).cell? ⟨w.heap.size + 1, 2, none⟩ = some (.int .i64 ex) := F16kx.out.cell 2
        have fkx2 : (w16).frozen? ⟨w.heap.size + 1, 2, none⟩ = false := F16kx.out.frozen 2
        have pq0 : (w16).cell? ⟨w13.heap.size, 0, none⟩ = some (.int .i64 qa) := F16q.out.cell 0
        have fq0 : (w16).frozen? ⟨w13.heap.size, 0, none⟩ = false := F16q.out.frozen 0
        have pq1 : (w16).cell? ⟨w13.heap.size, 1, none⟩ = some (.int .i64 qb) := F16q.out.cell 1
        have fq1 : (w16).frozen? ⟨w13.heap.size, 1, none⟩ = false := F16q.out.frozen 1
        have px20 : (w16).cell? ⟨w15.heap.size, 0, none⟩ = some (.bool ng) := F16x2.out.cell 0
        have fx20 : (w16).frozen? ⟨w15.heap.size, 0, none⟩ = false := F16x2.out.frozen 0
        have px21 : (w16).cell? ⟨w15.heap.size, 1, none⟩ = some (.slice L2 n2 c2) := F16x2.out.cell 1
        have fx21 : (w16).frozen? ⟨w15.heap.size, 1, none⟩ = false := F16x2.out.frozen 1
        have px22 : (w16).cell? ⟨w15.heap.size, 2, none⟩ = some (.int .i64 ex) := F16x2.out.cell 2
        have fx22 : (w16).frozen? ⟨w15.heap.size, 2, none⟩ = false := F16x2.out.frozen 2
        go_wp2_with fail
        refine (compare_yes qa qb ⟨ng, val l, ex⟩ A m c w16 F16lx.out VX2.out VQ.out).mono ?_
        rw [HCQ.out]
        rintro e w17 ⟨rfl, HB17⟩
        have F17t := Lib.hid (F16t.out.belowW HB17.out)
        have F17x := Lib.hid (F16x.out.belowW HB17.out)
        have F17ka := Lib.hid (F16ka.out.belowW HB17.out)
        have F17kx := Lib.hid (F16kx.out.belowW HB17.out)
        have F17ag := Lib.hid (F16ag.out.belowW HB17.out)
        have F17s1 := Lib.hid (F16s1.out.belowW HB17.out)
        have F17x1 := Lib.hid (F16x1.out.belowW HB17.out)
        have F17bk := Lib.hid (F16bk.out.belowW HB17.out)
        have F17q := Lib.hid (F16q.out.belowW HB17.out)
        have F17lx := Lib.hid (F16lx.out.belowW HB17.out)
        have F17s2 := Lib.hid (F16s2.out.belowW HB17.out)
        have F17x2 := Lib.hid (F16x2.out.belowW HB17.out)
        have HL17 := Lib.hid (HL16.out.trans (HB17.out.mono HL16.out.size))
        clear F16t F16x F16ka F16kx F16ag F16s1 F16x1 F16bk F16q F16lx F16s2 F16x2 HL16 HB17
        clear pkx0 fkx0 pkx1 fkx1 pkx2 fkx2 pq0 fq0 pq1 fq1 px20 fx20 px21 fx21 px22 fx22
        have pkx0 : (w17).cell? ⟨w.heap.size + 1, 0, none⟩ = some (.bool ng) := F17kx.out.cell 0
        have fkx0 : (w17).frozen? ⟨w.heap.size + 1, 0, none⟩ = false := F17kx.out.frozen 0
        have pkx1 : (w17).cell? ⟨w.heap.size + 1, 1, none⟩ = some (.slice A m c) := F17kx.out.cell 1
        have fkx1 : (w17).frozen? ⟨w.heap.size + 1, 1, none⟩ = false := F17kx.out.frozen 1
        have pkx2 : (w17).cell? ⟨w.heap.size + 1, 2, none⟩ = some (.int .i64 ex) := F17kx.out.cell 2
        have fkx2 : (w17).frozen? ⟨w.heap.size + 1, 2, none⟩ = false := F17kx.out.frozen 2
        have pq0 : (w17).cell? ⟨w13.heap.size, 0, none⟩ = some (.int .i64 qa) := F17q.out.cell 0
        have fq0 : (w17).frozen? ⟨w13.heap.size, 0, none⟩ = false := F17q.out.frozen 0
        have pq1 : (w17).cell? ⟨w13.heap.size, 1, none⟩ = some (.int .i64 qb) := F17q.out.cell 1
        have fq1 : (w17).frozen? ⟨w13.heap.size, 1, none⟩ = false := F17q.out.frozen 1
        have px20 : (w17).cell? ⟨w15.heap.size, 0, none⟩ = some (.bool ng) := F17x2.out.cell 0
        have fx20 : (w17).frozen? ⟨w15.heap.size, 0, none⟩ = false := F17x2.out.frozen 0
        have px21 : (w17).cell? ⟨w15.heap.size, 1, none⟩ = some (.slice L2 n2 c2) := F17x2.out.cell 1
        have fx21 : (w17).frozen? ⟨w15.heap.size, 1, none⟩ = false := F17x2.out.frozen 1
        have px22 : (w17).cell? ⟨w15.heap.size, 2, none⟩ = some (.int .i64 ex) := F17x2.out.cell 2
        have fx22 : (w17).frozen? ⟨w15.heap.size, 2, none⟩ = false := F17x2.out.frozen 2
        go_wp2_with fail
        refine (same_any ng ng L2 A n2 c2 m c _ l ex ex w17 F17s2.out F17x.out).mono ?_
        rw [HSM.out]
        rintro e w18 ⟨rfl, HB18⟩
        have F18t := Lib.hid (F17t.out.belowW HB18.out)
        have F18x := Lib.hid (F17x.out.belowW HB18.out)
        have F18ka := Lib.hid (F17ka.out.belowW HB18.out)
        have F18kx := Lib.hid (F17kx.out.belowW HB18.out)
        have F18ag := Lib.hid (F17ag.out.belowW HB18.out)
        have F18s1 := Lib.hid (F17s1.out.belowW HB18.out)
        have F18x1 := Lib.hid (F17x1.out.belowW HB18.out)
        have F18bk := Lib.hid (F17bk.out.belowW HB18.out)
        have F18q := Lib.hid (F17q.out.belowW HB18.out)
        have F18lx := Lib.hid (F17lx.out.belowW HB18.out)
        have F18s2 := Lib.hid (F17s2.out.belowW HB18.out)
        have F18x2 := Lib.hid (F17x2.out.belowW HB18.out)
        have HL18 := Lib.hid (HL17.out.trans (HB18.out.mono HL17.out.size))
        clear F17t F17x F17ka F17kx F17ag F17s1 F17x1 F17bk F17q F17lx F17s2 F17x2 HL17 HB18
        clear pkx0 fkx0 pkx1 fkx1 pkx2 fkx2 pq0 fq0 pq1 fq1 px20 fx20 px21 fx21 px22 fx22
        have pkx0 : (w18).cell? ⟨w.heap.size + 1, 0, none⟩ = some (.bool ng) := F18kx.out.cell 0
        have fkx0 : (w18).frozen? ⟨w.heap.size + 1, 0, none⟩ = false := F18kx.out.frozen 0
        have pkx1 : (w18).cell? ⟨w.heap.size + 1, 1, none⟩ = some (.slice A m c) := F18kx.out.cell 1
        have fkx1 : (w18).frozen? ⟨w.heap.size + 1, 1, none⟩ = false := F18kx.out.frozen 1
        have pkx2 : (w18).cell? ⟨w.heap.size + 1, 2, none⟩ = some (.int .i64 ex) := F18kx.out.cell 2
        have fkx2 : (w18).frozen? ⟨w.heap.size + 1, 2, none⟩ = false := F18kx.out.frozen 2
        have pq0 : (w18).cell? ⟨w13.heap.size, 0, none⟩ = some (.int .i64 qa) := F18q.out.cell 0
        have fq0 : (w18).frozen? ⟨w13.heap.size, 0, none⟩ = false := F18q.out.frozen 0
        have pq1 : (w18).cell? ⟨w13.heap.size, 1, none⟩ = some (.int .i64 qb) := F18q.out.cell 1
        have fq1 : (w18).frozen? ⟨w13.heap.size, 1, none⟩ = false := F18q.out.frozen 1
        have px20 : (w18).cell? ⟨w15.heap.size, 0, none⟩ = some (.bool ng) := F18x2.out.cell 0
        have fx20 : (w18).frozen? ⟨w15.heap.size, 0, none⟩ = false := F18x2.out.frozen 0
        have px21 : (w18).cell? ⟨w15.heap.size, 1, none⟩ = some (.slice L2 n2 c2) := F18x2.out.cell 1
        have fx21 : (w18).frozen? ⟨w15.heap.size, 1, none⟩ = false := F18x2.out.frozen 1
        have px22 : (w18).cell? ⟨w15.heap.size, 2, none⟩ = some (.int .i64 ex) := F18x2.out.cell 2
        have fx22 : (w18).frozen? ⟨w15.heap.size, 2, none⟩ = false := F18x2.out.frozen 2
        go_wp2_with fail
        refine (valid_q qa qb w18 (by omega) (by omega) (by omega) (by omega)).mono ?_
        rw [VQ.out]
        rintro e w19 ⟨rfl, HB19⟩
        have F19t := Lib.hid (F18t.out.belowW HB19.out)
        have F19x := Lib.hid (F18x.out.belowW HB19.out)
        have F19ka := Lib.hid (F18ka.out.belowW HB19.out)
        have F19kx := Lib.hid (F18kx.out.belowW HB19.out)
        have F19ag := Lib.hid (F18ag.out.belowW HB19.out)
        have F19s1 := Lib.hid (F18s1.out.belowW HB19.out)
        have F19x1 := Lib.hid (F18x1.out.belowW HB19.out)
        have F19bk := Lib.hid (F18bk.out.belowW HB19.out)
        have F19q := Lib.hid (F18q.out.belowW HB19.out)
        have F19lx := Lib.hid (F18lx.out.belowW HB19.out)
        have F19s2 := Lib.hid (F18s2.out.belowW HB19.out)
        have F19x2 := Lib.hid (F18x2.out.belowW HB19.out)
        have HL19 := Lib.hid (HL18.out.trans (HB19.out.mono HL18.out.size))
        clear F18t F18x F18ka F18kx F18ag F18s1 F18x1 F18bk F18q F18lx F18s2 F18x2 HL18 HB19
        clear pkx0 fkx0 pkx1 fkx1 pkx2 fkx2 pq0 fq0 pq1 fq1 px20 fx20 px21 fx21 px22 fx22
        have pkx0 : (w19).cell? ⟨w.heap.size + 1, 0, none⟩ = some (.bool ng) := F19kx.out.cell 0
        have fkx0 : (w19).frozen? ⟨w.heap.size + 1, 0, none⟩ = false := F19kx.out.frozen 0
        have pkx1 : (w19).cell? ⟨w.heap.size + 1, 1, none⟩ = some (.slice A m c) := F19kx.out.cell 1
        have fkx1 : (w19).frozen? ⟨w.heap.size + 1, 1, none⟩ = false := F19kx.out.frozen 1
        have pkx2 : (w19).cell? ⟨w.heap.size + 1, 2, none⟩ = some (.int .i64 ex) := F19kx.out.cell 2
        have fkx2 : (w19).frozen? ⟨w.heap.size + 1, 2, none⟩ = false := F19kx.out.frozen 2
        have pq0 : (w19).cell? ⟨w13.heap.size, 0, none⟩ = some (.int .i64 qa) := F19q.out.cell 0
        have fq0 : (w19).frozen? ⟨w13.heap.size, 0, none⟩ = false := F19q.out.frozen 0
        have pq1 : (w19).cell? ⟨w13.heap.size, 1, none⟩ = some (.int .i64 qb) := F19q.out.cell 1
        have fq1 : (w19).frozen? ⟨w13.heap.size, 1, none⟩ = false := F19q.out.frozen 1
        go_wp2_with fail
        go_ret
        exact ⟨rfl, HL19⟩
end Go.Proofs.YtnogfceojmnjiaaGreatDoor
