/-
  The walks of decimal.power and scaled.
-/
import Derived.Test.YtoogeihbhhcpaaaGreatDoorPkI
import Derived.Test.YtoogeihbhhcpaaaGreatDoorPkH
import Derived.Deep.LoopGhost
set_option linter.unusedVariables false
namespace Go.Fl
open Go.RowKit
theorem store2_put {w : World} {g : Nat} {t : TypeId} {x y : Value} (hB : Blk w g t #[x, y]) (a b : Value) : (w.setCell ⟨g, 0, none⟩ a).setCell ⟨g, 1, none⟩ b = putB w g t #[a, b] := by
  rw [hB.setCell_eq 0 a]
  have h1 := hB.put ((#[x, y] : Array Value).setIfInBounds 0 a)
  rw [h1.setCell_eq 1 b, putB_putB]
  rfl
theorem noU2 {a : Bool} {A : Option Addr} {n c : Nat} : NoU #[.bool a, .slice A n c] := by
  intro i x h
  match i with
  | 0 => simp at h
  | 1 => simp at h
  | i + 2 => simp at h
theorem below_dr (w : World) : Below w.heap.size w w.drew := below_drewN (Below.refl _ _) 1
end Go.Fl
namespace Go.Proofs.YtoogeihbhhcpaaaGreatDoor
open Go.RowKit Go.Fl Go.Fl.Nm Go.Fl.Dy
/-- Limbs of a number. -/
def SlQ (v : Nat) (w : World) (e : Ending) (w' : World) : Prop :=
  ∃ (A : Option Addr) (n c : Nat), e = .returned (.slice A n c) ∧ Hid (Sl w' A n c (limbs v)) ∧ Hid (Below w.heap.size w w')
/-- An integer with a sign. -/
def IntR (neg : Bool) (v : Nat) (w : World) (e : Ending) (w' : World) : Prop :=
  ∃ (A : Option Addr) (n c : Nat), e = .returned (.agg #[.bool neg, .slice A n c]) ∧ Hid (Sl w' A n c (limbs v)) ∧ Hid (Below w.heap.size w w')
def PowRel (w : World) (b n : Nat) (k : Nat) (ov iv : Value) (wr : World) : Prop :=
  ∃ (A : Option Addr) (m c j : Nat), ov = .slice A m c ∧ iv = .int .i64 (j : Int) ∧ n - j = k ∧ j ≤ n ∧ m ≤ 256 ∧ Hid (Sl wr A m c (limbs (b ^ j))) ∧ Hid (Below w.heap.size w wr)
set_option maxHeartbeats 2000000 in
theorem power_any (b n : Nat) (w : World) (hb : b ≤ 10) (hn : n ≤ 1000) :
    Calls Tryz.prog 99 #[.int .u32 b, .int .i64 n] w (SlQ (b ^ n) w) := by
  go_enter Tryz.func99, Tryz.ntmps99
  go_wp2_with fail
  have HS0 := Lib.hid (Sl.one (x := 1) (Blk.new w 125 #[.int .u32 1]) (by unfold BB; omega))
  have HL0 := Lib.hid (below_a1 w (.cells #[.int .u32 1] 125))
  have HE0 := Lib.hid (show [1] = limbs (b ^ 0) by rw [Nat.pow_zero]; exact (limbs_one (by omega) (by unfold BB; omega)).symm)
  rw [HE0.out] at HS0
  go_loopg [5, 8] n (PowRel w b n)
  case atStart => exact ⟨_, 1, 1, 0, rfl, rfl, rfl, Nat.zero_le _, by omega, HS0, HL0⟩
  case round =>
    clear HS0 HL0 HE0
    obtain ⟨A, m, c, j, rfl, rfl, hk, hj, hm, HS, HL⟩ := hrel
    by_cases hjn : j < n
    · have dj : decide ((j : Int) < (n : Int)) = true := decide_eq_true (by omega)
      have dj2 : decide (j < n) = true := decide_eq_true hjn
      have HP := Lib.hid (show val (limbs (b ^ j)) * val [b] = b ^ (j + 1) by rw [val_limbs, val_cons, val_nil, Nat.mul_zero, Nat.add_zero, Nat.pow_succ])
      have HV := Lib.hid (show blen (val (limbs (b ^ j)) * val [b]) ≤ 8192 by rw [HP.out]; have := blen_pow b (j + 1) hb; omega)
      go_wp2_with fail
      obtain ⟨w1, hw⟩ : ∃ z9 : World, z9 = wr.alloc (.cells #[.int .u32 (b : Int)] 125) := ⟨_, rfl⟩
      have HB1 := Lib.hid (show Below wr.heap.size wr w1 by rw [hw]; exact below_a1 _ _)
      have S1 := Lib.hid (HS.out.belowW HB1.out)
      have T1 := Lib.hid (show Sl w1 (some ⟨wr.heap.size, 0, none⟩) 1 1 [b] by rw [hw]; exact Sl.one (Blk.new _ _ _) (by unfold BB; omega))
      have L1 := Lib.hid (HL.out.trans (HB1.out.mono HL.out.size))
      rw [← hw]
      clear hw
      refine (nMul_sl A (some ⟨wr.heap.size, 0, none⟩) m c 1 1 (limbs (b ^ j)) [b] w1 S1.out T1.out hm (by omega) HV.out).mono ?_
      rw [HP.out]
      rintro e w2 ⟨P, p, rfl, HS2, HB2⟩
      have L2 := Lib.hid (L1.out.trans (HB2.out.mono L1.out.size))
      have hp : p ≤ 256 := by
        have h1 := HS2.out.lim (k := 256) (by have := blen_pow b (j + 1) hb; omega)
        exact h1
      go_wp2_with fail
      go_roundg (n - (j + 1))
      case measure => omega
      case rel => exact ⟨P, p, p, j + 1, rfl, by go_num, rfl, by omega, hp, HS2, L2⟩
    · obtain rfl : j = n := by omega
      have dj : decide ((j : Int) < (j : Int)) = false := decide_eq_false (by omega)
      go_wp2_with fail
      go_ret
      exact ⟨A, m, c, rfl, HS, HL⟩
theorem power_ten (n : Nat) (w : World) (hn : n ≤ 1000) : Calls Tryz.prog 99 #[.int .u32 10, .int .i64 n] w (SlQ (10 ^ n) w) := power_any 10 n w (by omega) hn
set_option maxHeartbeats 4000000 in
theorem scaled_whole (d : D) (A : Option Addr) (n c q : Nat) (up : Bool) (w : World) (h : Sl w A n c (limbs d.k)) (hv : vld d) (hq : q ≤ 51) (he : 0 ≤ d.e) (ht : (blen d.k : Int) + d.e ≤ 1200) :
    Calls Tryz.prog 67 #[.agg #[.bool d.neg, .slice A n c, .int .i64 d.e], .int .i64 q, .bool up] w (IntR (scN d q up) (scQ d q up) w) := by
  have H := Lib.hid h
  have hn : n ≤ 256 := by rw [← h.len]; exact vld_len hv
  have hb := vld_ebd hv
  have hbb := vld_bits hv
  obtain ⟨M, hM⟩ : ∃ M, scM d q = M := ⟨_, rfl⟩
  have HM := Lib.hid (show val (limbs d.k) * val (limbs (10 ^ q)) = M by rw [val_limbs, val_limbs]; exact hM)
  have bM : blen M ≤ 4301 := by rw [← hM]; have := scM_bits d q; omega
  have HV := Lib.hid (show blen (val (limbs d.k) * val (limbs (10 ^ q))) ≤ 8192 by rw [HM.out]; omega)
  have HP9 := Lib.hid (show blen (10 ^ q) ≤ 32 * 256 by have := blen_ten q; omega)
  have HM9 := Lib.hid (show blen M ≤ 32 * 256 by omega)
  have q1000 : q ≤ 1000 := by omega
  have de : decide (0 ≤ d.e) = true := decide_eq_true he
  have HR := Lib.hid (show scQ d q up = 2 ^ d.e.toNat * M ∧ scN d q up = d.neg by unfold scQ scN; rw [if_pos he, if_pos he, hM]; exact ⟨rfl, rfl⟩)
  have HV2 := Lib.hid (show blen (2 ^ d.e.toNat * val (limbs M)) ≤ 8192 by
    rw [val_limbs]
    have h1 := blen_mul_le (val (limbs M)) d.e.toNat
    rw [val_limbs] at h1
    have h2 := scM_bits d q
    rw [hM] at h2
    rcases Nat.eq_zero_or_pos d.k with h0 | h0
    · have : M = 0 := by rw [← hM]; unfold scM; rw [h0, Nat.zero_mul]
      rw [this, Nat.mul_zero, blen_zero]
      omega
    · omega)
  have e65 : d.e ≤ 65536 := by omega
  clear h hv hM
  go_enter Tryz.func67, Tryz.ntmps67
  go_wp2_with fail
  obtain ⟨w1, hw⟩ : ∃ z9 : World, z9 = ((w.alloc (.cells #[.bool d.neg, .slice A n c, .int .i64 d.e] 40)).alloc (.cells #[.bool false, .slice none 0 0] 108)) := ⟨_, rfl⟩
  have HB1 := Lib.hid (show Below w.heap.size w w1 by rw [hw]; exact below_a2 _ _ _)
  have F1a := Lib.hid (H.out.belowW HB1.out)
  have F1d := Lib.hid (show Blk w1 (w.heap.size) 40 #[.bool d.neg, .slice A n c, .int .i64 d.e] by rw [hw]; exact (Blk.new _ _ _).alloc _)
  have F1r := Lib.hid (show Blk w1 (w.heap.size + 1) 108 #[.bool false, .slice none 0 0] by rw [hw]; exact Blk.new1 _ _ _ _)
  rw [← hw]
  clear hw
  have HR2 := Lib.hid (below_dr w1)
  have R2a := Lib.hid (F1a.out.belowW HR2.out)
  have R2d := Lib.hid (F1d.out.belowW HR2.out)
  have R2r := Lib.hid (F1r.out.belowW HR2.out)
  have c2d1 : w1.drew.cell? ⟨w.heap.size, 1, none⟩ = some (.slice A n c) := R2d.out.cell 1
  go_region_held3 (fun w' => w'.cell? ⟨w.heap.size, 1, none⟩ = some (.slice A n c)) (with_reducible assumption) (first
    | (go_at_call 99
       (with_reducible refine (power_ten q _ q1000).mono ?_)
       rintro e w3 ⟨P, p, pc, rfl, HP, HC3⟩
       have R3a := Lib.hid (R2a.out.belowW HC3.out)
       have R3d := Lib.hid (R2d.out.belowW HC3.out)
       have R3r := Lib.hid (R2r.out.belowW HC3.out)
       have HR3 := Lib.hid (HR2.out.trans (HC3.out.mono HR2.out.size))
       have R3p := Lib.hid (HP.out)
       have c3d1 : w3.cell? ⟨w.heap.size, 1, none⟩ = some (.slice A n c) := R3d.out.cell 1
       have hp : p ≤ 256 := HP.out.lim HP9.out)
    | (go_at_call 98
       (with_reducible refine (nMul_sl A P n c p pc (limbs d.k) (limbs (10 ^ q)) _ R3a.out R3p.out hn hp HV.out).mono ?_)
       rw [HM.out]
       rintro e w4 ⟨B, m, rfl, HMS, HC4⟩
       have R4a := Lib.hid (R3a.out.belowW HC4.out)
       have R4d := Lib.hid (R3d.out.belowW HC4.out)
       have R4r := Lib.hid (R3r.out.belowW HC4.out)
       have R4p := Lib.hid (R3p.out.belowW HC4.out)
       have HR4 := Lib.hid (HR3.out.trans (HC4.out.mono HR3.out.size))
       have R4m := Lib.hid (HMS.out)
       have c4d1 : w4.cell? ⟨w.heap.size, 1, none⟩ = some (.slice A n c) := R4d.out.cell 1
       have hm : m ≤ 256 := HMS.out.lim HM9.out
       have hm9 : m ≤ 100000 := by omega))
  have HL4 := Lib.hid (HB1.out.trans (HR4.out.mono HB1.out.size))
  have pd0 : (w4).cell? ⟨w.heap.size, 0, none⟩ = some (.bool d.neg) := R4d.out.cell 0
  have fd0 : (w4).frozen? ⟨w.heap.size, 0, none⟩ = false := R4d.out.frozen 0
  have pd1 : (w4).cell? ⟨w.heap.size, 1, none⟩ = some (.slice A n c) := R4d.out.cell 1
  have fd1 : (w4).frozen? ⟨w.heap.size, 1, none⟩ = false := R4d.out.frozen 1
  have pd2 : (w4).cell? ⟨w.heap.size, 2, none⟩ = some (.int .i64 d.e) := R4d.out.cell 2
  have fd2 : (w4).frozen? ⟨w.heap.size, 2, none⟩ = false := R4d.out.frozen 2
  have pr0 : (w4).cell? ⟨w.heap.size + 1, 0, none⟩ = some (.bool false) := R4r.out.cell 0
  have fr0 : (w4).frozen? ⟨w.heap.size + 1, 0, none⟩ = false := R4r.out.frozen 0
  have pr1 : (w4).cell? ⟨w.heap.size + 1, 1, none⟩ = some (.slice none 0 0) := R4r.out.cell 1
  have fr1 : (w4).frozen? ⟨w.heap.size + 1, 1, none⟩ = false := R4r.out.frozen 1
  go_wp2_with fail
  refine (nShl_sl B m m (limbs M) w4 R4m.out hm d.e he e65 HV2.out).mono ?_
  rw [val_limbs]
  rintro e w5 ⟨C, k, rfl, HK, HB5⟩
  have F5a := Lib.hid (R4a.out.belowW HB5.out)
  have F5d := Lib.hid (R4d.out.belowW HB5.out)
  have F5r := Lib.hid (R4r.out.belowW HB5.out)
  have F5p := Lib.hid (R4p.out.belowW HB5.out)
  have F5m := Lib.hid (R4m.out.belowW HB5.out)
  have HL5 := Lib.hid (HL4.out.trans (HB5.out.mono HL4.out.size))
  have F5k := Lib.hid (HK.out)
  clear pd0 fd0 pd1 fd1 pd2 fd2 pr0 fr0 pr1 fr1
  have pd0 : (w5).cell? ⟨w.heap.size, 0, none⟩ = some (.bool d.neg) := F5d.out.cell 0
  have fd0 : (w5).frozen? ⟨w.heap.size, 0, none⟩ = false := F5d.out.frozen 0
  have pd1 : (w5).cell? ⟨w.heap.size, 1, none⟩ = some (.slice A n c) := F5d.out.cell 1
  have fd1 : (w5).frozen? ⟨w.heap.size, 1, none⟩ = false := F5d.out.frozen 1
  have pd2 : (w5).cell? ⟨w.heap.size, 2, none⟩ = some (.int .i64 d.e) := F5d.out.cell 2
  have fd2 : (w5).frozen? ⟨w.heap.size, 2, none⟩ = false := F5d.out.frozen 2
  have pr0 : (w5).cell? ⟨w.heap.size + 1, 0, none⟩ = some (.bool false) := F5r.out.cell 0
  have fr0 : (w5).frozen? ⟨w.heap.size + 1, 0, none⟩ = false := F5r.out.frozen 0
  have pr1 : (w5).cell? ⟨w.heap.size + 1, 1, none⟩ = some (.slice none 0 0) := F5r.out.cell 1
  have fr1 : (w5).frozen? ⟨w.heap.size + 1, 1, none⟩ = false := F5r.out.frozen 1
  go_wp2_with fail
  rw [store2_put F5r.out]
  have FR9 := Lib.hid (F5r.out.put #[.bool d.neg, .slice C k k])
  have HL9 := Lib.hid (HL5.out.trans (putB_below w5 _ 108 #[.bool d.neg, .slice C k k] (by omega : w.heap.size ≤ w.heap.size + 1)))
  have S9 := Lib.hid (F5k.out.far F5r.out noU2 (putB_grown w5 (w.heap.size + 1) 108 #[.bool d.neg, .slice C k k]))
  clear pd0 fd0 pd1 fd1 pd2 fd2 pr0 fr0 pr1 fr1
  obtain ⟨w9, hw⟩ : ∃ z9 : World, z9 = putB w5 (w.heap.size + 1) 108 #[.bool d.neg, .slice C k k] := ⟨_, rfl⟩
  rw [← hw] at FR9 HL9 S9 ⊢
  clear hw
  have pr0 : (w9).cell? ⟨w.heap.size + 1, 0, none⟩ = some (.bool d.neg) := FR9.out.cell 0
  have fr0 : (w9).frozen? ⟨w.heap.size + 1, 0, none⟩ = false := FR9.out.frozen 0
  have pr1 : (w9).cell? ⟨w.heap.size + 1, 1, none⟩ = some (.slice C k k) := FR9.out.cell 1
  have fr1 : (w9).frozen? ⟨w.heap.size + 1, 1, none⟩ = false := FR9.out.frozen 1
  refine bodyPost_ret (v := .agg #[.bool d.neg, .slice C k k]) (by simp [results, Tryz.results67, go_sem, pr0, pr1]) rfl ?_
  rw [HR.out.1, HR.out.2]
  exact ⟨C, k, k, rfl, S9, HL9⟩

set_option maxHeartbeats 8000000 in
theorem scaled_part (d : D) (A : Option Addr) (n c q : Nat) (up : Bool) (w : World) (h : Sl w A n c (limbs d.k)) (hv : vld d) (hq : q ≤ 51) (he : d.e < 0) :
    Calls Tryz.prog 67 #[.agg #[.bool d.neg, .slice A n c, .int .i64 d.e], .int .i64 q, .bool up] w (IntR (scN d q up) (scQ d q up) w) := by
  have H := Lib.hid h
  have hn : n ≤ 256 := by rw [← h.len]; exact vld_len hv
  have hb := vld_ebd hv
  have hbb := vld_bits hv
  obtain ⟨M, hM⟩ : ∃ M, scM d q = M := ⟨_, rfl⟩
  have HM := Lib.hid (show val (limbs d.k) * val (limbs (10 ^ q)) = M by rw [val_limbs, val_limbs]; exact hM)
  have bM : blen M ≤ 4301 := by rw [← hM]; have := scM_bits d q; omega
  have HV := Lib.hid (show blen (val (limbs d.k) * val (limbs (10 ^ q))) ≤ 8192 by rw [HM.out]; omega)
  have HP9 := Lib.hid (show blen (10 ^ q) ≤ 32 * 256 by have := blen_ten q; omega)
  have HM9 := Lib.hid (show blen M ≤ 32 * 256 by omega)
  have q1000 : q ≤ 1000 := by omega
  have de : decide (0 ≤ d.e) = false := decide_eq_false (by omega)
  obtain ⟨J, hJ⟩ : ∃ J : Nat, d.e = -(J : Int) := ⟨(-d.e).toNat, by omega⟩
  have hneg : -d.e = (J : Int) := by omega
  have hnegw : IntKind.i64.wrap (-d.e) = (J : Int) := by rw [hneg]; exact IntWalk.i64_in _ (by omega)
  have eJw : IntKind.i64.wrap (J : Int) = (J : Int) := IntWalk.i64_in _ (by omega)
  obtain ⟨K, hK⟩ : ∃ K, min J (blen M) = K := ⟨_, rfl⟩
  have mn1 : (if (J : Int) < (blen M : Int) then (J : Int) else (blen M : Int)) = (K : Int) := by split <;> omega
  have mn2 : (if (blen M : Int) < (J : Int) then (blen M : Int) else (J : Int)) = (K : Int) := by split <;> omega
  have mn3 : min (J : Int) (blen M : Int) = (K : Int) := by omega
  have mn4 : min (J : Int) (blen (val (limbs M)) : Int) = (K : Int) := by rw [val_limbs]; omega
  obtain ⟨Q, hQ⟩ : ∃ Q, M / 2 ^ K = Q := ⟨_, rfl⟩
  have hkd := scK_div (m := M) (j := J)
  rw [hK] at hkd
  obtain ⟨lost, hlost⟩ : ∃ l, decide (M % 2 ^ J ≠ 0) = l := ⟨_, rfl⟩
  have HR := Lib.hid (show scQ d q up = Q + (if lost && (up != d.neg) then 1 else 0) by unfold scQ; rw [if_neg (by omega), hM, hneg, Int.toNat_natCast, ← hkd.1, hQ, hlost])
  have HSGN := Lib.hid (show scN d q up = (d.neg && decide (0 < scQ d q up)) by unfold scN; rw [if_neg (by omega)])
  have HL := Lib.hid (show decide (2 ^ K * Q ≠ M) = lost by rw [← hQ, hkd.2, hlost])
  have HQ := Lib.hid (show val (limbs M) / 2 ^ (K : Int).toNat = Q by rw [val_limbs, Int.toNat_natCast]; exact hQ)
  have bQ : blen Q ≤ 4301 := by rw [← hQ]; exact Nat.le_trans (blen_mono (Nat.div_le_self _ _)) bM
  have HVQ := Lib.hid (show blen (val (limbs M) / 2 ^ (K : Int).toNat) ≤ 8192 by rw [HQ.out]; omega)
  have HLQ := Lib.hid (show 2 ^ (K : Int).toNat * val (limbs Q) = 2 ^ K * Q by rw [val_limbs, Int.toNat_natCast])
  have bB : blen (2 ^ K * Q) ≤ 4301 := by
    refine Nat.le_trans (blen_mono ?_) bM
    rw [← hQ, Nat.mul_comm]
    exact Nat.div_mul_le_self _ _
  have HVB := Lib.hid (show blen (2 ^ (K : Int).toNat * val (limbs Q)) ≤ 8192 by rw [HLQ.out]; omega)
  have K0 : (0 : Int) ≤ (K : Int) := by omega
  have K1 : (K : Int) ≤ 65536 := by omega
  have HQ9 := Lib.hid (show blen Q ≤ 32 * 256 by omega)
  have HB9 := Lib.hid (show blen (2 ^ K * Q) ≤ 32 * 256 by omega)
  have HCM := Lib.hid (show (cmpN (val (limbs (2 ^ K * Q))) (val (limbs M)) != 0) = lost by rw [val_limbs, val_limbs, cmp_ne]; exact HL.out)
  obtain ⟨cz, hcz⟩ : ∃ z, cmpN (val (limbs (2 ^ K * Q))) (val (limbs M)) = z := ⟨_, rfl⟩
  rw [hcz] at HCM
  have HCZ := Lib.hid hcz
  have dcz : (cz != 0) = lost := HCM.out
  clear h hv hM hK hQ hlost hkd hJ hcz HCM
  go_enter Tryz.func67, Tryz.ntmps67
  go_wp2_with fail
  obtain ⟨w1, hw⟩ : ∃ z9 : World, z9 = ((w.alloc (.cells #[.bool d.neg, .slice A n c, .int .i64 d.e] 40)).alloc (.cells #[.bool false, .slice none 0 0] 108)) := ⟨_, rfl⟩
  have HB1 := Lib.hid (show Below w.heap.size w w1 by rw [hw]; exact below_a2 _ _ _)
  have F1a := Lib.hid (H.out.belowW HB1.out)
  have F1d := Lib.hid (show Blk w1 (w.heap.size) 40 #[.bool d.neg, .slice A n c, .int .i64 d.e] by rw [hw]; exact (Blk.new _ _ _).alloc _)
  have F1r := Lib.hid (show Blk w1 (w.heap.size + 1) 108 #[.bool false, .slice none 0 0] by rw [hw]; exact Blk.new1 _ _ _ _)
  rw [← hw]
  clear hw
  have HR2 := Lib.hid (below_dr w1)
  have R2a := Lib.hid (F1a.out.belowW HR2.out)
  have R2d := Lib.hid (F1d.out.belowW HR2.out)
  have R2r := Lib.hid (F1r.out.belowW HR2.out)
  have c2d1 : w1.drew.cell? ⟨w.heap.size, 1, none⟩ = some (.slice A n c) := R2d.out.cell 1
  go_region_held3 (fun w' => w'.cell? ⟨w.heap.size, 1, none⟩ = some (.slice A n c)) (with_reducible assumption) (first
    | (go_at_call 99
       (with_reducible refine (power_ten q _ q1000).mono ?_)
       rintro e w3 ⟨P, p, pc, rfl, HP, HC3⟩
       have R3a := Lib.hid (R2a.out.belowW HC3.out)
       have R3d := Lib.hid (R2d.out.belowW HC3.out)
       have R3r := Lib.hid (R2r.out.belowW HC3.out)
       have HR3 := Lib.hid (HR2.out.trans (HC3.out.mono HR2.out.size))
       have R3p := Lib.hid (HP.out)
       have c3d1 : w3.cell? ⟨w.heap.size, 1, none⟩ = some (.slice A n c) := R3d.out.cell 1
       have hp : p ≤ 256 := HP.out.lim HP9.out)
    | (go_at_call 98
       (with_reducible refine (nMul_sl A P n c p pc (limbs d.k) (limbs (10 ^ q)) _ R3a.out R3p.out hn hp HV.out).mono ?_)
       rw [HM.out]
       rintro e w4 ⟨B, m, rfl, HMS, HC4⟩
       have R4a := Lib.hid (R3a.out.belowW HC4.out)
       have R4d := Lib.hid (R3d.out.belowW HC4.out)
       have R4r := Lib.hid (R3r.out.belowW HC4.out)
       have R4p := Lib.hid (R3p.out.belowW HC4.out)
       have HR4 := Lib.hid (HR3.out.trans (HC4.out.mono HR3.out.size))
       have R4m := Lib.hid (HMS.out)
       have c4d1 : w4.cell? ⟨w.heap.size, 1, none⟩ = some (.slice A n c) := R4d.out.cell 1
       have hm : m ≤ 256 := HMS.out.lim HM9.out
       have hm9 : m ≤ 100000 := by omega))
  have HL4 := Lib.hid (HB1.out.trans (HR4.out.mono HB1.out.size))
  have pd0 : (w4).cell? ⟨w.heap.size, 0, none⟩ = some (.bool d.neg) := R4d.out.cell 0
  have fd0 : (w4).frozen? ⟨w.heap.size, 0, none⟩ = false := R4d.out.frozen 0
  have pd1 : (w4).cell? ⟨w.heap.size, 1, none⟩ = some (.slice A n c) := R4d.out.cell 1
  have fd1 : (w4).frozen? ⟨w.heap.size, 1, none⟩ = false := R4d.out.frozen 1
  have pd2 : (w4).cell? ⟨w.heap.size, 2, none⟩ = some (.int .i64 d.e) := R4d.out.cell 2
  have fd2 : (w4).frozen? ⟨w.heap.size, 2, none⟩ = false := R4d.out.frozen 2
  have pr0 : (w4).cell? ⟨w.heap.size + 1, 0, none⟩ = some (.bool false) := R4r.out.cell 0
  have fr0 : (w4).frozen? ⟨w.heap.size + 1, 0, none⟩ = false := R4r.out.frozen 0
  have pr1 : (w4).cell? ⟨w.heap.size + 1, 1, none⟩ = some (.slice none 0 0) := R4r.out.cell 1
  have fr1 : (w4).frozen? ⟨w.heap.size + 1, 1, none⟩ = false := R4r.out.frozen 1
  go_wp2_with fail
  clear pd0 fd0 pd1 fd1 pd2 fd2 pr0 fr0 pr1 fr1
  have HR5 := Lib.hid (below_dr w4)
  have R5a := Lib.hid (R4a.out.belowW HR5.out)
  have R5d := Lib.hid (R4d.out.belowW HR5.out)
  have R5r := Lib.hid (R4r.out.belowW HR5.out)
  have R5p := Lib.hid (R4p.out.belowW HR5.out)
  have R5m := Lib.hid (R4m.out.belowW HR5.out)
  have c5d2 : w4.drew.cell? ⟨w.heap.size, 2, none⟩ = some (.int .i64 d.e) := R5d.out.cell 2
  go_region_held3 (fun w' => w'.cell? ⟨w.heap.size, 2, none⟩ = some (.int .i64 d.e)) (with_reducible assumption) (first
    | (go_at_call 101
       (with_reducible refine (bits_any B m m (limbs M) _ R5m.out hm9).mono ?_)
       rw [val_limbs]
       rintro e w6 ⟨rfl, hr⟩
       have HC6 := Lib.hid (show Below w4.drew.heap.size w4.drew w6 by rw [← hr]; exact Below.refl _ _)
       clear hr
       have R6a := Lib.hid (R5a.out.belowW HC6.out)
       have R6d := Lib.hid (R5d.out.belowW HC6.out)
       have R6r := Lib.hid (R5r.out.belowW HC6.out)
       have R6p := Lib.hid (R5p.out.belowW HC6.out)
       have R6m := Lib.hid (R5m.out.belowW HC6.out)
       have HR6 := Lib.hid (HR5.out.trans (HC6.out.mono HR5.out.size))
       have c6d2 : w6.cell? ⟨w.heap.size, 2, none⟩ = some (.int .i64 d.e) := R6d.out.cell 2))
  have HL6 := Lib.hid (HL4.out.trans (HR6.out.mono HL4.out.size))
  have pd0 : (w6).cell? ⟨w.heap.size, 0, none⟩ = some (.bool d.neg) := R6d.out.cell 0
  have fd0 : (w6).frozen? ⟨w.heap.size, 0, none⟩ = false := R6d.out.frozen 0
  have pd1 : (w6).cell? ⟨w.heap.size, 1, none⟩ = some (.slice A n c) := R6d.out.cell 1
  have fd1 : (w6).frozen? ⟨w.heap.size, 1, none⟩ = false := R6d.out.frozen 1
  have pd2 : (w6).cell? ⟨w.heap.size, 2, none⟩ = some (.int .i64 d.e) := R6d.out.cell 2
  have fd2 : (w6).frozen? ⟨w.heap.size, 2, none⟩ = false := R6d.out.frozen 2
  have pr0 : (w6).cell? ⟨w.heap.size + 1, 0, none⟩ = some (.bool false) := R6r.out.cell 0
  have fr0 : (w6).frozen? ⟨w.heap.size + 1, 0, none⟩ = false := R6r.out.frozen 0
  have pr1 : (w6).cell? ⟨w.heap.size + 1, 1, none⟩ = some (.slice none 0 0) := R6r.out.cell 1
  have fr1 : (w6).frozen? ⟨w.heap.size + 1, 1, none⟩ = false := R6r.out.frozen 1
  go_wp2_with fail
  refine (nShr_sl B m m (limbs M) w6 R6m.out hm K K0 K1 HVQ.out).mono ?_
  rw [HQ.out]
  rintro e w7 ⟨C, k, rfl, HK, HB7⟩
  have F7a := Lib.hid (R6a.out.belowW HB7.out)
  have F7d := Lib.hid (R6d.out.belowW HB7.out)
  have F7r := Lib.hid (R6r.out.belowW HB7.out)
  have F7p := Lib.hid (R6p.out.belowW HB7.out)
  have F7m := Lib.hid (R6m.out.belowW HB7.out)
  have HL7 := Lib.hid (HL6.out.trans (HB7.out.mono HL6.out.size))
  have F7k := Lib.hid (HK.out)
  have hk : k ≤ 256 := HK.out.lim HQ9.out
  clear pd0 fd0 pd1 fd1 pd2 fd2 pr0 fr0 pr1 fr1
  have pd0 : (w7).cell? ⟨w.heap.size, 0, none⟩ = some (.bool d.neg) := F7d.out.cell 0
  have fd0 : (w7).frozen? ⟨w.heap.size, 0, none⟩ = false := F7d.out.frozen 0
  have pd1 : (w7).cell? ⟨w.heap.size, 1, none⟩ = some (.slice A n c) := F7d.out.cell 1
  have fd1 : (w7).frozen? ⟨w.heap.size, 1, none⟩ = false := F7d.out.frozen 1
  have pd2 : (w7).cell? ⟨w.heap.size, 2, none⟩ = some (.int .i64 d.e) := F7d.out.cell 2
  have fd2 : (w7).frozen? ⟨w.heap.size, 2, none⟩ = false := F7d.out.frozen 2
  have pr0 : (w7).cell? ⟨w.heap.size + 1, 0, none⟩ = some (.bool false) := F7r.out.cell 0
  have fr0 : (w7).frozen? ⟨w.heap.size + 1, 0, none⟩ = false := F7r.out.frozen 0
  have pr1 : (w7).cell? ⟨w.heap.size + 1, 1, none⟩ = some (.slice none 0 0) := F7r.out.cell 1
  have fr1 : (w7).frozen? ⟨w.heap.size + 1, 1, none⟩ = false := F7r.out.frozen 1
  go_wp2_with fail
  refine (nShl_sl C k k (limbs Q) w7 F7k.out hk K K0 K1 HVB.out).mono ?_
  rw [HLQ.out]
  rintro e w8 ⟨E1, e1, rfl, HE, HB8⟩
  have F8a := Lib.hid (F7a.out.belowW HB8.out)
  have F8d := Lib.hid (F7d.out.belowW HB8.out)
  have F8r := Lib.hid (F7r.out.belowW HB8.out)
  have F8p := Lib.hid (F7p.out.belowW HB8.out)
  have F8m := Lib.hid (F7m.out.belowW HB8.out)
  have F8k := Lib.hid (F7k.out.belowW HB8.out)
  have HL8 := Lib.hid (HL7.out.trans (HB8.out.mono HL7.out.size))
  have F8e := Lib.hid (HE.out)
  clear pd0 fd0 pd1 fd1 pd2 fd2 pr0 fr0 pr1 fr1
  have pd0 : (w8).cell? ⟨w.heap.size, 0, none⟩ = some (.bool d.neg) := F8d.out.cell 0
  have fd0 : (w8).frozen? ⟨w.heap.size, 0, none⟩ = false := F8d.out.frozen 0
  have pd1 : (w8).cell? ⟨w.heap.size, 1, none⟩ = some (.slice A n c) := F8d.out.cell 1
  have fd1 : (w8).frozen? ⟨w.heap.size, 1, none⟩ = false := F8d.out.frozen 1
  have pd2 : (w8).cell? ⟨w.heap.size, 2, none⟩ = some (.int .i64 d.e) := F8d.out.cell 2
  have fd2 : (w8).frozen? ⟨w.heap.size, 2, none⟩ = false := F8d.out.frozen 2
  have pr0 : (w8).cell? ⟨w.heap.size + 1, 0, none⟩ = some (.bool false) := F8r.out.cell 0
  have fr0 : (w8).frozen? ⟨w.heap.size + 1, 0, none⟩ = false := F8r.out.frozen 0
  have pr1 : (w8).cell? ⟨w.heap.size + 1, 1, none⟩ = some (.slice none 0 0) := F8r.out.cell 1
  have fr1 : (w8).frozen? ⟨w.heap.size + 1, 1, none⟩ = false := F8r.out.frozen 1
  go_wp2_with fail
  refine (cmp_any E1 B e1 e1 m m (limbs (2 ^ K * Q)) (limbs M) w8 F8e.out F8m.out).mono ?_
  rw [HCZ.out]
  rintro e w9 ⟨rfl, qd, hqd⟩
  have HB9 := Lib.hid (show Below w8.heap.size w8 w9 by rw [hqd]; exact below_drewN (Below.refl _ _) _)
  clear hqd
  have F9a := Lib.hid (F8a.out.belowW HB9.out)
  have F9d := Lib.hid (F8d.out.belowW HB9.out)
  have F9r := Lib.hid (F8r.out.belowW HB9.out)
  have F9p := Lib.hid (F8p.out.belowW HB9.out)
  have F9m := Lib.hid (F8m.out.belowW HB9.out)
  have F9k := Lib.hid (F8k.out.belowW HB9.out)
  have F9e := Lib.hid (F8e.out.belowW HB9.out)
  have HL9 := Lib.hid (HL8.out.trans (HB9.out.mono HL8.out.size))
  clear pd0 fd0 pd1 fd1 pd2 fd2 pr0 fr0 pr1 fr1
  have pd0 : (w9).cell? ⟨w.heap.size, 0, none⟩ = some (.bool d.neg) := F9d.out.cell 0
  have fd0 : (w9).frozen? ⟨w.heap.size, 0, none⟩ = false := F9d.out.frozen 0
  have pd1 : (w9).cell? ⟨w.heap.size, 1, none⟩ = some (.slice A n c) := F9d.out.cell 1
  have fd1 : (w9).frozen? ⟨w.heap.size, 1, none⟩ = false := F9d.out.frozen 1
  have pd2 : (w9).cell? ⟨w.heap.size, 2, none⟩ = some (.int .i64 d.e) := F9d.out.cell 2
  have fd2 : (w9).frozen? ⟨w.heap.size, 2, none⟩ = false := F9d.out.frozen 2
  have pr0 : (w9).cell? ⟨w.heap.size + 1, 0, none⟩ = some (.bool false) := F9r.out.cell 0
  have fr0 : (w9).frozen? ⟨w.heap.size + 1, 0, none⟩ = false := F9r.out.frozen 0
  have pr1 : (w9).cell? ⟨w.heap.size + 1, 1, none⟩ = some (.slice none 0 0) := F9r.out.cell 1
  have fr1 : (w9).frozen? ⟨w.heap.size + 1, 1, none⟩ = false := F9r.out.frozen 1
  cases lost with
  | false =>
    have hup : True := trivial
    obtain ⟨R, hRe⟩ : ∃ R, R = Q := ⟨_, rfl⟩
    have HRR := Lib.hid (show scQ d q up = R by rw [HR.out, hRe]; simp)
    rw [← hRe] at F9k
    have hR9 : k ≤ 100000 := by omega
    clear hRe
    cases hng : d.neg with
    | false =>
      try (rw [hng] at hup; simp at hup)
      go_wp2_with fail
      rw [store2_put F9r.out]
      have FR9 := Lib.hid (F9r.out.put #[.bool false, .slice C k k])
      have HL9 := Lib.hid (HL9.out.trans (putB_below w9 _ 108 #[.bool false, .slice C k k] (by omega : w.heap.size ≤ w.heap.size + 1)))
      have S9 := Lib.hid (F9k.out.far F9r.out noU2 (putB_grown w9 (w.heap.size + 1) 108 #[.bool false, .slice C k k]))
      clear pd0 fd0 pd1 fd1 pd2 fd2 pr0 fr0 pr1 fr1
      obtain ⟨w9, hw⟩ : ∃ z9 : World, z9 = putB w9 (w.heap.size + 1) 108 #[.bool false, .slice C k k] := ⟨_, rfl⟩
      rw [← hw] at FR9 HL9 S9 ⊢
      clear hw
      have pr0 : (w9).cell? ⟨w.heap.size + 1, 0, none⟩ = some (.bool false) := FR9.out.cell 0
      have fr0 : (w9).frozen? ⟨w.heap.size + 1, 0, none⟩ = false := FR9.out.frozen 0
      have pr1 : (w9).cell? ⟨w.heap.size + 1, 1, none⟩ = some (.slice C k k) := FR9.out.cell 1
      have fr1 : (w9).frozen? ⟨w.heap.size + 1, 1, none⟩ = false := FR9.out.frozen 1
      refine bodyPost_ret (v := .agg #[.bool false, .slice C k k]) (by simp [results, Tryz.results67, go_sem, pr0, pr1]) rfl ?_
      rw [HSGN.out, HRR.out, hng, Bool.false_and]
      exact ⟨C, k, k, rfl, S9, HL9⟩
    | true =>
      try (rw [hng] at hup; simp at hup)
      go_wp2_with fail
      refine (bits_any C k k (limbs R) w9 F9k.out hR9).mono ?_
      rw [val_limbs]
      rintro e w' ⟨rfl, rfl⟩
      obtain ⟨gz, hgz⟩ : ∃ g, decide ((0 : Int) < (blen R : Int)) = g := ⟨_, rfl⟩
      have HGZ := Lib.hid (show decide (0 < R) = gz by rw [← hgz, decide_eq_decide]; have := blen_zero_iff (n := R); omega)
      have hgz2 : decide (0 < blen R) = gz := by rw [← hgz, decide_eq_decide]; omega
      go_wp2_with fail
      rw [store2_put F9r.out]
      have FR9 := Lib.hid (F9r.out.put #[.bool gz, .slice C k k])
      have HL9 := Lib.hid (HL9.out.trans (putB_below w9 _ 108 #[.bool gz, .slice C k k] (by omega : w.heap.size ≤ w.heap.size + 1)))
      have S9 := Lib.hid (F9k.out.far F9r.out noU2 (putB_grown w9 (w.heap.size + 1) 108 #[.bool gz, .slice C k k]))
      clear pd0 fd0 pd1 fd1 pd2 fd2 pr0 fr0 pr1 fr1
      obtain ⟨w9, hw⟩ : ∃ z9 : World, z9 = putB w9 (w.heap.size + 1) 108 #[.bool gz, .slice C k k] := ⟨_, rfl⟩
      rw [← hw] at FR9 HL9 S9 ⊢
      clear hw
      have pr0 : (w9).cell? ⟨w.heap.size + 1, 0, none⟩ = some (.bool gz) := FR9.out.cell 0
      have fr0 : (w9).frozen? ⟨w.heap.size + 1, 0, none⟩ = false := FR9.out.frozen 0
      have pr1 : (w9).cell? ⟨w.heap.size + 1, 1, none⟩ = some (.slice C k k) := FR9.out.cell 1
      have fr1 : (w9).frozen? ⟨w.heap.size + 1, 1, none⟩ = false := FR9.out.frozen 1
      refine bodyPost_ret (v := .agg #[.bool gz, .slice C k k]) (by simp [results, Tryz.results67, go_sem, pr0, pr1]) rfl ?_
      rw [HSGN.out, HRR.out, hng, Bool.true_and, HGZ.out]
      exact ⟨C, k, k, rfl, S9, HL9⟩
  | true =>
    cases hup : (up != d.neg) with
    | false =>
      obtain ⟨R, hRe⟩ : ∃ R, R = Q := ⟨_, rfl⟩
      have HRR := Lib.hid (show scQ d q up = R by rw [HR.out, hRe]; simp [hup])
      rw [← hRe] at F9k
      have hR9 : k ≤ 100000 := by omega
      clear hRe
      cases hng : d.neg with
      | false =>
        try (rw [hng] at hup; simp at hup)
        go_wp2_with fail
        rw [store2_put F9r.out]
        have FR9 := Lib.hid (F9r.out.put #[.bool false, .slice C k k])
        have HL9 := Lib.hid (HL9.out.trans (putB_below w9 _ 108 #[.bool false, .slice C k k] (by omega : w.heap.size ≤ w.heap.size + 1)))
        have S9 := Lib.hid (F9k.out.far F9r.out noU2 (putB_grown w9 (w.heap.size + 1) 108 #[.bool false, .slice C k k]))
        clear pd0 fd0 pd1 fd1 pd2 fd2 pr0 fr0 pr1 fr1
        obtain ⟨w9, hw⟩ : ∃ z9 : World, z9 = putB w9 (w.heap.size + 1) 108 #[.bool false, .slice C k k] := ⟨_, rfl⟩
        rw [← hw] at FR9 HL9 S9 ⊢
        clear hw
        have pr0 : (w9).cell? ⟨w.heap.size + 1, 0, none⟩ = some (.bool false) := FR9.out.cell 0
        have fr0 : (w9).frozen? ⟨w.heap.size + 1, 0, none⟩ = false := FR9.out.frozen 0
        have pr1 : (w9).cell? ⟨w.heap.size + 1, 1, none⟩ = some (.slice C k k) := FR9.out.cell 1
        have fr1 : (w9).frozen? ⟨w.heap.size + 1, 1, none⟩ = false := FR9.out.frozen 1
        refine bodyPost_ret (v := .agg #[.bool false, .slice C k k]) (by simp [results, Tryz.results67, go_sem, pr0, pr1]) rfl ?_
        rw [HSGN.out, HRR.out, hng, Bool.false_and]
        exact ⟨C, k, k, rfl, S9, HL9⟩
      | true =>
        try (rw [hng] at hup; simp at hup)
        go_wp2_with fail
        refine (bits_any C k k (limbs R) w9 F9k.out hR9).mono ?_
        rw [val_limbs]
        rintro e w' ⟨rfl, rfl⟩
        obtain ⟨gz, hgz⟩ : ∃ g, decide ((0 : Int) < (blen R : Int)) = g := ⟨_, rfl⟩
        have HGZ := Lib.hid (show decide (0 < R) = gz by rw [← hgz, decide_eq_decide]; have := blen_zero_iff (n := R); omega)
        have hgz2 : decide (0 < blen R) = gz := by rw [← hgz, decide_eq_decide]; omega
        go_wp2_with fail
        rw [store2_put F9r.out]
        have FR9 := Lib.hid (F9r.out.put #[.bool gz, .slice C k k])
        have HL9 := Lib.hid (HL9.out.trans (putB_below w9 _ 108 #[.bool gz, .slice C k k] (by omega : w.heap.size ≤ w.heap.size + 1)))
        have S9 := Lib.hid (F9k.out.far F9r.out noU2 (putB_grown w9 (w.heap.size + 1) 108 #[.bool gz, .slice C k k]))
        clear pd0 fd0 pd1 fd1 pd2 fd2 pr0 fr0 pr1 fr1
        obtain ⟨w9, hw⟩ : ∃ z9 : World, z9 = putB w9 (w.heap.size + 1) 108 #[.bool gz, .slice C k k] := ⟨_, rfl⟩
        rw [← hw] at FR9 HL9 S9 ⊢
        clear hw
        have pr0 : (w9).cell? ⟨w.heap.size + 1, 0, none⟩ = some (.bool gz) := FR9.out.cell 0
        have fr0 : (w9).frozen? ⟨w.heap.size + 1, 0, none⟩ = false := FR9.out.frozen 0
        have pr1 : (w9).cell? ⟨w.heap.size + 1, 1, none⟩ = some (.slice C k k) := FR9.out.cell 1
        have fr1 : (w9).frozen? ⟨w.heap.size + 1, 1, none⟩ = false := FR9.out.frozen 1
        refine bodyPost_ret (v := .agg #[.bool gz, .slice C k k]) (by simp [results, Tryz.results67, go_sem, pr0, pr1]) rfl ?_
        rw [HSGN.out, HRR.out, hng, Bool.true_and, HGZ.out]
        exact ⟨C, k, k, rfl, S9, HL9⟩
    | true =>
      have HUP := Lib.hid hup
      cases hng : d.neg with
      | false =>
        rw [hng] at hup
        simp at hup
        go_wp2_with fail
        obtain ⟨w7, hw⟩ : ∃ z9 : World, z9 = w9.alloc (.cells #[.int .u32 1] 125) := ⟨_, rfl⟩
        have HB70 := Lib.hid (show Below w9.heap.size w9 w7 by rw [hw]; exact below_a1 _ _)
        have T70 := Lib.hid (show Sl w7 (some ⟨w9.heap.size, 0, none⟩) 1 1 [1] by rw [hw]; exact Sl.one (x := 1) (Blk.new _ _ _) (by unfold BB; omega))
        rw [← hw]
        clear hw
        have F70a := Lib.hid (F9a.out.belowW HB70.out)
        have F70d := Lib.hid (F9d.out.belowW HB70.out)
        have F70r := Lib.hid (F9r.out.belowW HB70.out)
        have F70p := Lib.hid (F9p.out.belowW HB70.out)
        have F70m := Lib.hid (F9m.out.belowW HB70.out)
        have F70k := Lib.hid (F9k.out.belowW HB70.out)
        have F70e := Lib.hid (F9e.out.belowW HB70.out)
        have HL70 := Lib.hid (HL9.out.trans (HB70.out.mono HL9.out.size))
        have HA1 := Lib.hid (show val (limbs Q) + val [1] = Q + 1 by rw [val_limbs, val_cons, val_nil, Nat.mul_zero])
        have HA2 := Lib.hid (show blen (val (limbs Q) + val [1]) ≤ 8192 by rw [HA1.out]; have := blen_succ Q; omega)
        have HA3 := Lib.hid (show blen (Q + 1) ≤ 32 * 256 by have := blen_succ Q; omega)
        have l1 : (1 : Nat) ≤ 256 := by omega
        refine (nAdd_sl C (some ⟨w9.heap.size, 0, none⟩) k k 1 1 (limbs Q) [1] w7 F70k.out T70.out hk l1 HA2.out).mono ?_
        rw [HA1.out]
        rintro e w71 ⟨G, g, rfl, HG, HB71⟩
        have F71a := Lib.hid (F70a.out.belowW HB71.out)
        have F71d := Lib.hid (F70d.out.belowW HB71.out)
        have F71r := Lib.hid (F70r.out.belowW HB71.out)
        have F71p := Lib.hid (F70p.out.belowW HB71.out)
        have F71m := Lib.hid (F70m.out.belowW HB71.out)
        have F71k := Lib.hid (F70k.out.belowW HB71.out)
        have F71e := Lib.hid (F70e.out.belowW HB71.out)
        have F71one := Lib.hid (T70.out.belowW HB71.out)
        have HL71 := Lib.hid (HL70.out.trans (HB71.out.mono HL70.out.size))
        have F71g := Lib.hid (HG.out)
        have hg : g ≤ 256 := HG.out.lim HA3.out
        clear pd0 fd0 pd1 fd1 pd2 fd2 pr0 fr0 pr1 fr1
        have pd0 : (w71).cell? ⟨w.heap.size, 0, none⟩ = some (.bool d.neg) := F71d.out.cell 0
        have fd0 : (w71).frozen? ⟨w.heap.size, 0, none⟩ = false := F71d.out.frozen 0
        have pd1 : (w71).cell? ⟨w.heap.size, 1, none⟩ = some (.slice A n c) := F71d.out.cell 1
        have fd1 : (w71).frozen? ⟨w.heap.size, 1, none⟩ = false := F71d.out.frozen 1
        have pd2 : (w71).cell? ⟨w.heap.size, 2, none⟩ = some (.int .i64 d.e) := F71d.out.cell 2
        have fd2 : (w71).frozen? ⟨w.heap.size, 2, none⟩ = false := F71d.out.frozen 2
        have pr0 : (w71).cell? ⟨w.heap.size + 1, 0, none⟩ = some (.bool false) := F71r.out.cell 0
        have fr0 : (w71).frozen? ⟨w.heap.size + 1, 0, none⟩ = false := F71r.out.frozen 0
        have pr1 : (w71).cell? ⟨w.heap.size + 1, 1, none⟩ = some (.slice none 0 0) := F71r.out.cell 1
        have fr1 : (w71).frozen? ⟨w.heap.size + 1, 1, none⟩ = false := F71r.out.frozen 1
        obtain ⟨R, hRe⟩ : ∃ R, R = Q + 1 := ⟨_, rfl⟩
        have HRR := Lib.hid (show scQ d q up = R by rw [HR.out, hRe, HUP.out]; rfl)
        rw [← hRe] at F71g
        have hR9 : g ≤ 100000 := by omega
        clear hRe
        go_wp2_with fail
        rw [store2_put F71r.out]
        have FR9 := Lib.hid (F71r.out.put #[.bool false, .slice G g g])
        have HL9 := Lib.hid (HL71.out.trans (putB_below w71 _ 108 #[.bool false, .slice G g g] (by omega : w.heap.size ≤ w.heap.size + 1)))
        have S9 := Lib.hid (F71g.out.far F71r.out noU2 (putB_grown w71 (w.heap.size + 1) 108 #[.bool false, .slice G g g]))
        clear pd0 fd0 pd1 fd1 pd2 fd2 pr0 fr0 pr1 fr1
        obtain ⟨w9, hw⟩ : ∃ z9 : World, z9 = putB w71 (w.heap.size + 1) 108 #[.bool false, .slice G g g] := ⟨_, rfl⟩
        rw [← hw] at FR9 HL9 S9 ⊢
        clear hw
        have pr0 : (w9).cell? ⟨w.heap.size + 1, 0, none⟩ = some (.bool false) := FR9.out.cell 0
        have fr0 : (w9).frozen? ⟨w.heap.size + 1, 0, none⟩ = false := FR9.out.frozen 0
        have pr1 : (w9).cell? ⟨w.heap.size + 1, 1, none⟩ = some (.slice G g g) := FR9.out.cell 1
        have fr1 : (w9).frozen? ⟨w.heap.size + 1, 1, none⟩ = false := FR9.out.frozen 1
        refine bodyPost_ret (v := .agg #[.bool false, .slice G g g]) (by simp [results, Tryz.results67, go_sem, pr0, pr1]) rfl ?_
        rw [HSGN.out, HRR.out, hng, Bool.false_and]
        exact ⟨G, g, g, rfl, S9, HL9⟩
      | true =>
        rw [hng] at hup
        simp at hup
        go_wp2_with fail
        obtain ⟨w7, hw⟩ : ∃ z9 : World, z9 = w9.alloc (.cells #[.int .u32 1] 125) := ⟨_, rfl⟩
        have HB70 := Lib.hid (show Below w9.heap.size w9 w7 by rw [hw]; exact below_a1 _ _)
        have T70 := Lib.hid (show Sl w7 (some ⟨w9.heap.size, 0, none⟩) 1 1 [1] by rw [hw]; exact Sl.one (x := 1) (Blk.new _ _ _) (by unfold BB; omega))
        rw [← hw]
        clear hw
        have F70a := Lib.hid (F9a.out.belowW HB70.out)
        have F70d := Lib.hid (F9d.out.belowW HB70.out)
        have F70r := Lib.hid (F9r.out.belowW HB70.out)
        have F70p := Lib.hid (F9p.out.belowW HB70.out)
        have F70m := Lib.hid (F9m.out.belowW HB70.out)
        have F70k := Lib.hid (F9k.out.belowW HB70.out)
        have F70e := Lib.hid (F9e.out.belowW HB70.out)
        have HL70 := Lib.hid (HL9.out.trans (HB70.out.mono HL9.out.size))
        have HA1 := Lib.hid (show val (limbs Q) + val [1] = Q + 1 by rw [val_limbs, val_cons, val_nil, Nat.mul_zero])
        have HA2 := Lib.hid (show blen (val (limbs Q) + val [1]) ≤ 8192 by rw [HA1.out]; have := blen_succ Q; omega)
        have HA3 := Lib.hid (show blen (Q + 1) ≤ 32 * 256 by have := blen_succ Q; omega)
        have l1 : (1 : Nat) ≤ 256 := by omega
        refine (nAdd_sl C (some ⟨w9.heap.size, 0, none⟩) k k 1 1 (limbs Q) [1] w7 F70k.out T70.out hk l1 HA2.out).mono ?_
        rw [HA1.out]
        rintro e w71 ⟨G, g, rfl, HG, HB71⟩
        have F71a := Lib.hid (F70a.out.belowW HB71.out)
        have F71d := Lib.hid (F70d.out.belowW HB71.out)
        have F71r := Lib.hid (F70r.out.belowW HB71.out)
        have F71p := Lib.hid (F70p.out.belowW HB71.out)
        have F71m := Lib.hid (F70m.out.belowW HB71.out)
        have F71k := Lib.hid (F70k.out.belowW HB71.out)
        have F71e := Lib.hid (F70e.out.belowW HB71.out)
        have F71one := Lib.hid (T70.out.belowW HB71.out)
        have HL71 := Lib.hid (HL70.out.trans (HB71.out.mono HL70.out.size))
        have F71g := Lib.hid (HG.out)
        have hg : g ≤ 256 := HG.out.lim HA3.out
        clear pd0 fd0 pd1 fd1 pd2 fd2 pr0 fr0 pr1 fr1
        have pd0 : (w71).cell? ⟨w.heap.size, 0, none⟩ = some (.bool d.neg) := F71d.out.cell 0
        have fd0 : (w71).frozen? ⟨w.heap.size, 0, none⟩ = false := F71d.out.frozen 0
        have pd1 : (w71).cell? ⟨w.heap.size, 1, none⟩ = some (.slice A n c) := F71d.out.cell 1
        have fd1 : (w71).frozen? ⟨w.heap.size, 1, none⟩ = false := F71d.out.frozen 1
        have pd2 : (w71).cell? ⟨w.heap.size, 2, none⟩ = some (.int .i64 d.e) := F71d.out.cell 2
        have fd2 : (w71).frozen? ⟨w.heap.size, 2, none⟩ = false := F71d.out.frozen 2
        have pr0 : (w71).cell? ⟨w.heap.size + 1, 0, none⟩ = some (.bool false) := F71r.out.cell 0
        have fr0 : (w71).frozen? ⟨w.heap.size + 1, 0, none⟩ = false := F71r.out.frozen 0
        have pr1 : (w71).cell? ⟨w.heap.size + 1, 1, none⟩ = some (.slice none 0 0) := F71r.out.cell 1
        have fr1 : (w71).frozen? ⟨w.heap.size + 1, 1, none⟩ = false := F71r.out.frozen 1
        obtain ⟨R, hRe⟩ : ∃ R, R = Q + 1 := ⟨_, rfl⟩
        have HRR := Lib.hid (show scQ d q up = R by rw [HR.out, hRe, HUP.out]; rfl)
        rw [← hRe] at F71g
        have hR9 : g ≤ 100000 := by omega
        clear hRe
        go_wp2_with fail
        refine (bits_any G g g (limbs R) w71 F71g.out hR9).mono ?_
        rw [val_limbs]
        rintro e w' ⟨rfl, rfl⟩
        obtain ⟨gz, hgz⟩ : ∃ g, decide ((0 : Int) < (blen R : Int)) = g := ⟨_, rfl⟩
        have HGZ := Lib.hid (show decide (0 < R) = gz by rw [← hgz, decide_eq_decide]; have := blen_zero_iff (n := R); omega)
        have hgz2 : decide (0 < blen R) = gz := by rw [← hgz, decide_eq_decide]; omega
        go_wp2_with fail
        rw [store2_put F71r.out]
        have FR9 := Lib.hid (F71r.out.put #[.bool gz, .slice G g g])
        have HL9 := Lib.hid (HL71.out.trans (putB_below w71 _ 108 #[.bool gz, .slice G g g] (by omega : w.heap.size ≤ w.heap.size + 1)))
        have S9 := Lib.hid (F71g.out.far F71r.out noU2 (putB_grown w71 (w.heap.size + 1) 108 #[.bool gz, .slice G g g]))
        clear pd0 fd0 pd1 fd1 pd2 fd2 pr0 fr0 pr1 fr1
        obtain ⟨w9, hw⟩ : ∃ z9 : World, z9 = putB w71 (w.heap.size + 1) 108 #[.bool gz, .slice G g g] := ⟨_, rfl⟩
        rw [← hw] at FR9 HL9 S9 ⊢
        clear hw
        have pr0 : (w9).cell? ⟨w.heap.size + 1, 0, none⟩ = some (.bool gz) := FR9.out.cell 0
        have fr0 : (w9).frozen? ⟨w.heap.size + 1, 0, none⟩ = false := FR9.out.frozen 0
        have pr1 : (w9).cell? ⟨w.heap.size + 1, 1, none⟩ = some (.slice G g g) := FR9.out.cell 1
        have fr1 : (w9).frozen? ⟨w.heap.size + 1, 1, none⟩ = false := FR9.out.frozen 1
        refine bodyPost_ret (v := .agg #[.bool gz, .slice G g g]) (by simp [results, Tryz.results67, go_sem, pr0, pr1]) rfl ?_
        rw [HSGN.out, HRR.out, hng, Bool.true_and, HGZ.out]
        exact ⟨G, g, g, rfl, S9, HL9⟩
theorem scaled_any (d : D) (A : Option Addr) (n c q : Nat) (up : Bool) (w : World) (h : Sl w A n c (limbs d.k)) (hv : vld d) (hq : q ≤ 51) (ht : 0 ≤ d.e → (blen d.k : Int) + d.e ≤ 1200) :
    Calls Tryz.prog 67 #[.agg #[.bool d.neg, .slice A n c, .int .i64 d.e], .int .i64 q, .bool up] w (IntR (scN d q up) (scQ d q up) w) := by
  rcases Int.lt_or_le d.e 0 with he | he
  · exact scaled_part d A n c q up w h hv hq he
  · exact scaled_whole d A n c q up w h hv hq he (ht he)
end Go.Proofs.YtoogeihbhhcpaaaGreatDoor
