/-
  The walks of round.shl, precise, shr, fault.
-/
import Derived.Test.YtffdkakogeofmaaGreatDoorDyD
set_option linter.unusedVariables false
namespace Go.Fl.Dy
open Go.Fl.Nm
theorem blen_div_le (m k : Nat) : blen (m / 2 ^ k) ≤ blen m - k := by
  by_cases h : m = 0
  · subst h; simp [blen_zero]
  · have h1 := (blen_spec h).2
    refine blen_le ?_
    rcases Nat.lt_or_ge (blen m) k with hk | hk
    · rw [Nat.div_eq_of_lt (Nat.lt_of_lt_of_le h1 (Nat.pow_le_pow_right (by omega) (by omega)))]
      exact Nat.two_pow_pos _
    · rw [Nat.div_lt_iff_lt_mul (Nat.two_pow_pos _), ← Nat.pow_add, show blen m - k + k = blen m by omega]
      exact h1
theorem blen_mul_le (m k : Nat) : blen (2 ^ k * m) ≤ k + blen m := by
  by_cases h : m = 0
  · subst h; simp [blen_zero]
  · exact Nat.le_of_eq (blen_shl k h)
def precB (p : Int) : Bool := decide (8 ≤ p ∧ p ≤ 512)
end Go.Fl.Dy
namespace Go.Proofs.YtffdkakogeofmaaGreatDoor
open Go.RowKit Go.Fl Go.Fl.Nm Go.Fl.Dy
set_option maxHeartbeats 400000 in
theorem rshl_any (A : Option Addr) (n c : Nat) (l : List Nat) (k : Int) (w : World) (h : Sl w A n c l) (hn : n ≤ 256) (hk : 0 ≤ k) (hk1 : k ≤ 65536) (hv : blen (2 ^ k.toNat * val l) ≤ 8192) :
    Calls Tryz.prog 143 #[.slice A n c, .int .i64 k] w (SlP (2 ^ k.toNat * val l) w) := by
  go_enter Tryz.func143, Tryz.ntmps143
  go_wp2_with fail
  refine (nShl_sl A n c l w h hn k hk hk1 hv).mono ?_
  rintro e w1 ⟨X, x, rfl, HX, HB⟩
  go_wp2_with fail
  go_ret
  exact ⟨X, x, rfl, HX, HB⟩
set_option maxHeartbeats 400000 in
theorem precise_any (p : Int) (w : World) :
    Calls Tryz.prog 167 #[.int .i64 p] w fun e w' => e = .returned (.bool (precB p)) ∧ w = w' := by
  by_cases h1 : 8 ≤ p
  · have d1 : decide (8 ≤ p) = true := decide_eq_true h1
    by_cases h2 : p ≤ 512
    · have d2 : decide (p ≤ 512) = true := decide_eq_true h2
      have HR := Lib.hid (show precB p = true by simp [precB, h1, h2])
      go_enter Tryz.func167, Tryz.ntmps167
      go_wp2
      go_ret
      exact ⟨ret_bool HR.out.symm, rfl⟩
    · have d2 : decide (p ≤ 512) = false := decide_eq_false h2
      have HR := Lib.hid (show precB p = false by simp [precB, h2])
      go_enter Tryz.func167, Tryz.ntmps167
      go_wp2
      go_ret
      exact ⟨ret_bool HR.out.symm, rfl⟩
  · have d1 : decide (8 ≤ p) = false := decide_eq_false h1
    have HR := Lib.hid (show precB p = false by simp [precB, h1])
    go_enter Tryz.func167, Tryz.ntmps167
    go_wp2
    go_ret
    exact ⟨ret_bool HR.out.symm, rfl⟩
def ShrP (v : Nat) (b : Bool) (w : World) (e : Ending) (w' : World) : Prop :=
  ∃ (A : Option Addr) (n : Nat), e = .returned (.tuple #[.slice A n n, .bool b]) ∧ Hid (Sl w' A n n (limbs v)) ∧ Hid (Below w.heap.size w w')
theorem cmp_ne {a b : Nat} : (cmpN a b != 0) = decide (a ≠ b) := by
  unfold cmpN
  by_cases h1 : a < b
  · rw [if_pos h1]; simp; omega
  · rw [if_neg h1]
    by_cases h2 : b < a
    · rw [if_pos h2]; simp; omega
    · rw [if_neg h2]; simp; omega

set_option maxHeartbeats 1000000 in
theorem rshr_any (A : Option Addr) (n c : Nat) (l : List Nat) (k : Int) (w : World) (h : Sl w A n c l) (hn : n ≤ 256) (hk : 0 ≤ k) :
    Calls Tryz.prog 185 #[.slice A n c, .int .i64 k] w (ShrP (val l / 2 ^ k.toNat) (decide (val l % 2 ^ k.toNat ≠ 0)) w) := by
  have H := Lib.hid h
  have hbl : blen (val l) ≤ 8192 := by
    have := val_lt h.ok
    rw [h.len, BB_pow, ← Nat.pow_mul] at this
    have := blen_le this
    omega
  clear h
  obtain ⟨b, hb⟩ : ∃ b : Nat, b = blen (val l) := ⟨_, rfl⟩
  have HBL := Lib.hid hb.symm
  rw [← hb] at hbl
  by_cases hc : (b : Int) < k
  · have dc : decide ((b : Int) < k) = true := decide_eq_true hc
    have HQ := Lib.hid (show val l / 2 ^ (b : Int).toNat = val l / 2 ^ k.toNat by
      have h1 := blen_lt (Nat.le_refl (blen (val l)))
      have h2 : val l < 2 ^ k.toNat := Nat.lt_of_lt_of_le h1 (Nat.pow_le_pow_right (by omega) (by omega))
      rw [Int.toNat_natCast, Nat.div_eq_of_lt h2, hb, Nat.div_eq_of_lt h1])
    have HM := Lib.hid (show decide (2 ^ (b : Int).toNat * val (limbs (val l / 2 ^ k.toNat)) ≠ val l) = decide (val l % 2 ^ k.toNat ≠ 0) by
      have h1 := blen_lt (Nat.le_refl (blen (val l)))
      have h2 : val l < 2 ^ k.toNat := Nat.lt_of_lt_of_le h1 (Nat.pow_le_pow_right (by omega) (by omega))
      rw [val_limbs, Nat.div_eq_of_lt h2, Nat.mod_eq_of_lt h2, Nat.mul_zero, decide_eq_decide]
      omega)
    have HZ := Lib.hid (show blen (val l / 2 ^ k.toNat) ≤ 8192 by have := blen_div_le (val l) k.toNat; omega)
    have HZ2 := Lib.hid (show blen (2 ^ (b : Int).toNat * val (limbs (val l / 2 ^ k.toNat))) ≤ 8192 by rw [val_limbs]; have h1 := blen_div_le (val l) k.toNat; have h2 := blen_mul_le (val l / 2 ^ k.toNat) (b : Int).toNat; omega)
    clear hb hc
    go_enter Tryz.func185, Tryz.ntmps185
    go_wp2_with fail
    refine (bits_any A n c l w H.out (by omega)).mono ?_
    rw [HBL.out]
    rintro e w' ⟨rfl, rfl⟩
    go_wp2_with fail
    refine (bits_any A n c l w H.out (by omega)).mono ?_
    rw [HBL.out]
    rintro e w' ⟨rfl, rfl⟩
    go_wp2_with fail
    refine (nShr_sl A n c l w H.out hn (b : Int) (by omega) (by omega) (by rw [HQ.out]; exact HZ.out)).mono ?_
    rw [HQ.out]
    rintro e w1 ⟨X, x, rfl, HX, HB1⟩
    have F1a := Lib.hid (H.out.belowW HB1.out)
    have F1x := Lib.hid (HX.out)
    have hx : x ≤ 256 := by rw [← HX.out.len]; exact limbs_bits (by have := HZ.out; omega)
    go_wp2_with fail
    refine (rshl_any X x x _ (b : Int) w1 F1x.out hx (by omega) (by omega) HZ2.out).mono ?_
    rintro e w2 ⟨Y, y, rfl, HY, HB2⟩
    have F2a := Lib.hid (F1a.out.belowW HB2.out)
    have F2x := Lib.hid (F1x.out.belowW HB2.out)
    have HL2 := Lib.hid (HB1.out.trans (HB2.out.mono HB1.out.size))
    have F2y := Lib.hid (HY.out)
    go_wp2_with fail
    refine (cmp_any Y A y y n c _ l w2 F2y.out F2a.out).mono ?_
    rintro e w9 ⟨rfl, qd, hqd⟩
    have HB9 := Lib.hid (show Below w2.heap.size w2 w9 by rw [hqd]; exact below_drewN (Below.refl _ _) qd)
    clear hqd
    rw [val_limbs]
    go_wp2_with fail
    refine bodyPost_ret (v := .tuple #[.slice X x x, .bool (decide (val l % 2 ^ k.toNat ≠ 0))]) (by simp only [← HM.out, ← cmp_ne]; simp [results, Tryz.results185, go_sem]) rfl ?_
    exact ⟨X, x, rfl, Lib.hid (F2x.out.belowW HB9.out), Lib.hid (HL2.out.trans (HB9.out.mono HL2.out.size))⟩
  · have dc : decide ((b : Int) < k) = false := decide_eq_false hc
    have HM := Lib.hid (show decide (2 ^ k.toNat * val (limbs (val l / 2 ^ k.toNat)) ≠ val l) = decide (val l % 2 ^ k.toNat ≠ 0) by
      rw [val_limbs, decide_eq_decide]
      have := Nat.div_add_mod (val l) (2 ^ k.toNat)
      omega)
    have HZ := Lib.hid (show blen (val l / 2 ^ k.toNat) ≤ 8192 by have := blen_div_le (val l) k.toNat; omega)
    have HZ2 := Lib.hid (show blen (2 ^ k.toNat * val (limbs (val l / 2 ^ k.toNat))) ≤ 8192 by rw [val_limbs]; have h1 := blen_div_le (val l) k.toNat; have h2 := blen_mul_le (val l / 2 ^ k.toNat) k.toNat; omega)
    have hkb : k ≤ (b : Int) := by omega
    clear hb hc
    go_enter Tryz.func185, Tryz.ntmps185
    go_wp2_with fail
    refine (bits_any A n c l w H.out (by omega)).mono ?_
    rw [HBL.out]
    rintro e w' ⟨rfl, rfl⟩
    go_wp2_with fail
    refine (nShr_sl A n c l w H.out hn k (by omega) (by omega) (by exact HZ.out)).mono ?_
    rintro e w1 ⟨X, x, rfl, HX, HB1⟩
    have F1a := Lib.hid (H.out.belowW HB1.out)
    have F1x := Lib.hid (HX.out)
    have hx : x ≤ 256 := by rw [← HX.out.len]; exact limbs_bits (by have := HZ.out; omega)
    go_wp2_with fail
    refine (rshl_any X x x _ k w1 F1x.out hx (by omega) (by omega) HZ2.out).mono ?_
    rintro e w2 ⟨Y, y, rfl, HY, HB2⟩
    have F2a := Lib.hid (F1a.out.belowW HB2.out)
    have F2x := Lib.hid (F1x.out.belowW HB2.out)
    have HL2 := Lib.hid (HB1.out.trans (HB2.out.mono HB1.out.size))
    have F2y := Lib.hid (HY.out)
    go_wp2_with fail
    refine (cmp_any Y A y y n c _ l w2 F2y.out F2a.out).mono ?_
    rintro e w9 ⟨rfl, qd, hqd⟩
    have HB9 := Lib.hid (show Below w2.heap.size w2 w9 by rw [hqd]; exact below_drewN (Below.refl _ _) qd)
    clear hqd
    rw [val_limbs]
    go_wp2_with fail
    refine bodyPost_ret (v := .tuple #[.slice X x x, .bool (decide (val l % 2 ^ k.toNat ≠ 0))]) (by simp only [← HM.out, ← cmp_ne]; simp [results, Tryz.results185, go_sem]) rfl ?_
    exact ⟨X, x, rfl, Lib.hid (F2x.out.belowW HB9.out), Lib.hid (HL2.out.trans (HB9.out.mono HL2.out.size))⟩

def errP (p : Int) : Int := if precB p then 0 else 2
def FaultRel (w : World) (g m : Nat) (cs : Array Value) (k : Nat) (iv dv : Value) (wr : World) : Prop :=
  ∃ j : Nat, iv = .int .i64 j ∧ j ≤ m ∧ k = m - j ∧ Hid (Blk wr g 25 cs) ∧ Hid (Below w.heap.size w wr)

set_option maxHeartbeats 1000000 in
theorem fault1_any (p : Int) (g : Nat) (a : D) (A : Option Addr) (na ca : Nat) (w : World) (hB : Blk w g 25 #[.bool a.neg, .slice A na ca, .int .i64 a.e]) (ha : Sl w A na ca (limbs a.k)) (va : vld a) :
    Calls Tryz.prog 141 #[.int .i64 p, .slice (some ⟨g, 0, none⟩) 1 1] w (Ret (.int .i64 (errP p)) w) := by
  have HBK := Lib.hid hB
  have Ha := Lib.hid ha
  have Va := Lib.hid va
  clear hB ha va
  go_enter Tryz.func141, Tryz.ntmps141
  go_wp2_with fail
  go_loopg [9, 6] 1 (FaultRel w g 1 #[.bool a.neg, .slice A na ca, .int .i64 a.e])
  case atStart => exact ⟨0, rfl, by omega, by omega, HBK, Lib.hid (Below.refl _ _)⟩
  case round =>
    obtain ⟨j, rfl, hj, rfl, HBR, HLR⟩ := hrel
    by_cases hj0 : j = 0
    · subst hj0
      have p0 : wr.cell? ⟨g, 0, none⟩ = some (.bool a.neg) := HBR.out.cell 0
      have p1 : wr.cell? ⟨g, 1, none⟩ = some (.slice A na ca) := HBR.out.cell 1
      have p2 : wr.cell? ⟨g, 2, none⟩ = some (.int .i64 a.e) := HBR.out.cell 2
      go_wp2_with fail
      obtain ⟨w1, hw⟩ : ∃ x, x = wr.alloc (.cells #[.bool a.neg, .slice A na ca, .int .i64 a.e] 25) := ⟨_, rfl⟩
      have HB1 := Lib.hid (show Below wr.heap.size wr w1 by rw [hw]; exact below_a1 _ _)
      rw [← hw]
      clear hw
      have F1k := Lib.hid (HBR.out.belowW HB1.out)
      have HL1 := Lib.hid (HLR.out.trans (HB1.out.mono HLR.out.size))
      have HS := Lib.hid (Ha.out.belowW HL1.out)
      refine (valid_yes a A na ca w1 HS.out Va.out).mono ?_
      rintro e w2 ⟨rfl, HB2⟩
      have F2k := Lib.hid (F1k.out.belowW HB2.out)
      have F2s := Lib.hid (HS.out.belowW HB2.out)
      have HL2 := Lib.hid (HL1.out.trans (HB2.out.mono HL1.out.size))
      go_wp2_with fail
      go_roundg 0
      case measure => omega
      case rel => exact ⟨1, by go_num, by omega, by omega, F2k, HL2⟩
    obtain rfl : j = 1 := by omega
    cases hp : precB p with
    | true =>
      have HP := Lib.hid hp
      have HE := Lib.hid (show errP p = 0 by unfold errP; rw [hp]; rfl)
      clear hp
      go_wp2_with fail
      refine (precise_any p wr).mono ?_
      rintro e w' ⟨rfl, rfl⟩
      rw [HP.out]
      go_wp2_with fail
      go_ret
      exact ⟨ret_int HE.out.symm, HLR⟩
    | false =>
      have HP := Lib.hid hp
      have HE := Lib.hid (show errP p = 2 by unfold errP; rw [hp]; rfl)
      clear hp
      go_wp2_with fail
      refine (precise_any p wr).mono ?_
      rintro e w' ⟨rfl, rfl⟩
      rw [HP.out]
      go_wp2_with fail
      go_ret
      exact ⟨ret_int HE.out.symm, HLR⟩

set_option maxHeartbeats 1000000 in
theorem fault2_any (p : Int) (g : Nat) (a : D) (A : Option Addr) (na ca : Nat) (b : D) (B : Option Addr) (nb cb : Nat) (w : World) (hB : Blk w g 25 #[.bool a.neg, .slice A na ca, .int .i64 a.e, .bool b.neg, .slice B nb cb, .int .i64 b.e]) (ha : Sl w A na ca (limbs a.k)) (va : vld a) (hb : Sl w B nb cb (limbs b.k)) (vb : vld b) :
    Calls Tryz.prog 141 #[.int .i64 p, .slice (some ⟨g, 0, none⟩) 2 2] w (Ret (.int .i64 (errP p)) w) := by
  have HBK := Lib.hid hB
  have Ha := Lib.hid ha
  have Va := Lib.hid va
  have Hb := Lib.hid hb
  have Vb := Lib.hid vb
  clear hB ha va hb vb
  go_enter Tryz.func141, Tryz.ntmps141
  go_wp2_with fail
  go_loopg [9, 6] 2 (FaultRel w g 2 #[.bool a.neg, .slice A na ca, .int .i64 a.e, .bool b.neg, .slice B nb cb, .int .i64 b.e])
  case atStart => exact ⟨0, rfl, by omega, by omega, HBK, Lib.hid (Below.refl _ _)⟩
  case round =>
    obtain ⟨j, rfl, hj, rfl, HBR, HLR⟩ := hrel
    by_cases hj0 : j = 0
    · subst hj0
      have p0 : wr.cell? ⟨g, 0, none⟩ = some (.bool a.neg) := HBR.out.cell 0
      have p1 : wr.cell? ⟨g, 1, none⟩ = some (.slice A na ca) := HBR.out.cell 1
      have p2 : wr.cell? ⟨g, 2, none⟩ = some (.int .i64 a.e) := HBR.out.cell 2
      go_wp2_with fail
      obtain ⟨w1, hw⟩ : ∃ x, x = wr.alloc (.cells #[.bool a.neg, .slice A na ca, .int .i64 a.e] 25) := ⟨_, rfl⟩
      have HB1 := Lib.hid (show Below wr.heap.size wr w1 by rw [hw]; exact below_a1 _ _)
      rw [← hw]
      clear hw
      have F1k := Lib.hid (HBR.out.belowW HB1.out)
      have HL1 := Lib.hid (HLR.out.trans (HB1.out.mono HLR.out.size))
      have HS := Lib.hid (Ha.out.belowW HL1.out)
      refine (valid_yes a A na ca w1 HS.out Va.out).mono ?_
      rintro e w2 ⟨rfl, HB2⟩
      have F2k := Lib.hid (F1k.out.belowW HB2.out)
      have F2s := Lib.hid (HS.out.belowW HB2.out)
      have HL2 := Lib.hid (HL1.out.trans (HB2.out.mono HL1.out.size))
      go_wp2_with fail
      go_roundg 1
      case measure => omega
      case rel => exact ⟨1, by go_num, by omega, by omega, F2k, HL2⟩
    by_cases hj1 : j = 1
    · subst hj1
      have p0 : wr.cell? ⟨g, 3, none⟩ = some (.bool b.neg) := HBR.out.cell 3
      have p1 : wr.cell? ⟨g, 4, none⟩ = some (.slice B nb cb) := HBR.out.cell 4
      have p2 : wr.cell? ⟨g, 5, none⟩ = some (.int .i64 b.e) := HBR.out.cell 5
      go_wp2_with fail
      obtain ⟨w1, hw⟩ : ∃ x, x = wr.alloc (.cells #[.bool b.neg, .slice B nb cb, .int .i64 b.e] 25) := ⟨_, rfl⟩
      have HB1 := Lib.hid (show Below wr.heap.size wr w1 by rw [hw]; exact below_a1 _ _)
      rw [← hw]
      clear hw
      have F1k := Lib.hid (HBR.out.belowW HB1.out)
      have HL1 := Lib.hid (HLR.out.trans (HB1.out.mono HLR.out.size))
      have HS := Lib.hid (Hb.out.belowW HL1.out)
      refine (valid_yes b B nb cb w1 HS.out Vb.out).mono ?_
      rintro e w2 ⟨rfl, HB2⟩
      have F2k := Lib.hid (F1k.out.belowW HB2.out)
      have F2s := Lib.hid (HS.out.belowW HB2.out)
      have HL2 := Lib.hid (HL1.out.trans (HB2.out.mono HL1.out.size))
      go_wp2_with fail
      go_roundg 0
      case measure => omega
      case rel => exact ⟨2, by go_num, by omega, by omega, F2k, HL2⟩
    obtain rfl : j = 2 := by omega
    cases hp : precB p with
    | true =>
      have HP := Lib.hid hp
      have HE := Lib.hid (show errP p = 0 by unfold errP; rw [hp]; rfl)
      clear hp
      go_wp2_with fail
      refine (precise_any p wr).mono ?_
      rintro e w' ⟨rfl, rfl⟩
      rw [HP.out]
      go_wp2_with fail
      go_ret
      exact ⟨ret_int HE.out.symm, HLR⟩
    | false =>
      have HP := Lib.hid hp
      have HE := Lib.hid (show errP p = 2 by unfold errP; rw [hp]; rfl)
      clear hp
      go_wp2_with fail
      refine (precise_any p wr).mono ?_
      rintro e w' ⟨rfl, rfl⟩
      rw [HP.out]
      go_wp2_with fail
      go_ret
      exact ⟨ret_int HE.out.symm, HLR⟩
end Go.Proofs.YtffdkakogeofmaaGreatDoor
