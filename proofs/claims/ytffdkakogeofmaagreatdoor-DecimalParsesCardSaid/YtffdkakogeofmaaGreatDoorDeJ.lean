/-
  The walk of the reference's Cut, where nothing overflows.
-/
import Derived.Test.YtffdkakogeofmaaGreatDoorDecQ
import Derived.Test.YtffdkakogeofmaaGreatDoorDeI
set_option linter.unusedVariables false
namespace Go.Proofs.YtffdkakogeofmaaGreatDoor
open Go.RowKit Go.Fl Go.Fl.Nm Go.Fl.Dy
set_option maxHeartbeats 8000000 in
set_option maxRecDepth 100000 in
theorem cut03 (neg more up : Bool) (A : Option Addr) (n c q p : Nat) (k : Nat) (w : World) (ha : Sl w A n c (limbs q)) (hp : 8 ≤ p) (hp2 : p ≤ 512) (hpq : p ≤ blen q) (hq : blen q ≤ 6000) (hk : k ≤ 5000) :
    Calls Tryz.prog 76 #[.bool neg, .slice A n c, .int .i64 (0 - (k : Int)), .bool more, .int .i64 p, .bool up] w (DyE (cutX neg q (0 - (k : Int)) more p up, 0) w) := by
  obtain ⟨K, hK⟩ : ∃ K, blen q - p = K := ⟨_, rfl⟩
  obtain ⟨Q, hQ⟩ : ∃ Q, q / 2 ^ K = Q := ⟨_, rfl⟩
  obtain ⟨e, he⟩ : ∃ e : Int, 0 - (k : Int) = e := ⟨_, rfl⟩
  obtain ⟨lost, hlost⟩ : ∃ l, decide (q % 2 ^ K ≠ 0) = l := ⟨_, rfl⟩
  have hT := top_bits (by omega : 0 < p) hpq
  rw [hK, hQ] at hT
  have HCX := Lib.hid (show cutX neg q e more p up = canon neg (if ((more || lost) && (neg != up)) = true then Q + 1 else Q) (e + (K : Int)) by unfold cutX; rw [hK, hQ, hlost])
  have HQB := Lib.hid (show blen Q ≤ p from blen_le hT.2)
  have HQ0 := Lib.hid (show Q ≠ 0 by have := Nat.two_pow_pos (p - 1); omega)
  have HQ1 := Lib.hid (show blen (Q + 1) ≤ p + 1 by have := blen_succ Q; have := HQB.out; omega)
  have HA := Lib.hid ha
  have HQV := Lib.hid (show val (limbs q) / 2 ^ K = Q by rw [val_limbs]; exact hQ)
  have HLM := Lib.hid (show blen q ≤ 32 * 200 by omega)
  obtain ⟨cz, hcz⟩ : ∃ z, cmpN (Q * 2 ^ K) q = z := ⟨_, rfl⟩
  have HBK := Lib.hid (show val (limbs Q) * 2 ^ K = Q * 2 ^ K by rw [val_limbs])
  have HCZ := Lib.hid (show cmpN (val (limbs (Q * 2 ^ K))) (val (limbs q)) = cz by rw [val_limbs, val_limbs]; exact hcz)
  have LB := Lib.hid (show blen (Q * 2 ^ K) ≤ 32 * 200 by
    have : Q * 2 ^ K ≤ q := by rw [← hQ]; exact Nat.div_mul_le_self _ _
    have := blen_mono this
    omega)
  have dcz : (cz != 0) = lost := by
    rw [← hcz, cmp_ne, ← hlost, decide_eq_decide, ← hQ]
    have := Nat.div_add_mod q (2 ^ K)
    rw [Nat.mul_comm]
    omega
  have HLS := Lib.hid (show K = 0 → lost = false by
    intro h
    rw [← hlost, h]
    exact decide_eq_false (by rw [Nat.pow_zero, Nat.mod_one]; omega))
  obtain ⟨N, hN⟩ : ∃ N, blen q = N := ⟨_, rfl⟩
  have HBN := Lib.hid (show blen (val (limbs q)) = N by rw [val_limbs]; exact hN)
  rw [hN] at hK hq hpq
  have hm0 : (N : Int) - (p : Int) = (K : Int) := by omega
  have hm1 : max (K : Int) (-16384 - e) = (K : Int) := by omega
  have hm2 : max (K : Int) 0 = (K : Int) := by omega
  have hm3 : max (-16384 - e) 0 = 0 := by omega
  have s1 : IntKind.i64.wrap (K : Int) = (K : Int) := IntWalk.i64_in _ (by omega)
  have s2 : IntKind.i64.wrap (-16384 - e) = -16384 - e := IntWalk.i64_in _ (by omega)
  have s3 : IntKind.i64.wrap (e + (K : Int)) = e + (K : Int) := IntWalk.i64_in _ (by omega)
  have s4 : IntKind.i64.wrap (e) = e := IntWalk.i64_in _ (by omega)
  have hK1 : K ≤ 1000000 := by omega
  have hE1 : -1000000000 ≤ e + (K : Int) := by omega
  have hE2 : e + (K : Int) ≤ 1000000000 := by omega
  have hE3 : e + (K : Int) ≤ 6000 := by omega
  have hE4 : -5000 ≤ e := by omega
  have hE5 : e ≤ 0 := by omega
  have hE6 : K ≤ 6000 := by omega
  have o9 : (1 : Nat) ≤ 900000 := by omega
  have K5 := Lib.hid (show 200 ≤ 1000000 by omega)
  obtain ⟨CX, hCX⟩ : ∃ d, cutX neg q e more p up = d := ⟨_, rfl⟩
  rw [hCX] at HCX
  rw [he, hCX]
  clear hCX ha hcz hlost hQ hT he hK hN hp hpq hq hk
  go_enter Tryz.func76, Tryz.ntmps76
  go_wp2_with fail
  obtain ⟨w1, hw⟩ : ∃ z9 : World, z9 = (w.alloc (.cells #[.bool false, .slice none 0 0, .int .i64 0] 25)) := ⟨_, rfl⟩
  have HB1 := Lib.hid (show Below w.heap.size w w1 by rw [hw]; exact below_a1 _ _)
  have F1a := Lib.hid (HA.out.belowW HB1.out)
  have F1r := Lib.hid (show Blk w1 (w.heap.size) 25 #[.bool false, .slice none 0 0, .int .i64 0] by rw [hw]; exact Blk.new _ _ _)
  rw [← hw]
  clear hw
  refine (rTrim A n c (limbs q) w1 F1a.out (Nat.le_trans (F1a.out.lim HLM.out) K5.out)).mono ?_
  rw [val_limbs]
  rintro e w2 ⟨B, m, mc, rfl, HM, HB2⟩
  have F2a := Lib.hid (F1a.out.belowW HB2.out)
  have F2r := Lib.hid (F1r.out.belowW HB2.out)
  have HL2 := Lib.hid (HB1.out.trans (HB2.out.mono HB1.out.size))
  have F2m := Lib.hid (HM.out.sl)
  have hm : m ≤ 200 := F2m.out.lim HLM.out
  have hmb : m ≤ 1000000 := by omega
  have hmc : m ≤ 100000 := by omega
  go_wp2_with fail
  refine (rBits B m mc (limbs q) w2 F2m.out hmb).mono ?_
  rw [HBN.out]
  rintro e w' ⟨rfl, rfl⟩
  go_wp2_with fail
  refine (rShr B m mc K (limbs q) w2 F2m.out hmc hK1).mono ?_
  rw [HQV.out]
  rintro e w3 ⟨C, x, xc, rfl, HC, HB3⟩
  have F3a := Lib.hid (F2a.out.belowW HB3.out)
  have F3r := Lib.hid (F2r.out.belowW HB3.out)
  have F3m := Lib.hid (F2m.out.belowW HB3.out)
  have HL3 := Lib.hid (HL2.out.trans (HB3.out.mono HL2.out.size))
  have F3x := Lib.hid (HC.out.sl)
  have hx : x ≤ 200 := F3x.out.lim (by have := HQB.out; omega)
  have hxb : x ≤ 1000000 := by omega
  have hxc : x ≤ 100000 := by omega
  have hxd : x ≤ 900000 := by omega
  by_cases hK0 : K = 0
  case pos =>
    obtain rfl := HLS.out hK0
    have dK : decide ((0 : Int) < (K : Int)) = false := decide_eq_false (by omega)
    have dK2 : decide (0 < K) = false := decide_eq_false (by omega)
    clear hK0 dcz
    cases more with
    | true =>
      cases hout : (neg != up) with
      | true =>
        try have hout2 := hout
        try have hout3 : (!(neg == up)) = true := hout
        have HCZ9 := Lib.hid (show CX = canon neg (Q + 1) (e + (K : Int)) by rw [HCX.out, hout]; rfl)
        go_wp2_with fail
        obtain ⟨w4, hw⟩ : ∃ z9 : World, z9 = w3.alloc (.cells #[.int .u32 1] 49) := ⟨_, rfl⟩
        have HB4 := Lib.hid (show Below w3.heap.size w3 w4 by rw [hw]; exact below_a1 _ _)
        have F4one := Lib.hid (show Blk w4 w3.heap.size 49 #[.int .u32 1] by rw [hw]; exact Blk.new _ _ _)
        rw [← hw]
        clear hw
        have F4a := Lib.hid (F3a.out.belowW HB4.out)
        have F4r := Lib.hid (F3r.out.belowW HB4.out)
        have F4m := Lib.hid (F3m.out.belowW HB4.out)
        have F4x := Lib.hid (F3x.out.belowW HB4.out)
        have HL4 := Lib.hid (HL3.out.trans (HB4.out.mono HL3.out.size))
        have FO := Lib.hid (Sl.one (x := 1) F4one.out (by unfold BB; omega))
        have HA1 := Lib.hid (show val (limbs Q) + val [1] = Q + 1 by rw [val_limbs, val_cons, val_nil, Nat.mul_zero])
        refine (rAdd C (some ⟨w3.heap.size, 0, none⟩) x xc 1 1 (limbs Q) [1] w4 F4x.out FO.out hxd o9).mono ?_
        rw [HA1.out]
        rintro e w5 ⟨G, g, gc, rfl, HG, HB5⟩
        have F5a := Lib.hid (F4a.out.belowW HB5.out)
        have F5r := Lib.hid (F4r.out.belowW HB5.out)
        have F5m := Lib.hid (F4m.out.belowW HB5.out)
        have F5x := Lib.hid (F4x.out.belowW HB5.out)
        have F5one := Lib.hid (FO.out.belowW HB5.out)
        have HL5 := Lib.hid (HL4.out.trans (HB5.out.mono HL4.out.size))
        have F5g := Lib.hid (HG.out.sl)
        have hgg : g ≤ 200 := F5g.out.lim (by have := HQ1.out; omega)
        have hgb : g ≤ 1000000 := by omega
        obtain ⟨bs, hbs⟩ : ∃ b, blen (Q + 1) = b := ⟨_, rfl⟩
        have HBS := Lib.hid (show blen (val (limbs (Q + 1))) = bs by rw [val_limbs]; exact hbs)
        have hbs0 : 0 < bs := by rw [← hbs]; exact blen_pos (by omega)
        have hbs1 : bs ≤ 600 := by have := HQ1.out; omega
        have db1 : decide ((0 : Int) < (bs : Int)) = true := decide_eq_true (by omega)
        have db2 : decide (0 < bs) = true := decide_eq_true hbs0
        have s5 : IntKind.i64.wrap ((bs : Int) + e) = (bs : Int) + e := IntWalk.i64_in _ (by omega)
        have s6 : IntKind.i64.wrap ((bs : Int) + e + (K : Int)) = (bs : Int) + e + (K : Int) := IntWalk.i64_in _ (by omega)
        have db3 : decide (16384 < (bs : Int) + e + (K : Int)) = false := decide_eq_false (by omega)
        clear hbs
        go_wp2_with fail
        refine (rBits G g gc (limbs (Q + 1)) w5 F5g.out hgb).mono ?_
        rw [HBS.out]
        rintro e w' ⟨rfl, rfl⟩
        go_wp2_with fail
        refine (rBits G g gc (limbs (Q + 1)) w5 F5g.out hgb).mono ?_
        rw [HBS.out]
        rintro e w' ⟨rfl, rfl⟩
        go_wp2_with fail
        refine (uOf neg G g gc (limbs (Q + 1)) (e + (K : Int)) w5 F5g.out (by omega) hE1 hE2).mono ?_
        rw [val_limbs]
        rintro e w6 ⟨M, mn, mc', rfl, HMM, HB6⟩
        have F6a := Lib.hid (F5a.out.belowW HB6.out)
        have F6r := Lib.hid (F5r.out.belowW HB6.out)
        have F6m := Lib.hid (F5m.out.belowW HB6.out)
        have F6x := Lib.hid (F5x.out.belowW HB6.out)
        have F6one := Lib.hid (F5one.out.belowW HB6.out)
        have F6g := Lib.hid (F5g.out.belowW HB6.out)
        have HL6 := Lib.hid (HL5.out.trans (HB6.out.mono HL5.out.size))
        have F6z := Lib.hid (HMM.out)
        obtain ⟨pr0, fr0, pr1, fr1, pr2, fr2⟩ := F6r.out.all3
        go_wp2_with fail
        refine bodyPost_ret (v := .tuple #[.agg #[.bool (canon neg (Q + 1) (e + (K : Int))).neg, .slice M mn mc', .int .i64 (canon neg (Q + 1) (e + (K : Int))).e], .int .i64 0]) (by simp [results, Tryz.results76, go_sem, pr0, pr1, pr2]) rfl ?_
        rw [HCZ9.out]
        exact ⟨M, mn, mc', rfl, Lib.hid (store3_sl F6z.out F6r.out noU3 _ _ _), Lib.hid (store3_below HL6.out F6r.out _ _ _ (Nat.le_refl _))⟩
      | false =>
        try have hout2 := hout
        try have hout3 : (!(neg == up)) = false := hout
        have HCZ9 := Lib.hid (show CX = canon neg (Q) (e + (K : Int)) by rw [HCX.out, hout]; rfl)
        obtain ⟨bs, hbs⟩ : ∃ b, blen (Q) = b := ⟨_, rfl⟩
        have HBS := Lib.hid (show blen (val (limbs (Q))) = bs by rw [val_limbs]; exact hbs)
        have hbs0 : 0 < bs := by rw [← hbs]; exact blen_pos HQ0.out
        have hbs1 : bs ≤ 600 := by have := HQB.out; omega
        have db1 : decide ((0 : Int) < (bs : Int)) = true := decide_eq_true (by omega)
        have db2 : decide (0 < bs) = true := decide_eq_true hbs0
        have s5 : IntKind.i64.wrap ((bs : Int) + e) = (bs : Int) + e := IntWalk.i64_in _ (by omega)
        have s6 : IntKind.i64.wrap ((bs : Int) + e + (K : Int)) = (bs : Int) + e + (K : Int) := IntWalk.i64_in _ (by omega)
        have db3 : decide (16384 < (bs : Int) + e + (K : Int)) = false := decide_eq_false (by omega)
        clear hbs
        go_wp2_with fail
        refine (rBits C x xc (limbs (Q)) w3 F3x.out hxb).mono ?_
        rw [HBS.out]
        rintro e w' ⟨rfl, rfl⟩
        go_wp2_with fail
        refine (rBits C x xc (limbs (Q)) w3 F3x.out hxb).mono ?_
        rw [HBS.out]
        rintro e w' ⟨rfl, rfl⟩
        go_wp2_with fail
        refine (uOf neg C x xc (limbs (Q)) (e + (K : Int)) w3 F3x.out (by omega) hE1 hE2).mono ?_
        rw [val_limbs]
        rintro e w4 ⟨M, mn, mc', rfl, HMM, HB4⟩
        have F4a := Lib.hid (F3a.out.belowW HB4.out)
        have F4r := Lib.hid (F3r.out.belowW HB4.out)
        have F4m := Lib.hid (F3m.out.belowW HB4.out)
        have F4x := Lib.hid (F3x.out.belowW HB4.out)
        have HL4 := Lib.hid (HL3.out.trans (HB4.out.mono HL3.out.size))
        have F4z := Lib.hid (HMM.out)
        obtain ⟨pr0, fr0, pr1, fr1, pr2, fr2⟩ := F4r.out.all3
        go_wp2_with fail
        refine bodyPost_ret (v := .tuple #[.agg #[.bool (canon neg (Q) (e + (K : Int))).neg, .slice M mn mc', .int .i64 (canon neg (Q) (e + (K : Int))).e], .int .i64 0]) (by simp [results, Tryz.results76, go_sem, pr0, pr1, pr2]) rfl ?_
        rw [HCZ9.out]
        exact ⟨M, mn, mc', rfl, Lib.hid (store3_sl F4z.out F4r.out noU3 _ _ _), Lib.hid (store3_below HL4.out F4r.out _ _ _ (Nat.le_refl _))⟩
    | false =>
      cases hout : (neg != up) with
      | true =>
        try have hout2 := hout
        try have hout3 : (!(neg == up)) = true := hout
        have HCZ9 := Lib.hid (show CX = canon neg (Q) (e + (K : Int)) by rw [HCX.out, hout]; rfl)
        obtain ⟨bs, hbs⟩ : ∃ b, blen (Q) = b := ⟨_, rfl⟩
        have HBS := Lib.hid (show blen (val (limbs (Q))) = bs by rw [val_limbs]; exact hbs)
        have hbs0 : 0 < bs := by rw [← hbs]; exact blen_pos HQ0.out
        have hbs1 : bs ≤ 600 := by have := HQB.out; omega
        have db1 : decide ((0 : Int) < (bs : Int)) = true := decide_eq_true (by omega)
        have db2 : decide (0 < bs) = true := decide_eq_true hbs0
        have s5 : IntKind.i64.wrap ((bs : Int) + e) = (bs : Int) + e := IntWalk.i64_in _ (by omega)
        have s6 : IntKind.i64.wrap ((bs : Int) + e + (K : Int)) = (bs : Int) + e + (K : Int) := IntWalk.i64_in _ (by omega)
        have db3 : decide (16384 < (bs : Int) + e + (K : Int)) = false := decide_eq_false (by omega)
        clear hbs
        go_wp2_with fail
        refine (rBits C x xc (limbs (Q)) w3 F3x.out hxb).mono ?_
        rw [HBS.out]
        rintro e w' ⟨rfl, rfl⟩
        go_wp2_with fail
        refine (rBits C x xc (limbs (Q)) w3 F3x.out hxb).mono ?_
        rw [HBS.out]
        rintro e w' ⟨rfl, rfl⟩
        go_wp2_with fail
        refine (uOf neg C x xc (limbs (Q)) (e + (K : Int)) w3 F3x.out (by omega) hE1 hE2).mono ?_
        rw [val_limbs]
        rintro e w4 ⟨M, mn, mc', rfl, HMM, HB4⟩
        have F4a := Lib.hid (F3a.out.belowW HB4.out)
        have F4r := Lib.hid (F3r.out.belowW HB4.out)
        have F4m := Lib.hid (F3m.out.belowW HB4.out)
        have F4x := Lib.hid (F3x.out.belowW HB4.out)
        have HL4 := Lib.hid (HL3.out.trans (HB4.out.mono HL3.out.size))
        have F4z := Lib.hid (HMM.out)
        obtain ⟨pr0, fr0, pr1, fr1, pr2, fr2⟩ := F4r.out.all3
        go_wp2_with fail
        refine bodyPost_ret (v := .tuple #[.agg #[.bool (canon neg (Q) (e + (K : Int))).neg, .slice M mn mc', .int .i64 (canon neg (Q) (e + (K : Int))).e], .int .i64 0]) (by simp [results, Tryz.results76, go_sem, pr0, pr1, pr2]) rfl ?_
        rw [HCZ9.out]
        exact ⟨M, mn, mc', rfl, Lib.hid (store3_sl F4z.out F4r.out noU3 _ _ _), Lib.hid (store3_below HL4.out F4r.out _ _ _ (Nat.le_refl _))⟩
      | false =>
        try have hout2 := hout
        try have hout3 : (!(neg == up)) = false := hout
        have HCZ9 := Lib.hid (show CX = canon neg (Q) (e + (K : Int)) by rw [HCX.out, hout]; rfl)
        obtain ⟨bs, hbs⟩ : ∃ b, blen (Q) = b := ⟨_, rfl⟩
        have HBS := Lib.hid (show blen (val (limbs (Q))) = bs by rw [val_limbs]; exact hbs)
        have hbs0 : 0 < bs := by rw [← hbs]; exact blen_pos HQ0.out
        have hbs1 : bs ≤ 600 := by have := HQB.out; omega
        have db1 : decide ((0 : Int) < (bs : Int)) = true := decide_eq_true (by omega)
        have db2 : decide (0 < bs) = true := decide_eq_true hbs0
        have s5 : IntKind.i64.wrap ((bs : Int) + e) = (bs : Int) + e := IntWalk.i64_in _ (by omega)
        have s6 : IntKind.i64.wrap ((bs : Int) + e + (K : Int)) = (bs : Int) + e + (K : Int) := IntWalk.i64_in _ (by omega)
        have db3 : decide (16384 < (bs : Int) + e + (K : Int)) = false := decide_eq_false (by omega)
        clear hbs
        go_wp2_with fail
        refine (rBits C x xc (limbs (Q)) w3 F3x.out hxb).mono ?_
        rw [HBS.out]
        rintro e w' ⟨rfl, rfl⟩
        go_wp2_with fail
        refine (rBits C x xc (limbs (Q)) w3 F3x.out hxb).mono ?_
        rw [HBS.out]
        rintro e w' ⟨rfl, rfl⟩
        go_wp2_with fail
        refine (uOf neg C x xc (limbs (Q)) (e + (K : Int)) w3 F3x.out (by omega) hE1 hE2).mono ?_
        rw [val_limbs]
        rintro e w4 ⟨M, mn, mc', rfl, HMM, HB4⟩
        have F4a := Lib.hid (F3a.out.belowW HB4.out)
        have F4r := Lib.hid (F3r.out.belowW HB4.out)
        have F4m := Lib.hid (F3m.out.belowW HB4.out)
        have F4x := Lib.hid (F3x.out.belowW HB4.out)
        have HL4 := Lib.hid (HL3.out.trans (HB4.out.mono HL3.out.size))
        have F4z := Lib.hid (HMM.out)
        obtain ⟨pr0, fr0, pr1, fr1, pr2, fr2⟩ := F4r.out.all3
        go_wp2_with fail
        refine bodyPost_ret (v := .tuple #[.agg #[.bool (canon neg (Q) (e + (K : Int))).neg, .slice M mn mc', .int .i64 (canon neg (Q) (e + (K : Int))).e], .int .i64 0]) (by simp [results, Tryz.results76, go_sem, pr0, pr1, pr2]) rfl ?_
        rw [HCZ9.out]
        exact ⟨M, mn, mc', rfl, Lib.hid (store3_sl F4z.out F4r.out noU3 _ _ _), Lib.hid (store3_below HL4.out F4r.out _ _ _ (Nat.le_refl _))⟩
  case neg =>
    have dK : decide ((0 : Int) < (K : Int)) = true := decide_eq_true (by omega)
    have dK2 : decide (0 < K) = true := decide_eq_true (by omega)
    clear hK0
    go_wp2_with fail
    refine (rShl C x xc K (limbs Q) w3 F3x.out hxc hK1).mono ?_
    rw [HBK.out]
    rintro e w4 ⟨E, y, yc, rfl, HE, HB4⟩
    have F4a := Lib.hid (F3a.out.belowW HB4.out)
    have F4r := Lib.hid (F3r.out.belowW HB4.out)
    have F4m := Lib.hid (F3m.out.belowW HB4.out)
    have F4x := Lib.hid (F3x.out.belowW HB4.out)
    have HL4 := Lib.hid (HL3.out.trans (HB4.out.mono HL3.out.size))
    have F4y := Lib.hid (HE.out.sl)
    have hy : y ≤ 1000000 := Nat.le_trans (F4y.out.lim LB.out) K5.out
    go_wp2_with fail
    refine (rCmp E B y yc m mc (limbs (Q * 2 ^ K)) (limbs q) w4 F4y.out F4m.out hy hmb).mono ?_
    rw [HCZ.out]
    rintro e w' ⟨rfl, rfl⟩
    cases lost with
    | true =>
      rw [Bool.or_true] at HCX
      cases hout : (neg != up) with
      | true =>
        try have hout2 := hout
        try have hout3 : (!(neg == up)) = true := hout
        have HCZ9 := Lib.hid (show CX = canon neg (Q + 1) (e + (K : Int)) by rw [HCX.out, hout]; rfl)
        go_wp2_with fail
        obtain ⟨w5, hw⟩ : ∃ z9 : World, z9 = w4.alloc (.cells #[.int .u32 1] 49) := ⟨_, rfl⟩
        have HB5 := Lib.hid (show Below w4.heap.size w4 w5 by rw [hw]; exact below_a1 _ _)
        have F5one := Lib.hid (show Blk w5 w4.heap.size 49 #[.int .u32 1] by rw [hw]; exact Blk.new _ _ _)
        rw [← hw]
        clear hw
        have F5a := Lib.hid (F4a.out.belowW HB5.out)
        have F5r := Lib.hid (F4r.out.belowW HB5.out)
        have F5m := Lib.hid (F4m.out.belowW HB5.out)
        have F5x := Lib.hid (F4x.out.belowW HB5.out)
        have F5y := Lib.hid (F4y.out.belowW HB5.out)
        have HL5 := Lib.hid (HL4.out.trans (HB5.out.mono HL4.out.size))
        have FO := Lib.hid (Sl.one (x := 1) F5one.out (by unfold BB; omega))
        have HA1 := Lib.hid (show val (limbs Q) + val [1] = Q + 1 by rw [val_limbs, val_cons, val_nil, Nat.mul_zero])
        refine (rAdd C (some ⟨w4.heap.size, 0, none⟩) x xc 1 1 (limbs Q) [1] w5 F5x.out FO.out hxd o9).mono ?_
        rw [HA1.out]
        rintro e w6 ⟨G, g, gc, rfl, HG, HB6⟩
        have F6a := Lib.hid (F5a.out.belowW HB6.out)
        have F6r := Lib.hid (F5r.out.belowW HB6.out)
        have F6m := Lib.hid (F5m.out.belowW HB6.out)
        have F6x := Lib.hid (F5x.out.belowW HB6.out)
        have F6y := Lib.hid (F5y.out.belowW HB6.out)
        have F6one := Lib.hid (FO.out.belowW HB6.out)
        have HL6 := Lib.hid (HL5.out.trans (HB6.out.mono HL5.out.size))
        have F6g := Lib.hid (HG.out.sl)
        have hgg : g ≤ 200 := F6g.out.lim (by have := HQ1.out; omega)
        have hgb : g ≤ 1000000 := by omega
        obtain ⟨bs, hbs⟩ : ∃ b, blen (Q + 1) = b := ⟨_, rfl⟩
        have HBS := Lib.hid (show blen (val (limbs (Q + 1))) = bs by rw [val_limbs]; exact hbs)
        have hbs0 : 0 < bs := by rw [← hbs]; exact blen_pos (by omega)
        have hbs1 : bs ≤ 600 := by have := HQ1.out; omega
        have db1 : decide ((0 : Int) < (bs : Int)) = true := decide_eq_true (by omega)
        have db2 : decide (0 < bs) = true := decide_eq_true hbs0
        have s5 : IntKind.i64.wrap ((bs : Int) + e) = (bs : Int) + e := IntWalk.i64_in _ (by omega)
        have s6 : IntKind.i64.wrap ((bs : Int) + e + (K : Int)) = (bs : Int) + e + (K : Int) := IntWalk.i64_in _ (by omega)
        have db3 : decide (16384 < (bs : Int) + e + (K : Int)) = false := decide_eq_false (by omega)
        clear hbs
        go_wp2_with fail
        refine (rBits G g gc (limbs (Q + 1)) w6 F6g.out hgb).mono ?_
        rw [HBS.out]
        rintro e w' ⟨rfl, rfl⟩
        go_wp2_with fail
        refine (rBits G g gc (limbs (Q + 1)) w6 F6g.out hgb).mono ?_
        rw [HBS.out]
        rintro e w' ⟨rfl, rfl⟩
        go_wp2_with fail
        refine (uOf neg G g gc (limbs (Q + 1)) (e + (K : Int)) w6 F6g.out (by omega) hE1 hE2).mono ?_
        rw [val_limbs]
        rintro e w7 ⟨M, mn, mc', rfl, HMM, HB7⟩
        have F7a := Lib.hid (F6a.out.belowW HB7.out)
        have F7r := Lib.hid (F6r.out.belowW HB7.out)
        have F7m := Lib.hid (F6m.out.belowW HB7.out)
        have F7x := Lib.hid (F6x.out.belowW HB7.out)
        have F7y := Lib.hid (F6y.out.belowW HB7.out)
        have F7one := Lib.hid (F6one.out.belowW HB7.out)
        have F7g := Lib.hid (F6g.out.belowW HB7.out)
        have HL7 := Lib.hid (HL6.out.trans (HB7.out.mono HL6.out.size))
        have F7z := Lib.hid (HMM.out)
        obtain ⟨pr0, fr0, pr1, fr1, pr2, fr2⟩ := F7r.out.all3
        go_wp2_with fail
        refine bodyPost_ret (v := .tuple #[.agg #[.bool (canon neg (Q + 1) (e + (K : Int))).neg, .slice M mn mc', .int .i64 (canon neg (Q + 1) (e + (K : Int))).e], .int .i64 0]) (by simp [results, Tryz.results76, go_sem, pr0, pr1, pr2]) rfl ?_
        rw [HCZ9.out]
        exact ⟨M, mn, mc', rfl, Lib.hid (store3_sl F7z.out F7r.out noU3 _ _ _), Lib.hid (store3_below HL7.out F7r.out _ _ _ (Nat.le_refl _))⟩
      | false =>
        try have hout2 := hout
        try have hout3 : (!(neg == up)) = false := hout
        have HCZ9 := Lib.hid (show CX = canon neg (Q) (e + (K : Int)) by rw [HCX.out, hout]; rfl)
        obtain ⟨bs, hbs⟩ : ∃ b, blen (Q) = b := ⟨_, rfl⟩
        have HBS := Lib.hid (show blen (val (limbs (Q))) = bs by rw [val_limbs]; exact hbs)
        have hbs0 : 0 < bs := by rw [← hbs]; exact blen_pos HQ0.out
        have hbs1 : bs ≤ 600 := by have := HQB.out; omega
        have db1 : decide ((0 : Int) < (bs : Int)) = true := decide_eq_true (by omega)
        have db2 : decide (0 < bs) = true := decide_eq_true hbs0
        have s5 : IntKind.i64.wrap ((bs : Int) + e) = (bs : Int) + e := IntWalk.i64_in _ (by omega)
        have s6 : IntKind.i64.wrap ((bs : Int) + e + (K : Int)) = (bs : Int) + e + (K : Int) := IntWalk.i64_in _ (by omega)
        have db3 : decide (16384 < (bs : Int) + e + (K : Int)) = false := decide_eq_false (by omega)
        clear hbs
        go_wp2_with fail
        refine (rBits C x xc (limbs (Q)) w4 F4x.out hxb).mono ?_
        rw [HBS.out]
        rintro e w' ⟨rfl, rfl⟩
        go_wp2_with fail
        refine (rBits C x xc (limbs (Q)) w4 F4x.out hxb).mono ?_
        rw [HBS.out]
        rintro e w' ⟨rfl, rfl⟩
        go_wp2_with fail
        refine (uOf neg C x xc (limbs (Q)) (e + (K : Int)) w4 F4x.out (by omega) hE1 hE2).mono ?_
        rw [val_limbs]
        rintro e w5 ⟨M, mn, mc', rfl, HMM, HB5⟩
        have F5a := Lib.hid (F4a.out.belowW HB5.out)
        have F5r := Lib.hid (F4r.out.belowW HB5.out)
        have F5m := Lib.hid (F4m.out.belowW HB5.out)
        have F5x := Lib.hid (F4x.out.belowW HB5.out)
        have F5y := Lib.hid (F4y.out.belowW HB5.out)
        have HL5 := Lib.hid (HL4.out.trans (HB5.out.mono HL4.out.size))
        have F5z := Lib.hid (HMM.out)
        obtain ⟨pr0, fr0, pr1, fr1, pr2, fr2⟩ := F5r.out.all3
        go_wp2_with fail
        refine bodyPost_ret (v := .tuple #[.agg #[.bool (canon neg (Q) (e + (K : Int))).neg, .slice M mn mc', .int .i64 (canon neg (Q) (e + (K : Int))).e], .int .i64 0]) (by simp [results, Tryz.results76, go_sem, pr0, pr1, pr2]) rfl ?_
        rw [HCZ9.out]
        exact ⟨M, mn, mc', rfl, Lib.hid (store3_sl F5z.out F5r.out noU3 _ _ _), Lib.hid (store3_below HL5.out F5r.out _ _ _ (Nat.le_refl _))⟩
    | false =>
      cases more with
      | true =>
        cases hout : (neg != up) with
        | true =>
          try have hout2 := hout
          try have hout3 : (!(neg == up)) = true := hout
          have HCZ9 := Lib.hid (show CX = canon neg (Q + 1) (e + (K : Int)) by rw [HCX.out, hout]; rfl)
          go_wp2_with fail
          obtain ⟨w5, hw⟩ : ∃ z9 : World, z9 = w4.alloc (.cells #[.int .u32 1] 49) := ⟨_, rfl⟩
          have HB5 := Lib.hid (show Below w4.heap.size w4 w5 by rw [hw]; exact below_a1 _ _)
          have F5one := Lib.hid (show Blk w5 w4.heap.size 49 #[.int .u32 1] by rw [hw]; exact Blk.new _ _ _)
          rw [← hw]
          clear hw
          have F5a := Lib.hid (F4a.out.belowW HB5.out)
          have F5r := Lib.hid (F4r.out.belowW HB5.out)
          have F5m := Lib.hid (F4m.out.belowW HB5.out)
          have F5x := Lib.hid (F4x.out.belowW HB5.out)
          have F5y := Lib.hid (F4y.out.belowW HB5.out)
          have HL5 := Lib.hid (HL4.out.trans (HB5.out.mono HL4.out.size))
          have FO := Lib.hid (Sl.one (x := 1) F5one.out (by unfold BB; omega))
          have HA1 := Lib.hid (show val (limbs Q) + val [1] = Q + 1 by rw [val_limbs, val_cons, val_nil, Nat.mul_zero])
          refine (rAdd C (some ⟨w4.heap.size, 0, none⟩) x xc 1 1 (limbs Q) [1] w5 F5x.out FO.out hxd o9).mono ?_
          rw [HA1.out]
          rintro e w6 ⟨G, g, gc, rfl, HG, HB6⟩
          have F6a := Lib.hid (F5a.out.belowW HB6.out)
          have F6r := Lib.hid (F5r.out.belowW HB6.out)
          have F6m := Lib.hid (F5m.out.belowW HB6.out)
          have F6x := Lib.hid (F5x.out.belowW HB6.out)
          have F6y := Lib.hid (F5y.out.belowW HB6.out)
          have F6one := Lib.hid (FO.out.belowW HB6.out)
          have HL6 := Lib.hid (HL5.out.trans (HB6.out.mono HL5.out.size))
          have F6g := Lib.hid (HG.out.sl)
          have hgg : g ≤ 200 := F6g.out.lim (by have := HQ1.out; omega)
          have hgb : g ≤ 1000000 := by omega
          obtain ⟨bs, hbs⟩ : ∃ b, blen (Q + 1) = b := ⟨_, rfl⟩
          have HBS := Lib.hid (show blen (val (limbs (Q + 1))) = bs by rw [val_limbs]; exact hbs)
          have hbs0 : 0 < bs := by rw [← hbs]; exact blen_pos (by omega)
          have hbs1 : bs ≤ 600 := by have := HQ1.out; omega
          have db1 : decide ((0 : Int) < (bs : Int)) = true := decide_eq_true (by omega)
          have db2 : decide (0 < bs) = true := decide_eq_true hbs0
          have s5 : IntKind.i64.wrap ((bs : Int) + e) = (bs : Int) + e := IntWalk.i64_in _ (by omega)
          have s6 : IntKind.i64.wrap ((bs : Int) + e + (K : Int)) = (bs : Int) + e + (K : Int) := IntWalk.i64_in _ (by omega)
          have db3 : decide (16384 < (bs : Int) + e + (K : Int)) = false := decide_eq_false (by omega)
          clear hbs
          go_wp2_with fail
          refine (rBits G g gc (limbs (Q + 1)) w6 F6g.out hgb).mono ?_
          rw [HBS.out]
          rintro e w' ⟨rfl, rfl⟩
          go_wp2_with fail
          refine (rBits G g gc (limbs (Q + 1)) w6 F6g.out hgb).mono ?_
          rw [HBS.out]
          rintro e w' ⟨rfl, rfl⟩
          go_wp2_with fail
          refine (uOf neg G g gc (limbs (Q + 1)) (e + (K : Int)) w6 F6g.out (by omega) hE1 hE2).mono ?_
          rw [val_limbs]
          rintro e w7 ⟨M, mn, mc', rfl, HMM, HB7⟩
          have F7a := Lib.hid (F6a.out.belowW HB7.out)
          have F7r := Lib.hid (F6r.out.belowW HB7.out)
          have F7m := Lib.hid (F6m.out.belowW HB7.out)
          have F7x := Lib.hid (F6x.out.belowW HB7.out)
          have F7y := Lib.hid (F6y.out.belowW HB7.out)
          have F7one := Lib.hid (F6one.out.belowW HB7.out)
          have F7g := Lib.hid (F6g.out.belowW HB7.out)
          have HL7 := Lib.hid (HL6.out.trans (HB7.out.mono HL6.out.size))
          have F7z := Lib.hid (HMM.out)
          obtain ⟨pr0, fr0, pr1, fr1, pr2, fr2⟩ := F7r.out.all3
          go_wp2_with fail
          refine bodyPost_ret (v := .tuple #[.agg #[.bool (canon neg (Q + 1) (e + (K : Int))).neg, .slice M mn mc', .int .i64 (canon neg (Q + 1) (e + (K : Int))).e], .int .i64 0]) (by simp [results, Tryz.results76, go_sem, pr0, pr1, pr2]) rfl ?_
          rw [HCZ9.out]
          exact ⟨M, mn, mc', rfl, Lib.hid (store3_sl F7z.out F7r.out noU3 _ _ _), Lib.hid (store3_below HL7.out F7r.out _ _ _ (Nat.le_refl _))⟩
        | false =>
          try have hout2 := hout
          try have hout3 : (!(neg == up)) = false := hout
          have HCZ9 := Lib.hid (show CX = canon neg (Q) (e + (K : Int)) by rw [HCX.out, hout]; rfl)
          obtain ⟨bs, hbs⟩ : ∃ b, blen (Q) = b := ⟨_, rfl⟩
          have HBS := Lib.hid (show blen (val (limbs (Q))) = bs by rw [val_limbs]; exact hbs)
          have hbs0 : 0 < bs := by rw [← hbs]; exact blen_pos HQ0.out
          have hbs1 : bs ≤ 600 := by have := HQB.out; omega
          have db1 : decide ((0 : Int) < (bs : Int)) = true := decide_eq_true (by omega)
          have db2 : decide (0 < bs) = true := decide_eq_true hbs0
          have s5 : IntKind.i64.wrap ((bs : Int) + e) = (bs : Int) + e := IntWalk.i64_in _ (by omega)
          have s6 : IntKind.i64.wrap ((bs : Int) + e + (K : Int)) = (bs : Int) + e + (K : Int) := IntWalk.i64_in _ (by omega)
          have db3 : decide (16384 < (bs : Int) + e + (K : Int)) = false := decide_eq_false (by omega)
          clear hbs
          go_wp2_with fail
          refine (rBits C x xc (limbs (Q)) w4 F4x.out hxb).mono ?_
          rw [HBS.out]
          rintro e w' ⟨rfl, rfl⟩
          go_wp2_with fail
          refine (rBits C x xc (limbs (Q)) w4 F4x.out hxb).mono ?_
          rw [HBS.out]
          rintro e w' ⟨rfl, rfl⟩
          go_wp2_with fail
          refine (uOf neg C x xc (limbs (Q)) (e + (K : Int)) w4 F4x.out (by omega) hE1 hE2).mono ?_
          rw [val_limbs]
          rintro e w5 ⟨M, mn, mc', rfl, HMM, HB5⟩
          have F5a := Lib.hid (F4a.out.belowW HB5.out)
          have F5r := Lib.hid (F4r.out.belowW HB5.out)
          have F5m := Lib.hid (F4m.out.belowW HB5.out)
          have F5x := Lib.hid (F4x.out.belowW HB5.out)
          have F5y := Lib.hid (F4y.out.belowW HB5.out)
          have HL5 := Lib.hid (HL4.out.trans (HB5.out.mono HL4.out.size))
          have F5z := Lib.hid (HMM.out)
          obtain ⟨pr0, fr0, pr1, fr1, pr2, fr2⟩ := F5r.out.all3
          go_wp2_with fail
          refine bodyPost_ret (v := .tuple #[.agg #[.bool (canon neg (Q) (e + (K : Int))).neg, .slice M mn mc', .int .i64 (canon neg (Q) (e + (K : Int))).e], .int .i64 0]) (by simp [results, Tryz.results76, go_sem, pr0, pr1, pr2]) rfl ?_
          rw [HCZ9.out]
          exact ⟨M, mn, mc', rfl, Lib.hid (store3_sl F5z.out F5r.out noU3 _ _ _), Lib.hid (store3_below HL5.out F5r.out _ _ _ (Nat.le_refl _))⟩
      | false =>
        cases hout : (neg != up) with
        | true =>
          try have hout2 := hout
          try have hout3 : (!(neg == up)) = true := hout
          have HCZ9 := Lib.hid (show CX = canon neg (Q) (e + (K : Int)) by rw [HCX.out, hout]; rfl)
          obtain ⟨bs, hbs⟩ : ∃ b, blen (Q) = b := ⟨_, rfl⟩
          have HBS := Lib.hid (show blen (val (limbs (Q))) = bs by rw [val_limbs]; exact hbs)
          have hbs0 : 0 < bs := by rw [← hbs]; exact blen_pos HQ0.out
          have hbs1 : bs ≤ 600 := by have := HQB.out; omega
          have db1 : decide ((0 : Int) < (bs : Int)) = true := decide_eq_true (by omega)
          have db2 : decide (0 < bs) = true := decide_eq_true hbs0
          have s5 : IntKind.i64.wrap ((bs : Int) + e) = (bs : Int) + e := IntWalk.i64_in _ (by omega)
          have s6 : IntKind.i64.wrap ((bs : Int) + e + (K : Int)) = (bs : Int) + e + (K : Int) := IntWalk.i64_in _ (by omega)
          have db3 : decide (16384 < (bs : Int) + e + (K : Int)) = false := decide_eq_false (by omega)
          clear hbs
          go_wp2_with fail
          refine (rBits C x xc (limbs (Q)) w4 F4x.out hxb).mono ?_
          rw [HBS.out]
          rintro e w' ⟨rfl, rfl⟩
          go_wp2_with fail
          refine (rBits C x xc (limbs (Q)) w4 F4x.out hxb).mono ?_
          rw [HBS.out]
          rintro e w' ⟨rfl, rfl⟩
          go_wp2_with fail
          refine (uOf neg C x xc (limbs (Q)) (e + (K : Int)) w4 F4x.out (by omega) hE1 hE2).mono ?_
          rw [val_limbs]
          rintro e w5 ⟨M, mn, mc', rfl, HMM, HB5⟩
          have F5a := Lib.hid (F4a.out.belowW HB5.out)
          have F5r := Lib.hid (F4r.out.belowW HB5.out)
          have F5m := Lib.hid (F4m.out.belowW HB5.out)
          have F5x := Lib.hid (F4x.out.belowW HB5.out)
          have F5y := Lib.hid (F4y.out.belowW HB5.out)
          have HL5 := Lib.hid (HL4.out.trans (HB5.out.mono HL4.out.size))
          have F5z := Lib.hid (HMM.out)
          obtain ⟨pr0, fr0, pr1, fr1, pr2, fr2⟩ := F5r.out.all3
          go_wp2_with fail
          refine bodyPost_ret (v := .tuple #[.agg #[.bool (canon neg (Q) (e + (K : Int))).neg, .slice M mn mc', .int .i64 (canon neg (Q) (e + (K : Int))).e], .int .i64 0]) (by simp [results, Tryz.results76, go_sem, pr0, pr1, pr2]) rfl ?_
          rw [HCZ9.out]
          exact ⟨M, mn, mc', rfl, Lib.hid (store3_sl F5z.out F5r.out noU3 _ _ _), Lib.hid (store3_below HL5.out F5r.out _ _ _ (Nat.le_refl _))⟩
        | false =>
          try have hout2 := hout
          try have hout3 : (!(neg == up)) = false := hout
          have HCZ9 := Lib.hid (show CX = canon neg (Q) (e + (K : Int)) by rw [HCX.out, hout]; rfl)
          obtain ⟨bs, hbs⟩ : ∃ b, blen (Q) = b := ⟨_, rfl⟩
          have HBS := Lib.hid (show blen (val (limbs (Q))) = bs by rw [val_limbs]; exact hbs)
          have hbs0 : 0 < bs := by rw [← hbs]; exact blen_pos HQ0.out
          have hbs1 : bs ≤ 600 := by have := HQB.out; omega
          have db1 : decide ((0 : Int) < (bs : Int)) = true := decide_eq_true (by omega)
          have db2 : decide (0 < bs) = true := decide_eq_true hbs0
          have s5 : IntKind.i64.wrap ((bs : Int) + e) = (bs : Int) + e := IntWalk.i64_in _ (by omega)
          have s6 : IntKind.i64.wrap ((bs : Int) + e + (K : Int)) = (bs : Int) + e + (K : Int) := IntWalk.i64_in _ (by omega)
          have db3 : decide (16384 < (bs : Int) + e + (K : Int)) = false := decide_eq_false (by omega)
          clear hbs
          go_wp2_with fail
          refine (rBits C x xc (limbs (Q)) w4 F4x.out hxb).mono ?_
          rw [HBS.out]
          rintro e w' ⟨rfl, rfl⟩
          go_wp2_with fail
          refine (rBits C x xc (limbs (Q)) w4 F4x.out hxb).mono ?_
          rw [HBS.out]
          rintro e w' ⟨rfl, rfl⟩
          go_wp2_with fail
          refine (uOf neg C x xc (limbs (Q)) (e + (K : Int)) w4 F4x.out (by omega) hE1 hE2).mono ?_
          rw [val_limbs]
          rintro e w5 ⟨M, mn, mc', rfl, HMM, HB5⟩
          have F5a := Lib.hid (F4a.out.belowW HB5.out)
          have F5r := Lib.hid (F4r.out.belowW HB5.out)
          have F5m := Lib.hid (F4m.out.belowW HB5.out)
          have F5x := Lib.hid (F4x.out.belowW HB5.out)
          have F5y := Lib.hid (F4y.out.belowW HB5.out)
          have HL5 := Lib.hid (HL4.out.trans (HB5.out.mono HL4.out.size))
          have F5z := Lib.hid (HMM.out)
          obtain ⟨pr0, fr0, pr1, fr1, pr2, fr2⟩ := F5r.out.all3
          go_wp2_with fail
          refine bodyPost_ret (v := .tuple #[.agg #[.bool (canon neg (Q) (e + (K : Int))).neg, .slice M mn mc', .int .i64 (canon neg (Q) (e + (K : Int))).e], .int .i64 0]) (by simp [results, Tryz.results76, go_sem, pr0, pr1, pr2]) rfl ?_
          rw [HCZ9.out]
          exact ⟨M, mn, mc', rfl, Lib.hid (store3_sl F5z.out F5r.out noU3 _ _ _), Lib.hid (store3_below HL5.out F5r.out _ _ _ (Nat.le_refl _))⟩
end Go.Proofs.YtffdkakogeofmaaGreatDoor
