/-
  The walk of the law RatioDecimals.
-/
import Derived.Test.YtnogfceojmnjiaaGreatDoorRaF
import Derived.Test.YtnogfceojmnjiaaGreatDoorRaP
import Derived.Test.YtnogfceojmnjiaaGreatDoorRatPlain7
import Derived.Laws.EntriesVeiled
set_option linter.unusedVariables false
namespace Go.Proofs.YtnogfceojmnjiaaGreatDoor
open Go.RowKit Go.Fl Go.Fl.Nm Go.Fl.Dy Go.Fl.Rt
/-- Zeros, then the digits. -/
def Pad (N : Nat) (S : ByteArray) : Prop := ∃ k, S.data.toList = List.replicate k 48 ++ Lib.decDigits N
theorem pad_next {N : Nat} {S : ByteArray} (h : Pad N S) : Pad N (⟨#[48]⟩ ++ S) := by
  obtain ⟨k, h⟩ := h
  exact ⟨k + 1, by rw [data_app, h, List.replicate_succ]; rfl⟩
theorem size_dec {A : ByteArray} {N : Nat} (h : A.data.toList = Lib.decDigits N) (hN : N < 100000000) : A.size ≤ 10 := by
  have e := dec_len9 (v := N) (by unfold MX; omega)
  rw [← h] at e
  simpa using e
theorem pow_le5 {j : Nat} (h : j ≤ 5) : 10 ^ j ≤ 100000 := Nat.pow_le_pow_right (by decide) h
theorem all_sub {l m : List UInt8} (h : l.all isDig = true) (hm : ∀ x ∈ m, x ∈ l) : m.all isDig = true :=
  List.all_eq_true.2 fun x hx => List.all_eq_true.1 h x (hm x hx)
theorem read_dec {N P b c : Nat} {S : ByteArray} (h : Pad N S) (hP : P = 10 ^ (1 + b)) (c1 : c ≤ S.size) (cpos : 0 < c) (cb : S.size - c = 1 + b) (zS : S.size ≤ 10) :
    read1 (S.extract 0 c ++ ⟨#[46]⟩ ++ S.extract c S.size).data.toList = make (N : Int) (P : Int) := by
  have e1 : (S.extract 0 c).data.toList = S.data.toList.take c := by rw [Lib.extract_data]; simp
  have e2 : (S.extract c S.size).data.toList = S.data.toList.drop c := by rw [Lib.extract_to_end]
  have hl : S.data.toList.length = S.size := by simp
  obtain ⟨k, h⟩ := h
  have hall : S.data.toList.all isDig = true := by
    rw [h, List.all_append, dec_digits, Bool.and_true, List.all_eq_true]
    intro x hx
    rw [List.eq_of_mem_replicate hx]
    decide
  have e3 : (S.extract 0 c ++ ⟨#[46]⟩ ++ S.extract c S.size).data.toList = S.data.toList.take c ++ 46 :: S.data.toList.drop c := by
    rw [data_app, data_app, e1, e2, List.append_assoc]
    rfl
  have lt : (S.data.toList.take c).length = c := by rw [List.length_take, hl]; omega
  have ld : (S.data.toList.drop c).length = 1 + b := by rw [List.length_drop, hl]; omega
  rw [e3, read_point (all_sub hall fun x hx => List.mem_of_mem_take hx) (all_sub hall fun x hx => List.mem_of_mem_drop hx) (fun e => by rw [e] at lt; simp at lt; omega) (fun e => by rw [e] at ld; simp at ld; omega) (by omega), List.take_append_drop, ld, h, dval_zeros, dval_dec, hP]
theorem size_T {S : ByteArray} {c : Nat} (zS : S.size ≤ 10) (c1 : c ≤ S.size) : (S.extract 0 c ++ ⟨#[46]⟩ ++ S.extract c S.size).size ≤ 1000 := by
  rw [ByteArray.size_append, ByteArray.size_append, ByteArray.size_extract, ByteArray.size_extract]
  show min c S.size - 0 + 1 + (min S.size S.size - c) ≤ 1000
  omega
theorem read_quo {N D : Nat} {A B : ByteArray} (hA : A.data.toList = Lib.decDigits N) (hB : B.data.toList = Lib.decDigits D) (hN : N < 100000000) (hD : D < 100000000) :
    read1 (⟨#[45]⟩ ++ A ++ ⟨#[47]⟩ ++ B).data.toList = make (-(N : Int)) (D : Int) := by
  have la := dec_len9 (v := N) (by unfold MX; omega)
  have lb := dec_len9 (v := D) (by unfold MX; omega)
  have e : (⟨#[45]⟩ ++ A ++ ⟨#[47]⟩ ++ B).data.toList = 45 :: (Lib.decDigits N ++ 47 :: Lib.decDigits D) := by
    rw [data_app, data_app, data_app, hA, hB, List.append_assoc, List.append_assoc]
    rfl
  rw [e, read_slash (dec_digits N) (dec_digits D) (dec_ne N) (dec_ne D) (by omega) (by omega), dval_dec, dval_dec]
theorem size_U {A B : ByteArray} (hA : A.size ≤ 10) (hB : B.size ≤ 10) : ((⟨#[45]⟩ : ByteArray) ++ A ++ ⟨#[47]⟩ ++ B).size ≤ 1000 := by
  rw [ByteArray.size_append, ByteArray.size_append, ByteArray.size_append]
  show 1 + A.size + 1 + B.size ≤ 1000
  omega
def szOf : Value → Nat
  | .string S => S.size
  | _ => 0
set_option maxHeartbeats 8000000 in
set_option maxRecDepth 100000 in
theorem ratioDecimals_any (n d k : Nat) (w : World) (hT : RX w) (hn : n < 4294967296) (hd : d < 4294967296) (hk : k < 256) :
    Calls Tryz.prog 5 #[.int .u32 n, .int .u32 d, .int .u8 k] w (Awk w) := by
  have HT := Lib.hid hT
  obtain ⟨N, hN⟩ : ∃ N, N = n % 100000000 := ⟨_, rfl⟩
  obtain ⟨D, hD⟩ : ∃ D, D = d % 100000000 := ⟨_, rfl⟩
  obtain ⟨b, hb⟩ : ∃ b, b = k % 4 := ⟨_, rfl⟩
  have eN : (n : Int) % 100000000 = (N : Int) := by omega
  have eD : (d : Int) % 100000000 = (D : Int) := by omega
  have eb : (k : Int) % 4 = (b : Int) := by omega
  have N1 : N < 100000000 := by omega
  have D1 : D < 100000000 := by omega
  have b1 : b < 4 := by omega
  have N2 : N < 4294967296 := by omega
  have D2 : D < 4294967296 := by omega
  clear hT hN hD hb
  go_enter Tryz.func5, Tryz.ntmps5
  go_wp2_with fail
  refine (awake_any w HT.out).mono ?_
  rintro e w1 ⟨rfl, HB1⟩
  have F1t := Lib.hid (HT.out.belowW HB1.out)
  go_wp2_with fail
  refine (digits_c N w1 N2).mono ?_
  rintro e w2 ⟨A, rfl, HA, HB2⟩
  have F2t := Lib.hid (F1t.out.belowW HB2.out)
  have HL2 := Lib.hid (HB1.out.trans (HB2.out.mono HB1.out.size))
  go_wp2_with fail
  have HP := Lib.hid (show Pad N A from ⟨0, by rw [HA.out]; rfl⟩)
  have zA : A.size ≤ 10 := size_dec HA.out N1
  clear HA
  go_loop [9] (fun s => ∃ S : ByteArray, s = .string S ∧ S.size ≤ 10 ∧ Hid (Pad N S)) (fun s => 10 - szOf s)
  case atStart => exact ⟨A, rfl, zA, HP⟩
  case round =>
    obtain ⟨S, rfl, zS, HS⟩ := hrel
    clear HP zA
    by_cases hc : S.size ≤ 1 + b
    · have dc : decide ((S.size : Int) ≤ 1 + (b : Int)) = true := decide_eq_true (by omega)
      have z1 : ¬ 9223372036854775807 < 1 + S.size := by omega
      have HN := Lib.hid (pad_next HS.out)
      go_wp2_with fail
      refine ⟨⟨⟨#[48]⟩ ++ S, rfl, ?_, HN⟩, ?_⟩
      · rw [ByteArray.size_append]; show 1 + S.size ≤ 10; omega
      · show 10 - (⟨#[48]⟩ ++ S : ByteArray).size < 10 - S.size
        rw [ByteArray.size_append]
        show 10 - (1 + S.size) < 10 - S.size
        omega
    · have dc : decide ((S.size : Int) ≤ 1 + (b : Int)) = false := decide_eq_false (by omega)
      go_wp2_with fail
      go_loop [10, 39] (fun p i => ∃ (j P : Nat), j ≤ 1 + b ∧ p = .int .i64 P ∧ i = .int .i64 j ∧ Hid (P = 10 ^ j)) (fun _ i => 5 - (intOf i).toNat)
      case atStart => exact ⟨0, 1, by omega, rfl, rfl, Lib.hid rfl⟩
      case round =>
        obtain ⟨j, P, hj, rfl, rfl, HPj⟩ := hrel
        have p1 : P ≤ 100000 := by rw [HPj.out]; exact pow_le5 (by omega)
        by_cases hjb : j < 1 + b
        · have dj : decide ((j : Int) < 1 + (b : Int)) = true := decide_eq_true (by omega)
          have HN := Lib.hid (show P * 10 = 10 ^ (j + 1) by rw [HPj.out, Nat.pow_succ])
          go_wp2_with fail
          refine ⟨⟨j + 1, P * 10, by omega, ?_, by go_num, HN⟩, ?_⟩
          · go_num
          · simp [intOf]; omega
        · have dj : decide ((j : Int) < 1 + (b : Int)) = false := decide_eq_false (by omega)
          obtain rfl : j = 1 + b := by omega
          go_wp2_with fail
          obtain ⟨c, hc2⟩ : ∃ c, c = S.size - (1 + b) := ⟨_, rfl⟩
          have c1 : c ≤ S.size := by omega
          have ec : IntKind.i64.wrap ((S.size : Int) - (1 + (b : Int))) = (S.size : Int) - (1 + (b : Int)) := by rw [IntKind.wrap_i64]; omega
          have c2 : (0 : Int) ≤ (S.size : Int) - (1 + (b : Int)) := by omega
          have c3 : (S.size : Int) - (1 + (b : Int)) ≤ (S.size : Int) := by omega
          have c4 : 1 + (b : Int) ≤ (S.size : Int) := by omega
          have c5 : ((S.size : Int) - (1 + (b : Int))).toNat = c := by omega
          have c6 : ¬ 9223372036854775807 < c + 1 := by omega
          have c7 : ¬ 9223372036854775807 < c + 1 + (S.size - c) := by omega
          have cpos : 0 < c := by omega
          have cb : S.size - c = 1 + b := by omega
          clear hc2 hj hjb dj hc dc
          obtain ⟨T, hTt⟩ : ∃ z : ByteArray, z = S.extract 0 c ++ ⟨#[46]⟩ ++ S.extract c S.size := ⟨_, rfl⟩
          obtain ⟨mn, md, me, hm⟩ : ∃ x y z, make (N : Int) (P : Int) = (x, y, z) := ⟨_, _, _, rfl⟩
          have HM := Lib.hid hm
          have HR := Lib.hid (show read1 T.data.toList = (mn, md, me) by rw [← hm, hTt]; exact read_dec HS.out HPj.out c1 cpos cb zS)
          have zT : T.size ≤ 1000 := by rw [hTt]; exact size_T zS c1
          have KP := Lib.hid (fun w h => parse_any' T w h zT)
          have eT : S.extract 0 c ++ ⟨#[46]⟩ ++ S.extract c S.size = T := hTt.symm
          have TP := Lib.hid (show RX w2.drew from F2t.out.belowW (below_drewN (Below.refl _ _) 1))
          have TQ := Lib.hid (show RX (w2.alloc (.cells #[.int .i64 0, .int .i64 0] 23)).drew from F2t.out.belowW (below_drewN (below_a1 _ _) 1))
          clear hm hTt cpos cb
          go_cut [11, 12] (fun p e wx => ∃ g, p = .pointer (some ⟨g, 0, none⟩) ∧ e = .int .i64 me ∧ Hid (Blk wx g 23 #[.int .i64 mn, .int .i64 md]) ∧ Hid (Below w2.heap.size w2 wx))
          case first =>
            go_region_held3 (fun w' => True) (trivial) (first
              | (go_at_call 17
                 first
                 | ((with_reducible refine (KP.out _ TP.out).mono ?_)
                    rw [HR.out]
                    rintro e x1 ⟨rfl, HX⟩
                    have H1 := Lib.hid (show Below w2.heap.size w2 x1 from ⟨HX.out.os, HX.out.tape, HX.out.output, HX.out.size, HX.out.block⟩))
                 | ((with_reducible refine (KP.out _ TQ.out).mono ?_)
                    rw [HR.out]
                    rintro e x1 ⟨rfl, HX⟩
                    have ZB := Lib.hid (show Blk x1 w2.heap.size 23 #[.int .i64 0, .int .i64 0] from ((Blk.new _ _ _).drewN 1).belowW HX.out)
                    have z0 : x1.cell? ⟨w2.heap.size, 0, none⟩ = some (.int .i64 0) := ZB.out.cell 0
                    have z1 : x1.cell? ⟨w2.heap.size, 1, none⟩ = some (.int .i64 0) := ZB.out.cell 1
                    have y0 : x1.frozen? ⟨w2.heap.size, 0, none⟩ = false := ZB.out.frozen 0
                    have y1 : x1.frozen? ⟨w2.heap.size, 1, none⟩ = false := ZB.out.frozen 1
                    have H1 := Lib.hid (show Below w2.heap.size w2 x1 from below_ad HX.out))))
            all_goals go_wp2_with fail
            all_goals
              first
              | (rw [store2_put ZB.out]
                 go_meet
                 exact ⟨w2.heap.size, rfl, rfl, Lib.hid (ZB.out.put _), Lib.hid (H1.out.trans (putB_below _ _ _ _ (Nat.le_refl _)))⟩)
              | (go_meet
                 exact ⟨x1.heap.size, rfl, rfl, Lib.hid (Blk.new _ _ _), Lib.hid (H1.out.trans ((below_a1 _ _).mono H1.out.size))⟩)
          case rest =>
            obtain ⟨ga, rfl, rfl, FA3, HB3⟩ := hcut
            obtain ⟨w3, hw⟩ : ∃ z9 : World, z9 = wc := ⟨_, rfl⟩
            rw [← hw] at FA3 HB3 ⊢
            clear hw
            have F3t := Lib.hid (F2t.out.belowW HB3.out)
            have HL3 := Lib.hid (HL2.out.trans (HB3.out.mono HL2.out.size))
            clear ec c1 c2 c3 c4 c5 c6 c7 eT KP zT HR TP TQ
            go_wp2_with fail
            refine (make_q N P w3 (by omega) (by omega) (by omega) (by omega)).mono ?_
            rw [HM.out]
            rintro e w4 ⟨rfl, HB4⟩
            have F4t := Lib.hid (F3t.out.belowW HB4.out)
            have F4a := Lib.hid (FA3.out.belowW HB4.out)
            have HL4 := Lib.hid (HL3.out.trans (HB4.out.mono HL3.out.size))
            go_upto_region 16 with (fail)
            obtain ⟨w5, hw⟩ : ∃ z9 : World, z9 = w4.alloc (.cells #[.int .i64 mn, .int .i64 md] 23) := ⟨_, rfl⟩
            have HB5 := Lib.hid (show Below w4.heap.size w4 w5 by rw [hw]; exact below_a1 _ _)
            have F5v := Lib.hid (show Blk w5 w4.heap.size 23 #[.int .i64 mn, .int .i64 md] by rw [hw]; exact Blk.new _ _ _)
            rw [← hw]
            clear hw
            have F5t := Lib.hid (F4t.out.belowW HB5.out)
            have F5a := Lib.hid (F4a.out.belowW HB5.out)
            have HL5 := Lib.hid (HL4.out.trans (HB5.out.mono HL4.out.size))
            go_wp2_with fail
            refine (digits_c N w5 N2).mono ?_
            rintro e w6 ⟨A2, rfl, HA2, HB6⟩
            have F6t := Lib.hid (F5t.out.belowW HB6.out)
            have F6a := Lib.hid (F5a.out.belowW HB6.out)
            have F6v := Lib.hid (F5v.out.belowW HB6.out)
            have HL6 := Lib.hid (HL5.out.trans (HB6.out.mono HL5.out.size))
            have zA2 : A2.size ≤ 10 := size_dec HA2.out N1
            have y1 : ¬ 9223372036854775807 < 1 + A2.size := by omega
            have y2 : ¬ 9223372036854775807 < 1 + A2.size + 1 := by omega
            go_wp2_with fail
            refine (digits_c D w6 D2).mono ?_
            rintro e w7 ⟨B2, rfl, KD2, HB7⟩
            have F7t := Lib.hid (F6t.out.belowW HB7.out)
            have F7a := Lib.hid (F6a.out.belowW HB7.out)
            have F7v := Lib.hid (F6v.out.belowW HB7.out)
            have HL7 := Lib.hid (HL6.out.trans (HB7.out.mono HL6.out.size))
            have zB2 : B2.size ≤ 10 := size_dec KD2.out D1
            have y3 : ¬ 9223372036854775807 < 1 + A2.size + 1 + B2.size := by omega
            obtain ⟨qn, qd, qe, hq⟩ : ∃ x y z, make (-(N : Int)) (D : Int) = (x, y, z) := ⟨_, _, _, rfl⟩
            have HQ := Lib.hid hq
            obtain ⟨U, hU⟩ : ∃ z : ByteArray, z = ⟨#[45]⟩ ++ A2 ++ ⟨#[47]⟩ ++ B2 := ⟨_, rfl⟩
            have eU : (⟨#[45]⟩ : ByteArray) ++ A2 ++ ⟨#[47]⟩ ++ B2 = U := hU.symm
            have HRU := Lib.hid (show read1 U.data.toList = (qn, qd, qe) by rw [← hq, hU]; exact read_quo HA2.out KD2.out N1 D1)
            have zU : U.size ≤ 1000 := by rw [hU]; exact size_U zA2 zB2
            clear hq hU
            go_wp2_with fail
            refine (parse_any' U w7 F7t.out zU).mono ?_
            rw [HRU.out]
            rintro e w8 ⟨rfl, HB8⟩
            have F8t := Lib.hid (F7t.out.belowW HB8.out)
            have F8a := Lib.hid (F7a.out.belowW HB8.out)
            have F8v := Lib.hid (F7v.out.belowW HB8.out)
            have HL8 := Lib.hid (HL7.out.trans (HB8.out.mono HL7.out.size))
            go_upto_region 17 with (fail)
            obtain ⟨w9, hw⟩ : ∃ z9 : World, z9 = w8.alloc (.cells #[.int .i64 qn, .int .i64 qd] 23) := ⟨_, rfl⟩
            have HB9 := Lib.hid (show Below w8.heap.size w8 w9 by rw [hw]; exact below_a1 _ _)
            have F9b := Lib.hid (show Blk w9 w8.heap.size 23 #[.int .i64 qn, .int .i64 qd] by rw [hw]; exact Blk.new _ _ _)
            rw [← hw]
            clear hw
            have F9t := Lib.hid (F8t.out.belowW HB9.out)
            have F9a := Lib.hid (F8a.out.belowW HB9.out)
            have F9v := Lib.hid (F8v.out.belowW HB9.out)
            have HL9 := Lib.hid (HL8.out.trans (HB9.out.mono HL8.out.size))
            go_wp2_with fail
            refine (make_q (-(N : Int)) D w9 (by omega) (by omega) (by omega) (by omega)).mono ?_
            rw [HQ.out]
            rintro e w10 ⟨rfl, HB10⟩
            have F10t := Lib.hid (F9t.out.belowW HB10.out)
            have F10a := Lib.hid (F9a.out.belowW HB10.out)
            have F10v := Lib.hid (F9v.out.belowW HB10.out)
            have F10b := Lib.hid (F9b.out.belowW HB10.out)
            have HL10 := Lib.hid (HL9.out.trans (HB10.out.mono HL9.out.size))
            go_upto_region 18 with (fail)
            obtain ⟨w11, hw⟩ : ∃ z9 : World, z9 = w10.alloc (.cells #[.int .i64 qn, .int .i64 qd] 23) := ⟨_, rfl⟩
            have HB11 := Lib.hid (show Below w10.heap.size w10 w11 by rw [hw]; exact below_a1 _ _)
            have F11q := Lib.hid (show Blk w11 w10.heap.size 23 #[.int .i64 qn, .int .i64 qd] by rw [hw]; exact Blk.new _ _ _)
            rw [← hw]
            clear hw
            have F11t := Lib.hid (F10t.out.belowW HB11.out)
            have F11a := Lib.hid (F10a.out.belowW HB11.out)
            have F11v := Lib.hid (F10v.out.belowW HB11.out)
            have F11b := Lib.hid (F10b.out.belowW HB11.out)
            have HL11 := Lib.hid (HL10.out.trans (HB11.out.mono HL10.out.size))
            have pa0 : (w11).cell? ⟨ga, 0, none⟩ = some (.int .i64 mn) := F11a.out.cell 0
            have fa0 : (w11).frozen? ⟨ga, 0, none⟩ = false := F11a.out.frozen 0
            have pa1 : (w11).cell? ⟨ga, 1, none⟩ = some (.int .i64 md) := F11a.out.cell 1
            have fa1 : (w11).frozen? ⟨ga, 1, none⟩ = false := F11a.out.frozen 1
            have pv0 : (w11).cell? ⟨w4.heap.size, 0, none⟩ = some (.int .i64 mn) := F11v.out.cell 0
            have fv0 : (w11).frozen? ⟨w4.heap.size, 0, none⟩ = false := F11v.out.frozen 0
            have pv1 : (w11).cell? ⟨w4.heap.size, 1, none⟩ = some (.int .i64 md) := F11v.out.cell 1
            have fv1 : (w11).frozen? ⟨w4.heap.size, 1, none⟩ = false := F11v.out.frozen 1
            have pb0 : (w11).cell? ⟨w8.heap.size, 0, none⟩ = some (.int .i64 qn) := F11b.out.cell 0
            have fb0 : (w11).frozen? ⟨w8.heap.size, 0, none⟩ = false := F11b.out.frozen 0
            have pb1 : (w11).cell? ⟨w8.heap.size, 1, none⟩ = some (.int .i64 qd) := F11b.out.cell 1
            have fb1 : (w11).frozen? ⟨w8.heap.size, 1, none⟩ = false := F11b.out.frozen 1
            have pq0 : (w11).cell? ⟨w10.heap.size, 0, none⟩ = some (.int .i64 qn) := F11q.out.cell 0
            have fq0 : (w11).frozen? ⟨w10.heap.size, 0, none⟩ = false := F11q.out.frozen 0
            have pq1 : (w11).cell? ⟨w10.heap.size, 1, none⟩ = some (.int .i64 qd) := F11q.out.cell 1
            have fq1 : (w11).frozen? ⟨w10.heap.size, 1, none⟩ = false := F11q.out.frozen 1
            go_wp2_with fail
            go_ret
            exact ⟨rfl, HL11⟩
end Go.Proofs.YtnogfceojmnjiaaGreatDoor
