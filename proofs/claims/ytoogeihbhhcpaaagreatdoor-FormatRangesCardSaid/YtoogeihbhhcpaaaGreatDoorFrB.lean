/-
  The walks of the reference's text of an interval, and of the program's text of All.
-/
import Derived.Test.YtoogeihbhhcpaaaGreatDoorFrA
import Derived.Test.YtoogeihbhhcpaaaGreatDoorPkJ
import Derived.Deep.QuietTactic
import Derived.BigQuiet
set_option linter.unusedVariables false
namespace Go.Proofs.YtoogeihbhhcpaaaGreatDoor
open Go.RowKit Go.Fl Go.Fl.Nm Go.Fl.Dy
theorem rText_to (A : Option Addr) (n c : Nat) (a : List Nat) (L : List UInt8) (w : World) (ha : Sl w A n c a) (hn : n ≤ 100) (hL : Go.Lib.decDigits (val a) = L) :
    Calls Tryz.prog 118 #[.slice A n c] w (Ret (.string ⟨L.toArray⟩) w) := by
  rw [← hL]
  exact rText A n c a w ha hn
set_option maxHeartbeats 4000000 in
theorem number11 (neg : Bool) (A : Option Addr) (n c : Nat) (l : List Nat) (q : Nat) (w : World) (h : Sl w A n c l) (hn : n ≤ 100) (hq : q ≤ 1000) :
    Calls Tryz.prog 74 #[.slice A n c, .bool neg, .int .i64 q] w (Ret (.string ⟨(textD neg (val l) q).toArray⟩) w) := by
  have H := Lib.hid h
  obtain ⟨L, hL⟩ : ∃ L, Go.Lib.decDigits (val l) = L := ⟨_, rfl⟩
  have HLL := Lib.hid hL
  have HLB := Lib.hid (show L.length ≤ 100000 by
    rw [← hL]
    have h1 := val_lt h.ok
    rw [h.len, BB_pow, ← Nat.pow_mul] at h1
    exact dec_len_le (n := n) (N := 99999) (by rw [BB_pow, ← Nat.pow_mul]; exact h1) (by omega))
  have hlb := HLB.out
  clear h hL
  go_enter Tryz.func74, Tryz.ntmps74
  go_wp2_with fail
  refine (rText_to A n c l L w H.out hn HLL.out).mono ?_
  rintro e w1 ⟨rfl, HB1⟩
  have F1a := Lib.hid (H.out.belowW HB1.out)
  go_wp2_with fail
  go_loopg [7] (q + 2 - L.length) (TxtRel L q w1)
  case atStart => exact ⟨0, ⟨L.toArray⟩, rfl, Lib.hid (by simp), Lib.hid (by simp [ByteArray.size]), .inl rfl, by simp [ByteArray.size], Lib.hid rfl⟩
  case round =>
    obtain ⟨j, S, rfl, HS, HSZ, hj, hk, hwr⟩ := hrel
    have hSb : S.size ≤ 300000 := by have := HSZ.out; omega
    by_cases hle : S.size ≤ q
    · have d1 : decide ((S.size : Int) ≤ (q : Int)) = true := decide_eq_true (by omega)
      have d1' : decide (S.size ≤ q) = true := decide_eq_true hle
      go_wp2_with fail
      go_roundg (q + 2 - (S.size + 1))
      case measure => omega
      case rel =>
        refine ⟨j + 1, ⟨#[48]⟩ ++ S, rfl, Lib.hid ?_, Lib.hid ?_, .inr (by have := HSZ.out; omega), ?_, hwr⟩
        · rw [ByteArray.data_append, Array.toList_append, HS.out, List.replicate_succ]; rfl
        · rw [ByteArray.size_append, HSZ.out, show (⟨#[48]⟩ : ByteArray).size = 1 from rfl]; omega
        · rw [ByteArray.size_append, show (⟨#[48]⟩ : ByteArray).size = 1 from rfl]; omega
    · obtain rfl : w1 = wr := hwr.out.symm
      have d1 : decide ((S.size : Int) ≤ (q : Int)) = false := decide_eq_false (by omega)
      have d1' : decide (S.size ≤ q) = false := decide_eq_false hle
      have hjq : j = q + 1 - L.length := by have := HSZ.out; omega
      by_cases hq0 : q = 0
      case pos =>
        have d2 : decide ((0 : Int) < (q : Int)) = false := decide_eq_false (by omega)
        have d2' : decide (0 < q) = false := decide_eq_false (by omega)
        have HX := Lib.hid (show S.data.toList = ptD q (padD q L) by rw [hq0] at hjq ⊢; exact text_zero HS.out hjq)
        clear hjq hk hle hj hq0
        cases neg with
        | false =>
          go_wp2_with fail
          go_ret
          exact ⟨ret_str (ba_list (by rw [HX.out]; unfold textD; rw [HLL.out]; rfl)), HB1⟩
        | true =>
          go_wp2_with fail
          go_ret
          exact ⟨ret_str (ba_list (by rw [neg_text HX.out]; unfold textD; rw [HLL.out]; rfl)), HB1⟩
      case neg =>
        have d2 : decide ((0 : Int) < (q : Int)) = true := decide_eq_true (by omega)
        have d2' : decide (0 < q) = true := decide_eq_true (by omega)
        obtain ⟨z, hz⟩ : ∃ z, S.size - q = z := ⟨_, rfl⟩
        have hzi : (S.size : Int) - (q : Int) = (z : Int) := by omega
        have hzw : IntKind.i64.wrap ((S.size : Int) - (q : Int)) = (z : Int) := by rw [hzi]; exact IntWalk.i64_in _ (by omega)
        have hzz : IntKind.i64.wrap (z : Int) = (z : Int) := IntWalk.i64_in _ (by omega)
        have hz0 : (0 : Int) ≤ (z : Int) := by omega
        have hz1 : (z : Int) ≤ (S.size : Int) := by omega
        have hz2 : z ≤ S.size := by omega
        have HX := Lib.hid (text_point HS.out hjq (by omega) hz)
        have hzb : z ≤ 300000 := by omega
        have e1 : (S.extract 0 z).size = z := by rw [ByteArray.size_extract]; omega
        obtain ⟨y, hy⟩ : ∃ y, S.size - z = y := ⟨_, rfl⟩
        have hyb : y ≤ 300000 := by omega
        have e3 : (S.extract z S.size).size = y := by rw [ByteArray.size_extract]; omega
        clear hjq hk hle hj hz hq0 hy
        go_wp2_with fail
        go_quiet (fail)
        cases neg with
        | false =>
          go_wp2_with fail
          go_ret
          exact ⟨ret_str (ba_list (by rw [HX.out]; unfold textD; rw [HLL.out]; rfl)), Lib.hid (below_drewN HB1.out _)⟩
        | true =>
          go_wp2_with fail
          go_ret
          exact ⟨ret_str (ba_list (by rw [neg_text HX.out]; unfold textD; rw [HLL.out]; rfl)), Lib.hid (below_drewN HB1.out _)⟩

set_option maxHeartbeats 4000000 in
theorem text11_at (x y : D) (A : Option Addr) (n c : Nat) (B : Option Addr) (m d q : Nat) (w : World) (hx : Sl w A n c (limbs x.k)) (hy : Sl w B m d (limbs y.k)) (vx : vld x) (vy : vld y) (hc : cmpD x y ≤ 0) (hq : q ≤ 50) :
    Calls Tryz.prog 35 #[.agg #[.bool x.neg, .slice A n c, .int .i64 x.e, .bool y.neg, .slice B m d, .int .i64 y.e, .bool false], .int .i64 q] w (Ret (.string ⟨(txtI x y q).toArray⟩) w) := by
  have H1 := Lib.hid hx
  have H2 := Lib.hid hy
  have VX := Lib.hid vx
  have VY := Lib.hid vy
  have HVI := Lib.hid (vldIB_of vx vy hc)
  have dq1 : decide ((q : Int) < 0) = false := decide_eq_false (by omega)
  have dq2 : decide ((50 : Int) < (q : Int)) = false := decide_eq_false (by omega)
  obtain ⟨tx, htx⟩ : ∃ t, decide (topB x ≤ 1000) = t := ⟨_, rfl⟩
  obtain ⟨ty, hty⟩ : ∃ t, decide (topB y ≤ 1000) = t := ⟨_, rfl⟩
  have HTX := Lib.hid htx
  have HTY := Lib.hid hty
  clear hx hy vx vy hc htx hty
  go_enter Tryz.func35, Tryz.ntmps35
  go_wp2_with fail
  obtain ⟨w1, hw⟩ : ∃ z9 : World, z9 = (w.alloc (.cells #[.bool x.neg, .slice A n c, .int .i64 x.e, .bool y.neg, .slice B m d, .int .i64 y.e, .bool false] 42)) := ⟨_, rfl⟩
  have HB1 := Lib.hid (show Below w.heap.size w w1 by rw [hw]; exact below_a1 _ _)
  have F1a := Lib.hid (H1.out.belowW HB1.out)
  have F1b := Lib.hid (H2.out.belowW HB1.out)
  have F1x := Lib.hid (show Blk w1 (w.heap.size) 42 #[.bool x.neg, .slice A n c, .int .i64 x.e, .bool y.neg, .slice B m d, .int .i64 y.e, .bool false] by rw [hw]; exact Blk.new _ _ _)
  rw [← hw]
  clear hw
  obtain ⟨px0, fx0, px1, fx1, px2, fx2, px3, fx3, px4, fx4, px5, fx5, px6, fx6⟩ := F1x.out.all7
  go_wp2_with fail
  refine (ivalid05_any x.neg A n c x.e (limbs x.k) y.neg B m d y.e (limbs y.k) false w1 F1a.out F1b.out).mono ?_
  rw [HVI.out]
  rintro e w2 ⟨rfl, HB2⟩
  have F2a := Lib.hid (F1a.out.belowW HB2.out)
  have F2b := Lib.hid (F1b.out.belowW HB2.out)
  have F2x := Lib.hid (F1x.out.belowW HB2.out)
  have HL2 := Lib.hid (HB1.out.trans (HB2.out.mono HB1.out.size))
  clear px0 fx0 px1 fx1 px2 fx2 px3 fx3 px4 fx4 px5 fx5 px6 fx6
  obtain ⟨px0, fx0, px1, fx1, px2, fx2, px3, fx3, px4, fx4, px5, fx5, px6, fx6⟩ := F2x.out.all7
  go_wp2_with fail
  refine (writable11 x A n c w2 F2a.out VX.out).mono ?_
  rw [HTX.out]
  rintro e w3 ⟨rfl, HB3⟩
  have F3a := Lib.hid (F2a.out.belowW HB3.out)
  have F3b := Lib.hid (F2b.out.belowW HB3.out)
  have F3x := Lib.hid (F2x.out.belowW HB3.out)
  have HL3 := Lib.hid (HL2.out.trans (HB3.out.mono HL2.out.size))
  clear px0 fx0 px1 fx1 px2 fx2 px3 fx3 px4 fx4 px5 fx5 px6 fx6
  obtain ⟨px0, fx0, px1, fx1, px2, fx2, px3, fx3, px4, fx4, px5, fx5, px6, fx6⟩ := F3x.out.all7
  cases tx with
  | false =>
    go_wp2_with fail
    go_ret
    exact ⟨ret_str (ba_list (by unfold txtI; rw [if_neg (fun h => by have := HTX.out; rw [decide_eq_true h.1] at this; cases this)])), HL3⟩
  | true =>
    go_wp2_with fail
    refine (writable11 y B m d w3 F3b.out VY.out).mono ?_
    rw [HTY.out]
    rintro e w4 ⟨rfl, HB4⟩
    have F4a := Lib.hid (F3a.out.belowW HB4.out)
    have F4b := Lib.hid (F3b.out.belowW HB4.out)
    have F4x := Lib.hid (F3x.out.belowW HB4.out)
    have HL4 := Lib.hid (HL3.out.trans (HB4.out.mono HL3.out.size))
    clear px0 fx0 px1 fx1 px2 fx2 px3 fx3 px4 fx4 px5 fx5 px6 fx6
    obtain ⟨px0, fx0, px1, fx1, px2, fx2, px3, fx3, px4, fx4, px5, fx5, px6, fx6⟩ := F4x.out.all7
    cases ty with
    | false =>
      go_wp2_with fail
      go_ret
      exact ⟨ret_str (ba_list (by unfold txtI; rw [if_neg (fun h => by have := HTY.out; rw [decide_eq_true h.2] at this; cases this)])), HL4⟩
    | true =>
      go_wp2_with fail
      have TX := Lib.hid (of_decide_eq_true HTX.out)
      have TY := Lib.hid (of_decide_eq_true HTY.out)
      have BX1 := Lib.hid (top_bd VX.out TX.out)
      have BY1 := Lib.hid (top_bd VY.out TY.out)
      have hq51 : q ≤ 51 := by omega
      have hq1000 : q ≤ 1000 := by omega
      have QX := Lib.hid (show blen (scQ x q false) ≤ 32 * 100 from Nat.le_trans (scQ_small hq51 TX.out) (by omega))
      have QY := Lib.hid (show blen (scQ y q true) ≤ 32 * 100 from Nat.le_trans (scQ_small hq51 TY.out) (by omega))
      have HF := Lib.hid (show txtI x y q = textI x y q by unfold txtI; rw [if_pos ⟨TX.out, TY.out⟩])
      obtain ⟨T1, hT1⟩ : ∃ t, textD (scN x q false) (scQ x q false) q = t := ⟨_, rfl⟩
      obtain ⟨T2, hT2⟩ : ∃ t, textD (scN y q true) (scQ y q true) q = t := ⟨_, rfl⟩
      have l1 : T1.length ≤ 9000 := by rw [← hT1]; have h1 := text_len (scN x q false) (scQ x q false) q; have h2 := dec_bits (N := 8191) (Nat.le_trans QX.out (by omega)); omega
      have l2 : T2.length ≤ 9000 := by rw [← hT2]; have h1 := text_len (scN y q true) (scQ y q true) q; have h2 := dec_bits (N := 8191) (Nat.le_trans QY.out (by omega)); omega
      have hs1 : ¬ 9223372036854775807 < 1 + T1.length := by omega
      have hs2 : ¬ 9223372036854775807 < 1 + T1.length + 2 := by omega
      have hs3 : ¬ 9223372036854775807 < 1 + T1.length + 2 + T2.length := by omega
      have hs4 : ¬ 9223372036854775807 < 1 + T1.length + 2 + T2.length + 1 := by omega
      have HT1 := Lib.hid hT1
      have HT2 := Lib.hid hT2
      clear hT1 hT2
      clear px0 fx0 px1 fx1 px2 fx2 px3 fx3 px4 fx4 px5 fx5 px6 fx6
      obtain ⟨px0, fx0, px1, fx1, px2, fx2, px3, fx3, px4, fx4, px5, fx5, px6, fx6⟩ := F4x.out.all7
      go_wp2_with fail
      refine (floordown x A n c q w4 F4a.out VX.out hq51 TX.out).mono ?_
      rintro e w5 ⟨P, p, pc, rfl, HP, HB5⟩
      have F5a := Lib.hid (F4a.out.belowW HB5.out)
      have F5b := Lib.hid (F4b.out.belowW HB5.out)
      have F5x := Lib.hid (F4x.out.belowW HB5.out)
      have HL5 := Lib.hid (HL4.out.trans (HB5.out.mono HL4.out.size))
      have F5p := Lib.hid (HP.out)
      have hp : p ≤ 100 := HP.out.lim QX.out
      clear px0 fx0 px1 fx1 px2 fx2 px3 fx3 px4 fx4 px5 fx5 px6 fx6
      obtain ⟨px0, fx0, px1, fx1, px2, fx2, px3, fx3, px4, fx4, px5, fx5, px6, fx6⟩ := F5x.out.all7
      go_wp2_with fail
      refine (floorup y B m d q w5 F5b.out VY.out hq51 TY.out).mono ?_
      rintro e w6 ⟨Q, r, rc, rfl, HQ, HB6⟩
      have F6a := Lib.hid (F5a.out.belowW HB6.out)
      have F6b := Lib.hid (F5b.out.belowW HB6.out)
      have F6x := Lib.hid (F5x.out.belowW HB6.out)
      have F6p := Lib.hid (F5p.out.belowW HB6.out)
      have HL6 := Lib.hid (HL5.out.trans (HB6.out.mono HL5.out.size))
      have F6r := Lib.hid (HQ.out)
      have hr : r ≤ 100 := HQ.out.lim QY.out
      clear px0 fx0 px1 fx1 px2 fx2 px3 fx3 px4 fx4 px5 fx5 px6 fx6
      go_wp2_with fail
      refine (number11 (scN x q false) P p pc (limbs (scQ x q false)) q w6 F6p.out hp hq1000).mono ?_
      rw [val_limbs, HT1.out]
      rintro e w7 ⟨rfl, HB7⟩
      have F7a := Lib.hid (F6a.out.belowW HB7.out)
      have F7b := Lib.hid (F6b.out.belowW HB7.out)
      have F7x := Lib.hid (F6x.out.belowW HB7.out)
      have F7p := Lib.hid (F6p.out.belowW HB7.out)
      have F7r := Lib.hid (F6r.out.belowW HB7.out)
      have HL7 := Lib.hid (HL6.out.trans (HB7.out.mono HL6.out.size))
      go_wp2_with fail
      refine (number11 (scN y q true) Q r rc (limbs (scQ y q true)) q w7 F7r.out hr hq1000).mono ?_
      rw [val_limbs, HT2.out]
      rintro e w8 ⟨rfl, HB8⟩
      have F8a := Lib.hid (F7a.out.belowW HB8.out)
      have F8b := Lib.hid (F7b.out.belowW HB8.out)
      have F8x := Lib.hid (F7x.out.belowW HB8.out)
      have F8p := Lib.hid (F7p.out.belowW HB8.out)
      have F8r := Lib.hid (F7r.out.belowW HB8.out)
      have HL8 := Lib.hid (HL7.out.trans (HB8.out.mono HL7.out.size))
      go_wp2_with fail
      go_ret
      exact ⟨ret_str (ba_list (by rw [HF.out]; unfold textI; rw [HT1.out, HT2.out]; simp)), HL8⟩

set_option maxHeartbeats 1000000 in
theorem dText_all (na : Bool) (A : Option Addr) (n c : Nat) (ea : Int) (l : List Nat) (na' : Bool) (A' : Option Addr) (n' c' : Nat) (ea' : Int) (l' : List Nat) (q : Nat) (w : World) (h : Sl w A n c l) (h' : Sl w A' n' c' l') (hv : vldIB na l ea na' l' ea' true = true) (hq : q ≤ 50) :
    Calls Tryz.prog 32 #[.agg #[.bool na, .slice A n c, .int .i64 ea, .bool na', .slice A' n' c', .int .i64 ea', .bool true], .int .i64 q] w (Ret (.string ⟨#[97, 108, 108]⟩) w) := by
  have H1 := Lib.hid h
  have H2 := Lib.hid h'
  have HV := Lib.hid hv
  have dq1 : decide ((q : Int) < 0) = false := decide_eq_false (by omega)
  have dq2 : decide ((50 : Int) < (q : Int)) = false := decide_eq_false (by omega)
  clear h h' hv
  go_enter Tryz.func32, Tryz.ntmps32
  go_wp2_with fail
  obtain ⟨w1, hw⟩ : ∃ z9 : World, z9 = (w.alloc (.cells #[.bool na, .slice A n c, .int .i64 ea, .bool na', .slice A' n' c', .int .i64 ea', .bool true] 42)) := ⟨_, rfl⟩
  have HB1 := Lib.hid (show Below w.heap.size w w1 by rw [hw]; exact below_a1 _ _)
  have F1a := Lib.hid (H1.out.belowW HB1.out)
  have F1b := Lib.hid (H2.out.belowW HB1.out)
  have F1x := Lib.hid (show Blk w1 (w.heap.size) 42 #[.bool na, .slice A n c, .int .i64 ea, .bool na', .slice A' n' c', .int .i64 ea', .bool true] by rw [hw]; exact Blk.new _ _ _)
  rw [← hw]
  clear hw
  obtain ⟨px0, fx0, px1, fx1, px2, fx2, px3, fx3, px4, fx4, px5, fx5, px6, fx6⟩ := F1x.out.all7
  go_wp2_with fail
  refine (ivalid_any na A n c ea l na' A' n' c' ea' l' true w1 F1a.out F1b.out).mono ?_
  rw [HV.out]
  rintro e w2 ⟨rfl, HB2⟩
  have F2a := Lib.hid (F1a.out.belowW HB2.out)
  have F2b := Lib.hid (F1b.out.belowW HB2.out)
  have F2x := Lib.hid (F1x.out.belowW HB2.out)
  have HL2 := Lib.hid (HB1.out.trans (HB2.out.mono HB1.out.size))
  clear px0 fx0 px1 fx1 px2 fx2 px3 fx3 px4 fx4 px5 fx5 px6 fx6
  obtain ⟨px0, fx0, px1, fx1, px2, fx2, px3, fx3, px4, fx4, px5, fx5, px6, fx6⟩ := F2x.out.all7
  go_wp2_with fail
  go_ret
  exact ⟨rfl, HL2⟩

set_option maxHeartbeats 1000000 in
theorem text11_all (na : Bool) (A : Option Addr) (n c : Nat) (ea : Int) (l : List Nat) (na' : Bool) (A' : Option Addr) (n' c' : Nat) (ea' : Int) (l' : List Nat) (q : Nat) (w : World) (h : Sl w A n c l) (h' : Sl w A' n' c' l') (hv : vldIB na l ea na' l' ea' true = true) (hq : q ≤ 50) :
    Calls Tryz.prog 35 #[.agg #[.bool na, .slice A n c, .int .i64 ea, .bool na', .slice A' n' c', .int .i64 ea', .bool true], .int .i64 q] w (Ret (.string ⟨#[97, 108, 108]⟩) w) := by
  have H1 := Lib.hid h
  have H2 := Lib.hid h'
  have HV := Lib.hid hv
  have dq1 : decide ((q : Int) < 0) = false := decide_eq_false (by omega)
  have dq2 : decide ((50 : Int) < (q : Int)) = false := decide_eq_false (by omega)
  clear h h' hv
  go_enter Tryz.func35, Tryz.ntmps35
  go_wp2_with fail
  obtain ⟨w1, hw⟩ : ∃ z9 : World, z9 = (w.alloc (.cells #[.bool na, .slice A n c, .int .i64 ea, .bool na', .slice A' n' c', .int .i64 ea', .bool true] 42)) := ⟨_, rfl⟩
  have HB1 := Lib.hid (show Below w.heap.size w w1 by rw [hw]; exact below_a1 _ _)
  have F1a := Lib.hid (H1.out.belowW HB1.out)
  have F1b := Lib.hid (H2.out.belowW HB1.out)
  have F1x := Lib.hid (show Blk w1 (w.heap.size) 42 #[.bool na, .slice A n c, .int .i64 ea, .bool na', .slice A' n' c', .int .i64 ea', .bool true] by rw [hw]; exact Blk.new _ _ _)
  rw [← hw]
  clear hw
  obtain ⟨px0, fx0, px1, fx1, px2, fx2, px3, fx3, px4, fx4, px5, fx5, px6, fx6⟩ := F1x.out.all7
  go_wp2_with fail
  refine (ivalid05_any na A n c ea l na' A' n' c' ea' l' true w1 F1a.out F1b.out).mono ?_
  rw [HV.out]
  rintro e w2 ⟨rfl, HB2⟩
  have F2a := Lib.hid (F1a.out.belowW HB2.out)
  have F2b := Lib.hid (F1b.out.belowW HB2.out)
  have F2x := Lib.hid (F1x.out.belowW HB2.out)
  have HL2 := Lib.hid (HB1.out.trans (HB2.out.mono HB1.out.size))
  clear px0 fx0 px1 fx1 px2 fx2 px3 fx3 px4 fx4 px5 fx5 px6 fx6
  obtain ⟨px0, fx0, px1, fx1, px2, fx2, px3, fx3, px4, fx4, px5, fx5, px6, fx6⟩ := F2x.out.all7
  go_wp2_with fail
  go_ret
  exact ⟨rfl, HL2⟩
end Go.Proofs.YtoogeihbhhcpaaaGreatDoor
