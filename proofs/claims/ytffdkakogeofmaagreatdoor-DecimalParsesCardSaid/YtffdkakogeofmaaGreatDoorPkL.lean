/-
  The walk of the reference's Parse.
  The walk of the reference's Parse.
  The walk of the reference's Parse.
  The walk of the reference's Parse.
-/
import Derived.Test.YtffdkakogeofmaaGreatDoorDeK
set_option linter.unusedVariables false
namespace Go.Fl.Dy
open Go.Fl Go.Fl.Nm
theorem rdR_len (s : List UInt8) : (rdR s).2.1.length ≤ s.length := by
  have h0 : (rsD s).length ≤ s.length := by
    unfold rsD
    split
    · rw [List.length_tail]; omega
    · exact Nat.le_refl _
  have h1 : ((rsD s).dropWhile Nm.isDig).length ≤ (rsD s).length := (List.dropWhile_sublist _).length_le
  have h2 : (((rsD s).dropWhile Nm.isDig).tail.dropWhile Nm.isDig).length ≤ (rsD s).length := by
    refine Nat.le_trans (List.dropWhile_sublist _).length_le ?_
    rw [List.length_tail]; omega
  unfold rdR
  split
  · exact h0
  · split
    · split
      · simp only; omega
      · simp only; omega
    · simp only; omega
theorem rdR_all {s t : List UInt8} {d : DR} {ok : Bool} (h : rdR s = (d, t, ok)) : d.ds.all Nm.isDig = true ∧ d.b ≤ d.ds.length := by
  unfold rdR at h
  split at h
  · obtain ⟨rfl, h⟩ := Prod.mk.inj h
    exact ⟨rfl, Nat.zero_le _⟩
  · split at h
    · split at h
      · obtain ⟨rfl, h⟩ := Prod.mk.inj h
        exact ⟨Go.Proofs.YtffdkakogeofmaaGreatDoor.tw_dig _, Nat.zero_le _⟩
      · obtain ⟨rfl, h⟩ := Prod.mk.inj h
        refine ⟨?_, ?_⟩
        · rw [List.all_append, Go.Proofs.YtffdkakogeofmaaGreatDoor.tw_dig, Go.Proofs.YtffdkakogeofmaaGreatDoor.tw_dig]; rfl
        · simp only; rw [List.length_append]; omega
    · obtain ⟨rfl, h⟩ := Prod.mk.inj h
      exact ⟨Go.Proofs.YtffdkakogeofmaaGreatDoor.tw_dig _, Nat.zero_le _⟩
end Go.Fl.Dy
namespace Go.Proofs.YtffdkakogeofmaaGreatDoor
open Go.RowKit Go.Fl Go.Fl.Nm Go.Fl.Dy
def parV (a b : DR) (p : Int) : (D × D × Bool) × Int :=
  if 256 < a.ds.length ∨ 256 < b.ds.length then ((zD, zD, false), 5)
  else if (p < 8 ∨ 512 < p) ∨ 0 < cmpV a.neg (dval a.ds * 10 ^ b.b) b.neg (dval b.ds * 10 ^ a.b) then ((zD, zD, false), 2)
  else ((rndR a p.toNat false, rndR b p.toNat true, false), 0)
theorem parF_some {s : List UInt8} {a b : DR} {p : Int} (h0 : s ≠ [97, 108, 108]) (h : frm s = some (a, b)) : parF s p = parV a b p := by
  unfold parF
  rw [if_neg h0, h]
  rfl
theorem parF_none {s : List UInt8} {p : Int} (h0 : s ≠ [97, 108, 108]) (h : frm s = none) : parF s p = ((zD, zD, false), 3) := by
  unfold parF
  rw [if_neg h0, h]
theorem parV_full {a b : DR} {p : Int} (h : 256 < a.ds.length ∨ 256 < b.ds.length) : parV a b p = ((zD, zD, false), 5) := by unfold parV; rw [if_pos h]
theorem parV_range {a b : DR} {p : Int} (h : ¬ (256 < a.ds.length ∨ 256 < b.ds.length)) (hp : (p < 8 ∨ 512 < p) ∨ 0 < cmpV a.neg (dval a.ds * 10 ^ b.b) b.neg (dval b.ds * 10 ^ a.b)) : parV a b p = ((zD, zD, false), 2) := by unfold parV; rw [if_neg h, if_pos hp]
theorem parV_end {a b : DR} {p : Nat} {lo hi : D} (h : ¬ (256 < a.ds.length ∨ 256 < b.ds.length)) (hp : ¬ (((p : Int) < 8 ∨ 512 < (p : Int)) ∨ 0 < cmpV a.neg (dval a.ds * 10 ^ b.b) b.neg (dval b.ds * 10 ^ a.b))) (h1 : rndR a p false = lo) (h2 : rndR b p true = hi) : parV a b (p : Int) = ((lo, hi, false), 0) := by unfold parV; rw [if_neg h, if_neg hp, Int.toNat_natCast, h1, h2]
theorem read11_at (s : ByteArray) (l t : List UInt8) (d : DR) (ok : Bool) (w : World) (hl : s.data.toList = l) (hr : rdR l = (d, t, ok)) (hs : s.size ≤ 100000) :
    Calls Tryz.prog 37 #[.string s] w (fun e w' => ∃ X T : ByteArray, e = .returned (.tuple #[.agg #[.string X, .int .i64 (d.b : Int), .bool d.neg], .string T, .bool ok]) ∧ Hid (X.data.toList = d.ds) ∧ Hid (T.data.toList = t) ∧ Hid (Below w.heap.size w w')) := by
  have h := read11_any s l w hl hs
  rw [hr] at h
  exact h
theorem round11_at (s : ByteArray) (d : DR) (up : Bool) (p : Nat) (x : D) (w : World) (hl : s.data.toList = d.ds) (hd : d.ds.all Nm.isDig = true) (hz : d.ds.length ≤ 256) (hb : d.b ≤ 256) (hp : 8 ≤ p) (hp2 : p ≤ 512) (hx : rndR d p up = x) :
    Calls Tryz.prog 39 #[.agg #[.string s, .int .i64 (d.b : Int), .bool d.neg], .int .i64 p, .bool up] w (DyE (x, 0) w) := by
  rw [← hx]
  exact round11 s d.ds d.b d.neg up p w hl hd hz hb hp hp2

set_option maxHeartbeats 2000000 in
theorem par11_all (p : Int) (w : World) :
    Calls Tryz.prog 11 #[.string ⟨#[97, 108, 108]⟩, .int .i64 p] w (IvE (parF [97, 108, 108] p) w) := by
  by_cases hp : p < 8 ∨ 512 < p
  case pos =>
    have HE := Lib.hid (show parF [97, 108, 108] p = ((zD, zD, false), 2) by unfold parF; rw [if_pos rfl, if_pos hp])
    have HPB := Lib.hid (show precB p = false by unfold precB; exact decide_eq_false (by omega))
    go_enter Tryz.func11, Tryz.ntmps11
    go_wp2_with fail
    obtain ⟨w1, hw⟩ : ∃ z9 : World, z9 = (w.alloc (.cells #[.bool false, .slice none 0 0, .int .i64 0, .bool false, .slice none 0 0, .int .i64 0, .bool false] 27)) := ⟨_, rfl⟩
    have HB1 := Lib.hid (show Below w.heap.size w w1 by rw [hw]; exact below_a1 _ _)
    have F1r := Lib.hid (show Blk w1 (w.heap.size) 27 #[.bool false, .slice none 0 0, .int .i64 0, .bool false, .slice none 0 0, .int .i64 0, .bool false] by rw [hw]; exact Blk.new _ _ _)
    rw [← hw]
    clear hw
    refine (prec03 p w1).mono ?_
    rw [HPB.out]
    rintro e w' ⟨rfl, rfl⟩
    obtain ⟨pr0, fr0, pr1, fr1, pr2, fr2, pr3, fr3, pr4, fr4, pr5, fr5, pr6, fr6⟩ := F1r.out.all7
    go_wp2_with fail
    try rw [store7_put F1r.out, F1r.out.put_self]
    refine bodyPost_ret (v := .tuple #[.agg #[.bool false, .slice none 0 0, .int .i64 0, .bool false, .slice none 0 0, .int .i64 0, .bool false], .int .i64 2]) (by simp [results, Tryz.results11, go_sem, pr0, pr1, pr2, pr3, pr4, pr5, pr6]) rfl ?_
    exact ive_no HE.out rfl HB1.out
  case neg =>
    have HE := Lib.hid (show parF [97, 108, 108] p = ((zD, zD, true), 0) by unfold parF; rw [if_pos rfl, if_neg hp])
    have HPB := Lib.hid (show precB p = true by unfold precB; exact decide_eq_true (by omega))
    go_enter Tryz.func11, Tryz.ntmps11
    go_wp2_with fail
    obtain ⟨w1, hw⟩ : ∃ z9 : World, z9 = (w.alloc (.cells #[.bool false, .slice none 0 0, .int .i64 0, .bool false, .slice none 0 0, .int .i64 0, .bool false] 27)) := ⟨_, rfl⟩
    have HB1 := Lib.hid (show Below w.heap.size w w1 by rw [hw]; exact below_a1 _ _)
    have F1r := Lib.hid (show Blk w1 (w.heap.size) 27 #[.bool false, .slice none 0 0, .int .i64 0, .bool false, .slice none 0 0, .int .i64 0, .bool false] by rw [hw]; exact Blk.new _ _ _)
    rw [← hw]
    clear hw
    refine (prec03 p w1).mono ?_
    rw [HPB.out]
    rintro e w' ⟨rfl, rfl⟩
    go_wp2_with fail
    refine (whole05 w1).mono ?_
    rintro e w2 ⟨rfl, HB2⟩
    have F2r := Lib.hid (F1r.out.belowW HB2.out)
    have HL2 := Lib.hid (HB1.out.trans (HB2.out.mono HB1.out.size))
    obtain ⟨pr0, fr0, pr1, fr1, pr2, fr2, pr3, fr3, pr4, fr4, pr5, fr5, pr6, fr6⟩ := F2r.out.all7
    go_wp2_with fail
    rw [store7_put F2r.out]
    have FR9 := Lib.hid (F2r.out.put #[.bool false, .slice none 0 0, .int .i64 0, .bool false, .slice none 0 0, .int .i64 0, .bool true])
    have HL9 := Lib.hid (HL2.out.trans (putB_below w2 _ 27 #[.bool false, .slice none 0 0, .int .i64 0, .bool false, .slice none 0 0, .int .i64 0, .bool true] (Nat.le_refl _)))
    clear pr0 fr0 pr1 fr1 pr2 fr2 pr3 fr3 pr4 fr4 pr5 fr5 pr6 fr6
    obtain ⟨w9, hw⟩ : ∃ z9 : World, z9 = putB w2 w.heap.size 27 #[.bool false, .slice none 0 0, .int .i64 0, .bool false, .slice none 0 0, .int .i64 0, .bool true] := ⟨_, rfl⟩
    rw [← hw] at FR9 HL9  ⊢
    clear hw
    obtain ⟨pr0, fr0, pr1, fr1, pr2, fr2, pr3, fr3, pr4, fr4, pr5, fr5, pr6, fr6⟩ := FR9.out.all7
    refine bodyPost_ret (v := .tuple #[.agg #[.bool false, .slice none 0 0, .int .i64 0, .bool false, .slice none 0 0, .int .i64 0, .bool true], .int .i64 0]) (by simp [results, Tryz.results11, go_sem, pr0, pr1, pr2, pr3, pr4, pr5, pr6]) rfl ?_
    exact ive_no HE.out rfl HL9.out

end Go.Proofs.YtffdkakogeofmaaGreatDoor
namespace Go.Proofs.YtffdkakogeofmaaGreatDoor
open Go.RowKit Go.Fl Go.Fl.Nm Go.Fl.Dy
set_option maxHeartbeats 16000000 in
set_option maxRecDepth 100000 in
theorem par11_nil (s : ByteArray) (l : List UInt8) (p : Int) (w : World) (hl : s.data.toList = l) (hs : s.size ≤ 3000) (h0 : l ≠ [97, 108, 108]) (hd : l = []) :
    Calls Tryz.prog 11 #[.string s, .int .i64 p] w (IvE (parF l p) w) := by
  have n0 : (s.toList == [97, 108, 108]) = false := by rw [bl_data, beq_eq_false_iff_ne, hl]; exact h0
  have H0 := Lib.hid h0
  have hll : l.length = s.size := by rw [← hl]; rfl
  have H1 := Lib.hid (show l.head? ≠ some 91 by rw [hd]; simp)
  have hsz : s.size = 0 := by rw [← hll, hd]; rfl
  have d0 : decide ((0 : Int) < (s.size : Int)) = false := decide_eq_false (by omega)
  have d0' : decide (0 < s.size) = false := decide_eq_false (by omega)
  have HF := Lib.hid hl
  have hs5 : s.size ≤ 100000 := by omega
  clear hll hd h0
  obtain ⟨⟨d1, t1, ok1⟩, hr1⟩ : ∃ r, rdR l = r := ⟨_, rfl⟩
  have HR1 := Lib.hid hr1
  have HAd1 := Lib.hid (rdR_all hr1)
  clear hr1
  go_enter Tryz.func11, Tryz.ntmps11
  go_wp2_with fail
  obtain ⟨w1, hw⟩ : ∃ z9 : World, z9 = (w.alloc (.cells #[.bool false, .slice none 0 0, .int .i64 0, .bool false, .slice none 0 0, .int .i64 0, .bool false] 27)) := ⟨_, rfl⟩
  have HB1 := Lib.hid (show Below w.heap.size w w1 by rw [hw]; exact below_a1 _ _)
  have F1r := Lib.hid (show Blk w1 (w.heap.size) 27 #[.bool false, .slice none 0 0, .int .i64 0, .bool false, .slice none 0 0, .int .i64 0, .bool false] by rw [hw]; exact Blk.new _ _ _)
  rw [← hw]
  clear hw
  obtain ⟨pr0, fr0, pr1, fr1, pr2, fr2, pr3, fr3, pr4, fr4, pr5, fr5, pr6, fr6⟩ := F1r.out.all7
  go_wp2_with fail
  refine (read11_at s l t1 d1 ok1 w1 HF.out HR1.out hs5).mono ?_
  rintro e w2 ⟨X1, T1, rfl, HX1, HT1, HB2⟩
  have F2r := Lib.hid (F1r.out.belowW HB2.out)
  have HL2 := Lib.hid (HB1.out.trans (HB2.out.mono HB1.out.size))
  clear pr0 fr0 pr1 fr1 pr2 fr2 pr3 fr3 pr4 fr4 pr5 fr5 pr6 fr6
  go_upto_region 9 with (fail)
  obtain ⟨w3, hw⟩ : ∃ z9 : World, z9 = w2.alloc (.cells #[.string X1, .int .i64 (d1.b : Int), .bool d1.neg] 64) := ⟨_, rfl⟩
  have HB3 := Lib.hid (show Below w2.heap.size w2 w3 by rw [hw]; exact below_a1 _ _)
  have F3xa := Lib.hid (show Blk w3 w2.heap.size 64 #[.string X1, .int .i64 (d1.b : Int), .bool d1.neg] by rw [hw]; exact Blk.new _ _ _)
  rw [← hw]
  clear hw
  have F3r := Lib.hid (F2r.out.belowW HB3.out)
  have HL3 := Lib.hid (HL2.out.trans (HB3.out.mono HL2.out.size))
  obtain ⟨pxa0, fxa0, pxa1, fxa1, pxa2, fxa2⟩ := F3xa.out.all3
  go_upto_region 10 with (fail)
  obtain ⟨w4, hw⟩ : ∃ z9 : World, z9 = w3.alloc (.cells #[.string X1, .int .i64 (d1.b : Int), .bool d1.neg] 64) := ⟨_, rfl⟩
  have HB4 := Lib.hid (show Below w3.heap.size w3 w4 by rw [hw]; exact below_a1 _ _)
  have F4xb := Lib.hid (show Blk w4 w3.heap.size 64 #[.string X1, .int .i64 (d1.b : Int), .bool d1.neg] by rw [hw]; exact Blk.new _ _ _)
  rw [← hw]
  clear hw
  have F4r := Lib.hid (F3r.out.belowW HB4.out)
  have F4xa := Lib.hid (F3xa.out.belowW HB4.out)
  have HL4 := Lib.hid (HL3.out.trans (HB4.out.mono HL3.out.size))
  cases ok1 with
  | false =>
    have HE := Lib.hid (show parF l p = ((zD, zD, false), 3) by refine parF_none H0.out ?_; unfold frm; rw [if_neg H1.out, HR1.out]; rfl)
    clear pxa0 fxa0 pxa1 fxa1 pxa2 fxa2
    obtain ⟨pr0, fr0, pr1, fr1, pr2, fr2, pr3, fr3, pr4, fr4, pr5, fr5, pr6, fr6⟩ := F4r.out.all7
    go_wp2_with fail
    try rw [store7_put F4r.out, F4r.out.put_self]
    refine bodyPost_ret (v := .tuple #[.agg #[.bool false, .slice none 0 0, .int .i64 0, .bool false, .slice none 0 0, .int .i64 0, .bool false], .int .i64 3]) (by simp [results, Tryz.results11, go_sem, pr0, pr1, pr2, pr3, pr4, pr5, pr6]) rfl ?_
    exact ive_no HE.out rfl HL4.out
  | true =>
    by_cases ht : t1 = []
    case neg =>
      have e1 : (T1.toList == []) = false := by rw [bl_data, beq_eq_false_iff_ne, HT1.out]; exact ht
      have e1' : (T1.toList != []) = true := by unfold bne; rw [e1]; rfl
      have e1'' : T1.toList ≠ [] := by rw [bl_data, HT1.out]; exact ht
      have HE := Lib.hid (show parF l p = ((zD, zD, false), 3) by refine parF_none H0.out ?_; unfold frm; rw [if_neg H1.out, HR1.out]; simp [ht])
      clear pxa0 fxa0 pxa1 fxa1 pxa2 fxa2
      obtain ⟨pr0, fr0, pr1, fr1, pr2, fr2, pr3, fr3, pr4, fr4, pr5, fr5, pr6, fr6⟩ := F4r.out.all7
      go_wp2_with fail
      try rw [store7_put F4r.out, F4r.out.put_self]
      refine bodyPost_ret (v := .tuple #[.agg #[.bool false, .slice none 0 0, .int .i64 0, .bool false, .slice none 0 0, .int .i64 0, .bool false], .int .i64 3]) (by simp [results, Tryz.results11, go_sem, pr0, pr1, pr2, pr3, pr4, pr5, pr6]) rfl ?_
      exact ive_no HE.out rfl HL4.out
    subst ht
    have e1 : (T1.toList == []) = true := by rw [bl_data, HT1.out]; rfl
    have e1' : (T1.toList != []) = false := by unfold bne; rw [e1]; rfl
    have e1'' : T1.toList = [] := by rw [bl_data, HT1.out]
    obtain rfl : T1 = ⟨#[]⟩ := ba_list HT1.out
    have HQ := Lib.hid (show parF l p = parV d1 d1 p by refine parF_some H0.out ?_; unfold frm; rw [if_neg H1.out, HR1.out]; rfl)
    have SX : X1.size = d1.ds.length := by rw [← HX1.out]; rfl
    have SY : X1.size = d1.ds.length := by rw [← HX1.out]; rfl
    clear pxa0 fxa0 pxa1 fxa1 pxa2 fxa2
    obtain ⟨pr0, fr0, pr1, fr1, pr2, fr2, pr3, fr3, pr4, fr4, pr5, fr5, pr6, fr6⟩ := F4r.out.all7
    obtain ⟨pxa0, fxa0, pxa1, fxa1, pxa2, fxa2⟩ := F4xa.out.all3
    obtain ⟨pxb0, fxb0, pxb1, fxb1, pxb2, fxb2⟩ := F4xb.out.all3
    by_cases ht : 256 < d1.ds.length ∨ 256 < d1.ds.length
    case pos =>
      have HE := Lib.hid (show parF l p = ((zD, zD, false), 5) from HQ.out.trans (parV_full ht))
      by_cases h1 : 256 < d1.ds.length
      case pos =>
        have g1 : decide ((256 : Int) < (X1.size : Int)) = true := decide_eq_true (by omega)
        have g1' : decide (256 < X1.size) = true := decide_eq_true (by omega)
        go_wp2_with fail
        try rw [store7_put F4r.out, F4r.out.put_self]
        refine bodyPost_ret (v := .tuple #[.agg #[.bool false, .slice none 0 0, .int .i64 0, .bool false, .slice none 0 0, .int .i64 0, .bool false], .int .i64 5]) (by simp [results, Tryz.results11, go_sem, pr0, pr1, pr2, pr3, pr4, pr5, pr6]) rfl ?_
        exact ive_no HE.out rfl HL4.out
      case neg =>
        exact absurd (ht.elim id id) h1
    case neg =>
      have t1 : d1.ds.length ≤ 256 := by omega
      have t2 : d1.ds.length ≤ 256 := by omega
      have g1 : decide ((256 : Int) < (X1.size : Int)) = false := decide_eq_false (by omega)
      have g1' : decide (256 < X1.size) = false := decide_eq_false (by omega)
      have g2 : decide ((256 : Int) < (X1.size : Int)) = false := decide_eq_false (by omega)
      have g2' : decide (256 < X1.size) = false := decide_eq_false (by omega)
      have HTT := Lib.hid ht
      clear ht
      by_cases hp : p < 8 ∨ 512 < p
      case pos =>
        have HE := Lib.hid (show parF l p = ((zD, zD, false), 2) from HQ.out.trans (parV_range HTT.out (.inl hp)))
        have HPB := Lib.hid (show precB p = false by unfold precB; exact decide_eq_false (by omega))
        go_wp2_with fail
        refine (prec03 p w4).mono ?_
        rw [HPB.out]
        rintro e w' ⟨rfl, rfl⟩
        go_wp2_with fail
        try rw [store7_put F4r.out, F4r.out.put_self]
        refine bodyPost_ret (v := .tuple #[.agg #[.bool false, .slice none 0 0, .int .i64 0, .bool false, .slice none 0 0, .int .i64 0, .bool false], .int .i64 2]) (by simp [results, Tryz.results11, go_sem, pr0, pr1, pr2, pr3, pr4, pr5, pr6]) rfl ?_
        exact ive_no HE.out rfl HL4.out
      case neg =>
        have HPB := Lib.hid (show precB p = true by unfold precB; exact decide_eq_true (by omega))
        obtain ⟨P, rfl⟩ : ∃ P : Nat, p = (P : Int) := ⟨p.toNat, by omega⟩
        have pb1 : 8 ≤ P := by omega
        have pb2 : P ≤ 512 := by omega
        have za1 : d1.ds.length ≤ 600 := by omega
        have zb1 : d1.ds.length ≤ 600 := by omega
        have ba0 := HAd1.out.2
        have bb0 := HAd1.out.2
        have ba1 : d1.b ≤ 256 := by omega
        have bb1 : d1.b ≤ 256 := by omega
        have ba2 : d1.b ≤ 600 := by omega
        have bb2 : d1.b ≤ 600 := by omega
        obtain ⟨cv, hcv⟩ : ∃ z, cmpV d1.neg (dval d1.ds * 10 ^ d1.b) d1.neg (dval d1.ds * 10 ^ d1.b) = z := ⟨_, rfl⟩
        have HCV := Lib.hid hcv
        have HPP := Lib.hid hp
        clear hp hcv ba0 bb0
        go_wp2_with fail
        refine (prec03 (P : Int) w4).mono ?_
        rw [HPB.out]
        rintro e w' ⟨rfl, rfl⟩
        go_wp2_with fail
        refine (compare11 X1 X1 d1.ds d1.ds d1.b d1.b d1.neg d1.neg w4 HX1.out HX1.out HAd1.out.1 HAd1.out.1 za1 zb1 ba2 bb2).mono ?_
        rw [HCV.out]
        rintro e w5 ⟨rfl, HB5⟩
        have F5r := Lib.hid (F4r.out.belowW HB5.out)
        have F5xa := Lib.hid (F4xa.out.belowW HB5.out)
        have F5xb := Lib.hid (F4xb.out.belowW HB5.out)
        have HL5 := Lib.hid (HL4.out.trans (HB5.out.mono HL4.out.size))
        clear pr0 fr0 pr1 fr1 pr2 fr2 pr3 fr3 pr4 fr4 pr5 fr5 pr6 fr6 pxa0 fxa0 pxa1 fxa1 pxa2 fxa2 pxb0 fxb0 pxb1 fxb1 pxb2 fxb2
        obtain ⟨pr0, fr0, pr1, fr1, pr2, fr2, pr3, fr3, pr4, fr4, pr5, fr5, pr6, fr6⟩ := F5r.out.all7
        obtain ⟨pxa0, fxa0, pxa1, fxa1, pxa2, fxa2⟩ := F5xa.out.all3
        obtain ⟨pxb0, fxb0, pxb1, fxb1, pxb2, fxb2⟩ := F5xb.out.all3
        by_cases hc : 0 < cv
        case pos =>
          have HE := Lib.hid (show parF l (P : Int) = ((zD, zD, false), 2) from HQ.out.trans (parV_range HTT.out (.inr (by rw [HCV.out]; exact hc))))
          have g3 : decide (0 < cv) = true := decide_eq_true hc
          clear hc
          go_wp2_with fail
          try rw [store7_put F5r.out, F5r.out.put_self]
          refine bodyPost_ret (v := .tuple #[.agg #[.bool false, .slice none 0 0, .int .i64 0, .bool false, .slice none 0 0, .int .i64 0, .bool false], .int .i64 2]) (by simp [results, Tryz.results11, go_sem, pr0, pr1, pr2, pr3, pr4, pr5, pr6]) rfl ?_
          exact ive_no HE.out rfl HL5.out
        case neg =>
          have g3 : decide (0 < cv) = false := decide_eq_false hc
          obtain ⟨lo, hlo⟩ : ∃ x, rndR d1 P false = x := ⟨_, rfl⟩
          obtain ⟨hi, hhi⟩ : ∃ x, rndR d1 P true = x := ⟨_, rfl⟩
          have HLO := Lib.hid hlo
          have HHI := Lib.hid hhi
          have HE := Lib.hid (show parF l (P : Int) = ((lo, hi, false), 0) from HQ.out.trans (parV_end HTT.out (by rintro (h | h); exact HPP.out h; rw [HCV.out] at h; exact hc h) hlo hhi))
          clear hlo hhi hc
          go_wp2_with fail
          refine (round11_at X1 d1 false P lo w5 HX1.out HAd1.out.1 t1 ba1 pb1 pb2 HLO.out).mono ?_
          rintro e w6 ⟨U, u, uc, rfl, HU, HB6⟩
          have F6r := Lib.hid (F5r.out.belowW HB6.out)
          have F6xa := Lib.hid (F5xa.out.belowW HB6.out)
          have F6xb := Lib.hid (F5xb.out.belowW HB6.out)
          have HL6 := Lib.hid (HL5.out.trans (HB6.out.mono HL5.out.size))
          have F6u := Lib.hid (HU.out)
          clear pr0 fr0 pr1 fr1 pr2 fr2 pr3 fr3 pr4 fr4 pr5 fr5 pr6 fr6 pxa0 fxa0 pxa1 fxa1 pxa2 fxa2 pxb0 fxb0 pxb1 fxb1 pxb2 fxb2
          go_upto_region 24 with (fail)
          obtain ⟨w7, hw⟩ : ∃ z9 : World, z9 = w6.alloc (.cells #[.bool lo.neg, .slice U u uc, .int .i64 lo.e] 25) := ⟨_, rfl⟩
          have HB7 := Lib.hid (show Below w6.heap.size w6 w7 by rw [hw]; exact below_a1 _ _)
          have F7lo := Lib.hid (show Blk w7 w6.heap.size 25 #[.bool lo.neg, .slice U u uc, .int .i64 lo.e] by rw [hw]; exact Blk.new _ _ _)
          rw [← hw]
          clear hw
          have F7r := Lib.hid (F6r.out.belowW HB7.out)
          have F7xa := Lib.hid (F6xa.out.belowW HB7.out)
          have F7xb := Lib.hid (F6xb.out.belowW HB7.out)
          have F7u := Lib.hid (F6u.out.belowW HB7.out)
          have HL7 := Lib.hid (HL6.out.trans (HB7.out.mono HL6.out.size))
          obtain ⟨pxb0, fxb0, pxb1, fxb1, pxb2, fxb2⟩ := F7xb.out.all3
          go_wp2_with fail
          refine (round11_at X1 d1 true P hi w7 HX1.out HAd1.out.1 t2 bb1 pb1 pb2 HHI.out).mono ?_
          rintro e w8 ⟨V, v, vc, rfl, HV, HB8⟩
          have F8r := Lib.hid (F7r.out.belowW HB8.out)
          have F8xa := Lib.hid (F7xa.out.belowW HB8.out)
          have F8xb := Lib.hid (F7xb.out.belowW HB8.out)
          have F8u := Lib.hid (F7u.out.belowW HB8.out)
          have F8lo := Lib.hid (F7lo.out.belowW HB8.out)
          have HL8 := Lib.hid (HL7.out.trans (HB8.out.mono HL7.out.size))
          have F8v := Lib.hid (HV.out)
          clear pxb0 fxb0 pxb1 fxb1 pxb2 fxb2
          go_upto_region 27 with (fail)
          obtain ⟨w9, hw⟩ : ∃ z9 : World, z9 = w8.alloc (.cells #[.bool hi.neg, .slice V v vc, .int .i64 hi.e] 25) := ⟨_, rfl⟩
          have HB9 := Lib.hid (show Below w8.heap.size w8 w9 by rw [hw]; exact below_a1 _ _)
          have F9hi := Lib.hid (show Blk w9 w8.heap.size 25 #[.bool hi.neg, .slice V v vc, .int .i64 hi.e] by rw [hw]; exact Blk.new _ _ _)
          rw [← hw]
          clear hw
          have F9r := Lib.hid (F8r.out.belowW HB9.out)
          have F9xa := Lib.hid (F8xa.out.belowW HB9.out)
          have F9xb := Lib.hid (F8xb.out.belowW HB9.out)
          have F9u := Lib.hid (F8u.out.belowW HB9.out)
          have F9lo := Lib.hid (F8lo.out.belowW HB9.out)
          have F9v := Lib.hid (F8v.out.belowW HB9.out)
          have HL9 := Lib.hid (HL8.out.trans (HB9.out.mono HL8.out.size))
          obtain ⟨pr0, fr0, pr1, fr1, pr2, fr2, pr3, fr3, pr4, fr4, pr5, fr5, pr6, fr6⟩ := F9r.out.all7
          obtain ⟨plo0, flo0, plo1, flo1, plo2, flo2⟩ := F9lo.out.all3
          obtain ⟨phi0, fhi0, phi1, fhi1, phi2, fhi2⟩ := F9hi.out.all3
          go_wp2_with fail
          rw [store7_put F9r.out]
          have FR9 := Lib.hid (F9r.out.put #[.bool lo.neg, .slice U u uc, .int .i64 lo.e, .bool hi.neg, .slice V v vc, .int .i64 hi.e, .bool false])
          have HL9 := Lib.hid (HL9.out.trans (putB_below w9 _ 27 #[.bool lo.neg, .slice U u uc, .int .i64 lo.e, .bool hi.neg, .slice V v vc, .int .i64 hi.e, .bool false] (Nat.le_refl _)))
          have S90 := Lib.hid (F9u.out.far F9r.out noU7 (putB_grown w9 w.heap.size 27 #[.bool lo.neg, .slice U u uc, .int .i64 lo.e, .bool hi.neg, .slice V v vc, .int .i64 hi.e, .bool false]))
          have S91 := Lib.hid (F9v.out.far F9r.out noU7 (putB_grown w9 w.heap.size 27 #[.bool lo.neg, .slice U u uc, .int .i64 lo.e, .bool hi.neg, .slice V v vc, .int .i64 hi.e, .bool false]))
          clear pr0 fr0 pr1 fr1 pr2 fr2 pr3 fr3 pr4 fr4 pr5 fr5 pr6 fr6 plo0 flo0 plo1 flo1 plo2 flo2 phi0 fhi0 phi1 fhi1 phi2 fhi2
          obtain ⟨w9, hw⟩ : ∃ z9 : World, z9 = putB w9 w.heap.size 27 #[.bool lo.neg, .slice U u uc, .int .i64 lo.e, .bool hi.neg, .slice V v vc, .int .i64 hi.e, .bool false] := ⟨_, rfl⟩
          rw [← hw] at FR9 HL9 S90 S91 ⊢
          clear hw
          obtain ⟨pr0, fr0, pr1, fr1, pr2, fr2, pr3, fr3, pr4, fr4, pr5, fr5, pr6, fr6⟩ := FR9.out.all7
          refine bodyPost_ret (v := .tuple #[.agg #[.bool lo.neg, .slice U u uc, .int .i64 lo.e, .bool hi.neg, .slice V v vc, .int .i64 hi.e, .bool false], .int .i64 0]) (by simp [results, Tryz.results11, go_sem, pr0, pr1, pr2, pr3, pr4, pr5, pr6]) rfl ?_
          rw [HE.out]
          exact ⟨U, V, u, uc, v, vc, rfl, S90, S91, HL9⟩

end Go.Proofs.YtffdkakogeofmaaGreatDoor
namespace Go.Proofs.YtffdkakogeofmaaGreatDoor
open Go.RowKit Go.Fl Go.Fl.Nm Go.Fl.Dy
set_option maxHeartbeats 16000000 in
set_option maxRecDepth 100000 in
theorem par11_plain (s : ByteArray) (l : List UInt8) (p : Int) (w : World) (hl : s.data.toList = l) (hs : s.size ≤ 3000) (h0 : l ≠ [97, 108, 108]) (q0 : UInt8) (hd : l.head? = some q0) (hq0 : q0 ≠ 91) :
    Calls Tryz.prog 11 #[.string s, .int .i64 p] w (IvE (parF l p) w) := by
  have n0 : (s.toList == [97, 108, 108]) = false := by rw [bl_data, beq_eq_false_iff_ne, hl]; exact h0
  have H0 := Lib.hid h0
  have hll : l.length = s.size := by rw [← hl]; rfl
  have H1 := Lib.hid (show l.head? ≠ some 91 by rw [hd]; intro h; injection h with h; exact hq0 h)
  have hsz : 0 < s.size := by rw [← hll]; cases l with
    | nil => cases hd
    | cons a l => exact Nat.succ_pos _
  have hb : s[0] = q0 := byte_at hl hsz (by rw [← List.head?_eq_getElem?]; exact hd)
  have hbn : (s[0].toNat : Int) ≠ 91 := by
    rw [hb]
    intro e
    exact hq0 (UInt8.toNat_inj.1 (Int.ofNat.inj e))
  have hbd : decide ((s[0].toNat : Int) = 91) = false := decide_eq_false hbn
  have hbe : ((s[0].toNat : Int) == 91) = false := by rw [beq_eq_false_iff_ne]; exact hbn
  have hqe : decide ((q0.toNat : Int) = 91) = false := by rw [← hb]; exact hbd
  have hqf : ((q0.toNat : Int) == 91) = false := by rw [← hb]; exact hbe
  have d0 : decide ((0 : Int) < (s.size : Int)) = true := decide_eq_true (by omega)
  have d0' : decide (0 < s.size) = true := decide_eq_true hsz
  have HF := Lib.hid hl
  have hs5 : s.size ≤ 100000 := by omega
  clear hll hd h0 hbn
  obtain ⟨⟨d1, t1, ok1⟩, hr1⟩ : ∃ r, rdR l = r := ⟨_, rfl⟩
  have HR1 := Lib.hid hr1
  have HAd1 := Lib.hid (rdR_all hr1)
  clear hr1
  go_enter Tryz.func11, Tryz.ntmps11
  go_wp2_with fail
  obtain ⟨w1, hw⟩ : ∃ z9 : World, z9 = (w.alloc (.cells #[.bool false, .slice none 0 0, .int .i64 0, .bool false, .slice none 0 0, .int .i64 0, .bool false] 27)) := ⟨_, rfl⟩
  have HB1 := Lib.hid (show Below w.heap.size w w1 by rw [hw]; exact below_a1 _ _)
  have F1r := Lib.hid (show Blk w1 (w.heap.size) 27 #[.bool false, .slice none 0 0, .int .i64 0, .bool false, .slice none 0 0, .int .i64 0, .bool false] by rw [hw]; exact Blk.new _ _ _)
  rw [← hw]
  clear hw
  obtain ⟨pr0, fr0, pr1, fr1, pr2, fr2, pr3, fr3, pr4, fr4, pr5, fr5, pr6, fr6⟩ := F1r.out.all7
  go_wp2_with fail
  refine (read11_at s l t1 d1 ok1 w1 HF.out HR1.out hs5).mono ?_
  rintro e w2 ⟨X1, T1, rfl, HX1, HT1, HB2⟩
  have F2r := Lib.hid (F1r.out.belowW HB2.out)
  have HL2 := Lib.hid (HB1.out.trans (HB2.out.mono HB1.out.size))
  clear pr0 fr0 pr1 fr1 pr2 fr2 pr3 fr3 pr4 fr4 pr5 fr5 pr6 fr6
  go_upto_region 9 with (fail)
  obtain ⟨w3, hw⟩ : ∃ z9 : World, z9 = w2.alloc (.cells #[.string X1, .int .i64 (d1.b : Int), .bool d1.neg] 64) := ⟨_, rfl⟩
  have HB3 := Lib.hid (show Below w2.heap.size w2 w3 by rw [hw]; exact below_a1 _ _)
  have F3xa := Lib.hid (show Blk w3 w2.heap.size 64 #[.string X1, .int .i64 (d1.b : Int), .bool d1.neg] by rw [hw]; exact Blk.new _ _ _)
  rw [← hw]
  clear hw
  have F3r := Lib.hid (F2r.out.belowW HB3.out)
  have HL3 := Lib.hid (HL2.out.trans (HB3.out.mono HL2.out.size))
  obtain ⟨pxa0, fxa0, pxa1, fxa1, pxa2, fxa2⟩ := F3xa.out.all3
  go_upto_region 10 with (fail)
  obtain ⟨w4, hw⟩ : ∃ z9 : World, z9 = w3.alloc (.cells #[.string X1, .int .i64 (d1.b : Int), .bool d1.neg] 64) := ⟨_, rfl⟩
  have HB4 := Lib.hid (show Below w3.heap.size w3 w4 by rw [hw]; exact below_a1 _ _)
  have F4xb := Lib.hid (show Blk w4 w3.heap.size 64 #[.string X1, .int .i64 (d1.b : Int), .bool d1.neg] by rw [hw]; exact Blk.new _ _ _)
  rw [← hw]
  clear hw
  have F4r := Lib.hid (F3r.out.belowW HB4.out)
  have F4xa := Lib.hid (F3xa.out.belowW HB4.out)
  have HL4 := Lib.hid (HL3.out.trans (HB4.out.mono HL3.out.size))
  cases ok1 with
  | false =>
    have HE := Lib.hid (show parF l p = ((zD, zD, false), 3) by refine parF_none H0.out ?_; unfold frm; rw [if_neg H1.out, HR1.out]; rfl)
    clear pxa0 fxa0 pxa1 fxa1 pxa2 fxa2
    obtain ⟨pr0, fr0, pr1, fr1, pr2, fr2, pr3, fr3, pr4, fr4, pr5, fr5, pr6, fr6⟩ := F4r.out.all7
    go_wp2_with fail
    try rw [store7_put F4r.out, F4r.out.put_self]
    refine bodyPost_ret (v := .tuple #[.agg #[.bool false, .slice none 0 0, .int .i64 0, .bool false, .slice none 0 0, .int .i64 0, .bool false], .int .i64 3]) (by simp [results, Tryz.results11, go_sem, pr0, pr1, pr2, pr3, pr4, pr5, pr6]) rfl ?_
    exact ive_no HE.out rfl HL4.out
  | true =>
    by_cases ht : t1 = []
    case neg =>
      have e1 : (T1.toList == []) = false := by rw [bl_data, beq_eq_false_iff_ne, HT1.out]; exact ht
      have e1' : (T1.toList != []) = true := by unfold bne; rw [e1]; rfl
      have e1'' : T1.toList ≠ [] := by rw [bl_data, HT1.out]; exact ht
      have HE := Lib.hid (show parF l p = ((zD, zD, false), 3) by refine parF_none H0.out ?_; unfold frm; rw [if_neg H1.out, HR1.out]; simp [ht])
      clear pxa0 fxa0 pxa1 fxa1 pxa2 fxa2
      obtain ⟨pr0, fr0, pr1, fr1, pr2, fr2, pr3, fr3, pr4, fr4, pr5, fr5, pr6, fr6⟩ := F4r.out.all7
      go_wp2_with fail
      try rw [store7_put F4r.out, F4r.out.put_self]
      refine bodyPost_ret (v := .tuple #[.agg #[.bool false, .slice none 0 0, .int .i64 0, .bool false, .slice none 0 0, .int .i64 0, .bool false], .int .i64 3]) (by simp [results, Tryz.results11, go_sem, pr0, pr1, pr2, pr3, pr4, pr5, pr6]) rfl ?_
      exact ive_no HE.out rfl HL4.out
    subst ht
    have e1 : (T1.toList == []) = true := by rw [bl_data, HT1.out]; rfl
    have e1' : (T1.toList != []) = false := by unfold bne; rw [e1]; rfl
    have e1'' : T1.toList = [] := by rw [bl_data, HT1.out]
    obtain rfl : T1 = ⟨#[]⟩ := ba_list HT1.out
    have HQ := Lib.hid (show parF l p = parV d1 d1 p by refine parF_some H0.out ?_; unfold frm; rw [if_neg H1.out, HR1.out]; rfl)
    have SX : X1.size = d1.ds.length := by rw [← HX1.out]; rfl
    have SY : X1.size = d1.ds.length := by rw [← HX1.out]; rfl
    clear pxa0 fxa0 pxa1 fxa1 pxa2 fxa2
    obtain ⟨pr0, fr0, pr1, fr1, pr2, fr2, pr3, fr3, pr4, fr4, pr5, fr5, pr6, fr6⟩ := F4r.out.all7
    obtain ⟨pxa0, fxa0, pxa1, fxa1, pxa2, fxa2⟩ := F4xa.out.all3
    obtain ⟨pxb0, fxb0, pxb1, fxb1, pxb2, fxb2⟩ := F4xb.out.all3
    by_cases ht : 256 < d1.ds.length ∨ 256 < d1.ds.length
    case pos =>
      have HE := Lib.hid (show parF l p = ((zD, zD, false), 5) from HQ.out.trans (parV_full ht))
      by_cases h1 : 256 < d1.ds.length
      case pos =>
        have g1 : decide ((256 : Int) < (X1.size : Int)) = true := decide_eq_true (by omega)
        have g1' : decide (256 < X1.size) = true := decide_eq_true (by omega)
        go_wp2_with fail
        try rw [store7_put F4r.out, F4r.out.put_self]
        refine bodyPost_ret (v := .tuple #[.agg #[.bool false, .slice none 0 0, .int .i64 0, .bool false, .slice none 0 0, .int .i64 0, .bool false], .int .i64 5]) (by simp [results, Tryz.results11, go_sem, pr0, pr1, pr2, pr3, pr4, pr5, pr6]) rfl ?_
        exact ive_no HE.out rfl HL4.out
      case neg =>
        exact absurd (ht.elim id id) h1
    case neg =>
      have t1 : d1.ds.length ≤ 256 := by omega
      have t2 : d1.ds.length ≤ 256 := by omega
      have g1 : decide ((256 : Int) < (X1.size : Int)) = false := decide_eq_false (by omega)
      have g1' : decide (256 < X1.size) = false := decide_eq_false (by omega)
      have g2 : decide ((256 : Int) < (X1.size : Int)) = false := decide_eq_false (by omega)
      have g2' : decide (256 < X1.size) = false := decide_eq_false (by omega)
      have HTT := Lib.hid ht
      clear ht
      by_cases hp : p < 8 ∨ 512 < p
      case pos =>
        have HE := Lib.hid (show parF l p = ((zD, zD, false), 2) from HQ.out.trans (parV_range HTT.out (.inl hp)))
        have HPB := Lib.hid (show precB p = false by unfold precB; exact decide_eq_false (by omega))
        go_wp2_with fail
        refine (prec03 p w4).mono ?_
        rw [HPB.out]
        rintro e w' ⟨rfl, rfl⟩
        go_wp2_with fail
        try rw [store7_put F4r.out, F4r.out.put_self]
        refine bodyPost_ret (v := .tuple #[.agg #[.bool false, .slice none 0 0, .int .i64 0, .bool false, .slice none 0 0, .int .i64 0, .bool false], .int .i64 2]) (by simp [results, Tryz.results11, go_sem, pr0, pr1, pr2, pr3, pr4, pr5, pr6]) rfl ?_
        exact ive_no HE.out rfl HL4.out
      case neg =>
        have HPB := Lib.hid (show precB p = true by unfold precB; exact decide_eq_true (by omega))
        obtain ⟨P, rfl⟩ : ∃ P : Nat, p = (P : Int) := ⟨p.toNat, by omega⟩
        have pb1 : 8 ≤ P := by omega
        have pb2 : P ≤ 512 := by omega
        have za1 : d1.ds.length ≤ 600 := by omega
        have zb1 : d1.ds.length ≤ 600 := by omega
        have ba0 := HAd1.out.2
        have bb0 := HAd1.out.2
        have ba1 : d1.b ≤ 256 := by omega
        have bb1 : d1.b ≤ 256 := by omega
        have ba2 : d1.b ≤ 600 := by omega
        have bb2 : d1.b ≤ 600 := by omega
        obtain ⟨cv, hcv⟩ : ∃ z, cmpV d1.neg (dval d1.ds * 10 ^ d1.b) d1.neg (dval d1.ds * 10 ^ d1.b) = z := ⟨_, rfl⟩
        have HCV := Lib.hid hcv
        have HPP := Lib.hid hp
        clear hp hcv ba0 bb0
        go_wp2_with fail
        refine (prec03 (P : Int) w4).mono ?_
        rw [HPB.out]
        rintro e w' ⟨rfl, rfl⟩
        go_wp2_with fail
        refine (compare11 X1 X1 d1.ds d1.ds d1.b d1.b d1.neg d1.neg w4 HX1.out HX1.out HAd1.out.1 HAd1.out.1 za1 zb1 ba2 bb2).mono ?_
        rw [HCV.out]
        rintro e w5 ⟨rfl, HB5⟩
        have F5r := Lib.hid (F4r.out.belowW HB5.out)
        have F5xa := Lib.hid (F4xa.out.belowW HB5.out)
        have F5xb := Lib.hid (F4xb.out.belowW HB5.out)
        have HL5 := Lib.hid (HL4.out.trans (HB5.out.mono HL4.out.size))
        clear pr0 fr0 pr1 fr1 pr2 fr2 pr3 fr3 pr4 fr4 pr5 fr5 pr6 fr6 pxa0 fxa0 pxa1 fxa1 pxa2 fxa2 pxb0 fxb0 pxb1 fxb1 pxb2 fxb2
        obtain ⟨pr0, fr0, pr1, fr1, pr2, fr2, pr3, fr3, pr4, fr4, pr5, fr5, pr6, fr6⟩ := F5r.out.all7
        obtain ⟨pxa0, fxa0, pxa1, fxa1, pxa2, fxa2⟩ := F5xa.out.all3
        obtain ⟨pxb0, fxb0, pxb1, fxb1, pxb2, fxb2⟩ := F5xb.out.all3
        by_cases hc : 0 < cv
        case pos =>
          have HE := Lib.hid (show parF l (P : Int) = ((zD, zD, false), 2) from HQ.out.trans (parV_range HTT.out (.inr (by rw [HCV.out]; exact hc))))
          have g3 : decide (0 < cv) = true := decide_eq_true hc
          clear hc
          go_wp2_with fail
          try rw [store7_put F5r.out, F5r.out.put_self]
          refine bodyPost_ret (v := .tuple #[.agg #[.bool false, .slice none 0 0, .int .i64 0, .bool false, .slice none 0 0, .int .i64 0, .bool false], .int .i64 2]) (by simp [results, Tryz.results11, go_sem, pr0, pr1, pr2, pr3, pr4, pr5, pr6]) rfl ?_
          exact ive_no HE.out rfl HL5.out
        case neg =>
          have g3 : decide (0 < cv) = false := decide_eq_false hc
          obtain ⟨lo, hlo⟩ : ∃ x, rndR d1 P false = x := ⟨_, rfl⟩
          obtain ⟨hi, hhi⟩ : ∃ x, rndR d1 P true = x := ⟨_, rfl⟩
          have HLO := Lib.hid hlo
          have HHI := Lib.hid hhi
          have HE := Lib.hid (show parF l (P : Int) = ((lo, hi, false), 0) from HQ.out.trans (parV_end HTT.out (by rintro (h | h); exact HPP.out h; rw [HCV.out] at h; exact hc h) hlo hhi))
          clear hlo hhi hc
          go_wp2_with fail
          refine (round11_at X1 d1 false P lo w5 HX1.out HAd1.out.1 t1 ba1 pb1 pb2 HLO.out).mono ?_
          rintro e w6 ⟨U, u, uc, rfl, HU, HB6⟩
          have F6r := Lib.hid (F5r.out.belowW HB6.out)
          have F6xa := Lib.hid (F5xa.out.belowW HB6.out)
          have F6xb := Lib.hid (F5xb.out.belowW HB6.out)
          have HL6 := Lib.hid (HL5.out.trans (HB6.out.mono HL5.out.size))
          have F6u := Lib.hid (HU.out)
          clear pr0 fr0 pr1 fr1 pr2 fr2 pr3 fr3 pr4 fr4 pr5 fr5 pr6 fr6 pxa0 fxa0 pxa1 fxa1 pxa2 fxa2 pxb0 fxb0 pxb1 fxb1 pxb2 fxb2
          go_upto_region 24 with (fail)
          obtain ⟨w7, hw⟩ : ∃ z9 : World, z9 = w6.alloc (.cells #[.bool lo.neg, .slice U u uc, .int .i64 lo.e] 25) := ⟨_, rfl⟩
          have HB7 := Lib.hid (show Below w6.heap.size w6 w7 by rw [hw]; exact below_a1 _ _)
          have F7lo := Lib.hid (show Blk w7 w6.heap.size 25 #[.bool lo.neg, .slice U u uc, .int .i64 lo.e] by rw [hw]; exact Blk.new _ _ _)
          rw [← hw]
          clear hw
          have F7r := Lib.hid (F6r.out.belowW HB7.out)
          have F7xa := Lib.hid (F6xa.out.belowW HB7.out)
          have F7xb := Lib.hid (F6xb.out.belowW HB7.out)
          have F7u := Lib.hid (F6u.out.belowW HB7.out)
          have HL7 := Lib.hid (HL6.out.trans (HB7.out.mono HL6.out.size))
          obtain ⟨pxb0, fxb0, pxb1, fxb1, pxb2, fxb2⟩ := F7xb.out.all3
          go_wp2_with fail
          refine (round11_at X1 d1 true P hi w7 HX1.out HAd1.out.1 t2 bb1 pb1 pb2 HHI.out).mono ?_
          rintro e w8 ⟨V, v, vc, rfl, HV, HB8⟩
          have F8r := Lib.hid (F7r.out.belowW HB8.out)
          have F8xa := Lib.hid (F7xa.out.belowW HB8.out)
          have F8xb := Lib.hid (F7xb.out.belowW HB8.out)
          have F8u := Lib.hid (F7u.out.belowW HB8.out)
          have F8lo := Lib.hid (F7lo.out.belowW HB8.out)
          have HL8 := Lib.hid (HL7.out.trans (HB8.out.mono HL7.out.size))
          have F8v := Lib.hid (HV.out)
          clear pxb0 fxb0 pxb1 fxb1 pxb2 fxb2
          go_upto_region 27 with (fail)
          obtain ⟨w9, hw⟩ : ∃ z9 : World, z9 = w8.alloc (.cells #[.bool hi.neg, .slice V v vc, .int .i64 hi.e] 25) := ⟨_, rfl⟩
          have HB9 := Lib.hid (show Below w8.heap.size w8 w9 by rw [hw]; exact below_a1 _ _)
          have F9hi := Lib.hid (show Blk w9 w8.heap.size 25 #[.bool hi.neg, .slice V v vc, .int .i64 hi.e] by rw [hw]; exact Blk.new _ _ _)
          rw [← hw]
          clear hw
          have F9r := Lib.hid (F8r.out.belowW HB9.out)
          have F9xa := Lib.hid (F8xa.out.belowW HB9.out)
          have F9xb := Lib.hid (F8xb.out.belowW HB9.out)
          have F9u := Lib.hid (F8u.out.belowW HB9.out)
          have F9lo := Lib.hid (F8lo.out.belowW HB9.out)
          have F9v := Lib.hid (F8v.out.belowW HB9.out)
          have HL9 := Lib.hid (HL8.out.trans (HB9.out.mono HL8.out.size))
          obtain ⟨pr0, fr0, pr1, fr1, pr2, fr2, pr3, fr3, pr4, fr4, pr5, fr5, pr6, fr6⟩ := F9r.out.all7
          obtain ⟨plo0, flo0, plo1, flo1, plo2, flo2⟩ := F9lo.out.all3
          obtain ⟨phi0, fhi0, phi1, fhi1, phi2, fhi2⟩ := F9hi.out.all3
          go_wp2_with fail
          rw [store7_put F9r.out]
          have FR9 := Lib.hid (F9r.out.put #[.bool lo.neg, .slice U u uc, .int .i64 lo.e, .bool hi.neg, .slice V v vc, .int .i64 hi.e, .bool false])
          have HL9 := Lib.hid (HL9.out.trans (putB_below w9 _ 27 #[.bool lo.neg, .slice U u uc, .int .i64 lo.e, .bool hi.neg, .slice V v vc, .int .i64 hi.e, .bool false] (Nat.le_refl _)))
          have S90 := Lib.hid (F9u.out.far F9r.out noU7 (putB_grown w9 w.heap.size 27 #[.bool lo.neg, .slice U u uc, .int .i64 lo.e, .bool hi.neg, .slice V v vc, .int .i64 hi.e, .bool false]))
          have S91 := Lib.hid (F9v.out.far F9r.out noU7 (putB_grown w9 w.heap.size 27 #[.bool lo.neg, .slice U u uc, .int .i64 lo.e, .bool hi.neg, .slice V v vc, .int .i64 hi.e, .bool false]))
          clear pr0 fr0 pr1 fr1 pr2 fr2 pr3 fr3 pr4 fr4 pr5 fr5 pr6 fr6 plo0 flo0 plo1 flo1 plo2 flo2 phi0 fhi0 phi1 fhi1 phi2 fhi2
          obtain ⟨w9, hw⟩ : ∃ z9 : World, z9 = putB w9 w.heap.size 27 #[.bool lo.neg, .slice U u uc, .int .i64 lo.e, .bool hi.neg, .slice V v vc, .int .i64 hi.e, .bool false] := ⟨_, rfl⟩
          rw [← hw] at FR9 HL9 S90 S91 ⊢
          clear hw
          obtain ⟨pr0, fr0, pr1, fr1, pr2, fr2, pr3, fr3, pr4, fr4, pr5, fr5, pr6, fr6⟩ := FR9.out.all7
          refine bodyPost_ret (v := .tuple #[.agg #[.bool lo.neg, .slice U u uc, .int .i64 lo.e, .bool hi.neg, .slice V v vc, .int .i64 hi.e, .bool false], .int .i64 0]) (by simp [results, Tryz.results11, go_sem, pr0, pr1, pr2, pr3, pr4, pr5, pr6]) rfl ?_
          rw [HE.out]
          exact ⟨U, V, u, uc, v, vc, rfl, S90, S91, HL9⟩

end Go.Proofs.YtffdkakogeofmaaGreatDoor
namespace Go.Proofs.YtffdkakogeofmaaGreatDoor
open Go.RowKit Go.Fl Go.Fl.Nm Go.Fl.Dy
set_option maxHeartbeats 16000000 in
set_option maxRecDepth 100000 in
theorem par11_brk (s : ByteArray) (l : List UInt8) (p : Int) (w : World) (hl : s.data.toList = l) (hs : s.size ≤ 3000) (h0 : l ≠ [97, 108, 108]) (hd : l.head? = some 91) :
    Calls Tryz.prog 11 #[.string s, .int .i64 p] w (IvE (parF l p) w) := by
  have n0 : (s.toList == [97, 108, 108]) = false := by rw [bl_data, beq_eq_false_iff_ne, hl]; exact h0
  have H0 := Lib.hid h0
  have hll : l.length = s.size := by rw [← hl]; rfl
  have H1 := Lib.hid hd
  obtain ⟨lt, hlt⟩ : ∃ lt, l.tail = lt := ⟨_, rfl⟩
  have HLT := Lib.hid hlt
  obtain ⟨s', hx⟩ : ∃ s', s.extract 1 s.size = s' := ⟨_, rfl⟩
  have ht' : s'.data.toList = lt := by rw [← hx, ext_one hl, hlt]
  have hsz : 0 < s.size := by rw [← hll]; cases l with
    | nil => cases hd
    | cons a l => exact Nat.succ_pos _
  have hb : s[0] = 91 := byte_at hl hsz (by rw [← List.head?_eq_getElem?]; exact hd)
  have hbn : (s[0].toNat : Int) = 91 := by rw [hb]; rfl
  have hbd : decide ((s[0].toNat : Int) = 91) = true := decide_eq_true hbn
  have d0 : decide ((0 : Int) < (s.size : Int)) = true := decide_eq_true (by omega)
  have d0' : decide (0 < s.size) = true := decide_eq_true hsz
  have hlt3 : lt.length ≤ 3000 := by rw [← hlt, List.length_tail]; omega
  have hs2 : s'.size ≤ 100000 := by
    have : lt.length = s'.size := by rw [← ht']; rfl
    omega
  have HF := Lib.hid ht'
  obtain ⟨⟨d1, t1, ok1⟩, hr1⟩ : ∃ r, rdR lt = r := ⟨_, rfl⟩
  have HR1 := Lib.hid hr1
  have HAd1 := Lib.hid (rdR_all hr1)
  have ht13 : t1.length ≤ 3000 := by have := rdR_len lt; rw [hr1] at this; simp only at this; omega
  clear hll hd hlt ht' h0 hr1 hlt3
  go_enter Tryz.func11, Tryz.ntmps11
  go_wp2_with fail
  obtain ⟨w1, hw⟩ : ∃ z9 : World, z9 = (w.alloc (.cells #[.bool false, .slice none 0 0, .int .i64 0, .bool false, .slice none 0 0, .int .i64 0, .bool false] 27)) := ⟨_, rfl⟩
  have HB1 := Lib.hid (show Below w.heap.size w w1 by rw [hw]; exact below_a1 _ _)
  have F1r := Lib.hid (show Blk w1 (w.heap.size) 27 #[.bool false, .slice none 0 0, .int .i64 0, .bool false, .slice none 0 0, .int .i64 0, .bool false] by rw [hw]; exact Blk.new _ _ _)
  rw [← hw]
  clear hw
  obtain ⟨pr0, fr0, pr1, fr1, pr2, fr2, pr3, fr3, pr4, fr4, pr5, fr5, pr6, fr6⟩ := F1r.out.all7
  go_wp2_with fail
  refine (read11_at s' lt t1 d1 ok1 w1 HF.out HR1.out hs2).mono ?_
  rintro e w2 ⟨X1, T1, rfl, HX1, HT1, HB2⟩
  have F2r := Lib.hid (F1r.out.belowW HB2.out)
  have HL2 := Lib.hid (HB1.out.trans (HB2.out.mono HB1.out.size))
  clear pr0 fr0 pr1 fr1 pr2 fr2 pr3 fr3 pr4 fr4 pr5 fr5 pr6 fr6
  go_upto_region 9 with (fail)
  obtain ⟨w3, hw⟩ : ∃ z9 : World, z9 = w2.alloc (.cells #[.string X1, .int .i64 (d1.b : Int), .bool d1.neg] 64) := ⟨_, rfl⟩
  have HB3 := Lib.hid (show Below w2.heap.size w2 w3 by rw [hw]; exact below_a1 _ _)
  have F3xa := Lib.hid (show Blk w3 w2.heap.size 64 #[.string X1, .int .i64 (d1.b : Int), .bool d1.neg] by rw [hw]; exact Blk.new _ _ _)
  rw [← hw]
  clear hw
  have F3r := Lib.hid (F2r.out.belowW HB3.out)
  have HL3 := Lib.hid (HL2.out.trans (HB3.out.mono HL2.out.size))
  obtain ⟨pxa0, fxa0, pxa1, fxa1, pxa2, fxa2⟩ := F3xa.out.all3
  go_upto_region 10 with (fail)
  obtain ⟨w4, hw⟩ : ∃ z9 : World, z9 = w3.alloc (.cells #[.string X1, .int .i64 (d1.b : Int), .bool d1.neg] 64) := ⟨_, rfl⟩
  have HB4 := Lib.hid (show Below w3.heap.size w3 w4 by rw [hw]; exact below_a1 _ _)
  have F4xb := Lib.hid (show Blk w4 w3.heap.size 64 #[.string X1, .int .i64 (d1.b : Int), .bool d1.neg] by rw [hw]; exact Blk.new _ _ _)
  rw [← hw]
  clear hw
  have F4r := Lib.hid (F3r.out.belowW HB4.out)
  have F4xa := Lib.hid (F3xa.out.belowW HB4.out)
  have HL4 := Lib.hid (HL3.out.trans (HB4.out.mono HL3.out.size))
  have HNE := Lib.hid (show w2.heap.size ≠ w3.heap.size by have := F3xa.out.lt; omega)
  have HNR := Lib.hid (show w.heap.size ≠ w3.heap.size by have := F3r.out.lt; omega)
  have HGE := Lib.hid (show w.heap.size ≤ w3.heap.size by have := F3r.out.lt; omega)
  cases ok1 with
  | false =>
    have HE := Lib.hid (show parF l p = ((zD, zD, false), 3) by refine parF_none H0.out ?_; unfold frm; rw [if_pos H1.out, HLT.out, HR1.out]; simp only; rfl)
    clear pxa0 fxa0 pxa1 fxa1 pxa2 fxa2
    obtain ⟨pr0, fr0, pr1, fr1, pr2, fr2, pr3, fr3, pr4, fr4, pr5, fr5, pr6, fr6⟩ := F4r.out.all7
    go_wp2_with fail
    try rw [store7_put F4r.out, F4r.out.put_self]
    refine bodyPost_ret (v := .tuple #[.agg #[.bool false, .slice none 0 0, .int .i64 0, .bool false, .slice none 0 0, .int .i64 0, .bool false], .int .i64 3]) (by simp [results, Tryz.results11, go_sem, pr0, pr1, pr2, pr3, pr4, pr5, pr6]) rfl ?_
    exact ive_no HE.out rfl HL4.out
  | true =>
    have ST1 : t1.length = T1.size := by rw [← HT1.out]; rfl
    by_cases hlen : t1.length < 2
    case pos =>
      have e0 : decide ((T1.size : Int) < 2) = true := decide_eq_true (by omega)
      have e0' : decide (T1.size < 2) = true := decide_eq_true (by omega)
      have hne : t1.take 2 ≠ [44, 32] := fun h => by have := congrArg List.length h; rw [List.length_take] at this; simp at this; omega
      have HE := Lib.hid (show parF l p = ((zD, zD, false), 3) by refine parF_none H0.out ?_; unfold frm; rw [if_pos H1.out, HLT.out, HR1.out]; simp only; rw [decide_eq_false hne]; rfl)
      clear pxa0 fxa0 pxa1 fxa1 pxa2 fxa2
      obtain ⟨pr0, fr0, pr1, fr1, pr2, fr2, pr3, fr3, pr4, fr4, pr5, fr5, pr6, fr6⟩ := F4r.out.all7
      go_wp2_with fail
      try rw [store7_put F4r.out, F4r.out.put_self]
      refine bodyPost_ret (v := .tuple #[.agg #[.bool false, .slice none 0 0, .int .i64 0, .bool false, .slice none 0 0, .int .i64 0, .bool false], .int .i64 3]) (by simp [results, Tryz.results11, go_sem, pr0, pr1, pr2, pr3, pr4, pr5, pr6]) rfl ?_
      exact ive_no HE.out rfl HL4.out
    case neg =>
      have e0 : decide ((T1.size : Int) < 2) = false := decide_eq_false (by omega)
      have e0' : decide (T1.size < 2) = false := decide_eq_false (by omega)
      have b2 : (2 : Int) ≤ (T1.size : Int) := by omega
      have b2' : 2 ≤ T1.size := by omega
      obtain ⟨U1, hU1⟩ : ∃ z, T1.extract 0 2 = z := ⟨_, rfl⟩
      have HU1 := Lib.hid (show U1.toList = t1.take 2 by rw [← hU1, bl_data, Lib.extract_data, HT1.out]; simp)
      by_cases hsep : t1.take 2 = [44, 32]
      case neg =>
        have e1 : (U1.toList == [44, 32]) = false := by rw [beq_eq_false_iff_ne, HU1.out]; exact hsep
        have e1' : (U1.toList != [44, 32]) = true := by unfold bne; rw [e1]; rfl
        have HE := Lib.hid (show parF l p = ((zD, zD, false), 3) by refine parF_none H0.out ?_; unfold frm; rw [if_pos H1.out, HLT.out, HR1.out]; simp only; rw [decide_eq_false hsep]; rfl)
        clear pxa0 fxa0 pxa1 fxa1 pxa2 fxa2
        obtain ⟨pr0, fr0, pr1, fr1, pr2, fr2, pr3, fr3, pr4, fr4, pr5, fr5, pr6, fr6⟩ := F4r.out.all7
        go_wp2_with fail
        try rw [store7_put F4r.out, F4r.out.put_self]
        refine bodyPost_ret (v := .tuple #[.agg #[.bool false, .slice none 0 0, .int .i64 0, .bool false, .slice none 0 0, .int .i64 0, .bool false], .int .i64 3]) (by simp [results, Tryz.results11, go_sem, pr0, pr1, pr2, pr3, pr4, pr5, pr6]) rfl ?_
        exact ive_no HE.out rfl HL4.out
      case pos =>
        have e1 : (U1.toList == [44, 32]) = true := by rw [HU1.out, hsep]; rfl
        have e1' : (U1.toList != [44, 32]) = false := by unfold bne; rw [e1]; rfl
        obtain ⟨u1, hu1⟩ : ∃ z, t1.drop 2 = z := ⟨_, rfl⟩
        have HU := Lib.hid hu1
        obtain ⟨V1, hV1⟩ : ∃ z, T1.extract 2 T1.size = z := ⟨_, rfl⟩
        have HV1 := Lib.hid (show V1.data.toList = u1 by rw [← hV1, Lib.extract_to_end, HT1.out, hu1])
        have hV5 : V1.size ≤ 100000 := by
          have h1 : u1.length = V1.size := by rw [← HV1.out]; rfl
          have h2 : u1.length ≤ t1.length := by rw [← hu1, List.length_drop]; omega
          omega
        obtain ⟨⟨d2, t2, ok2⟩, hr2⟩ : ∃ r, rdR u1 = r := ⟨_, rfl⟩
        have HR2 := Lib.hid hr2
        have HAd2 := Lib.hid (rdR_all hr2)
        have HSEP := Lib.hid hsep
        clear hr2 hu1 hsep hlen
        clear pxa0 fxa0 pxa1 fxa1 pxa2 fxa2
        obtain ⟨pr0, fr0, pr1, fr1, pr2, fr2, pr3, fr3, pr4, fr4, pr5, fr5, pr6, fr6⟩ := F4r.out.all7
        obtain ⟨pxb0, fxb0, pxb1, fxb1, pxb2, fxb2⟩ := F4xb.out.all3
        go_wp2_with fail
        refine (read11_at V1 u1 t2 d2 ok2 w4 HV1.out HR2.out hV5).mono ?_
        rintro e w5 ⟨X2, T2, rfl, HX2, HT2, HB5⟩
        have F5r := Lib.hid (F4r.out.belowW HB5.out)
        have F5xa := Lib.hid (F4xa.out.belowW HB5.out)
        have F5xb := Lib.hid (F4xb.out.belowW HB5.out)
        have HL5 := Lib.hid (HL4.out.trans (HB5.out.mono HL4.out.size))
        clear pr0 fr0 pr1 fr1 pr2 fr2 pr3 fr3 pr4 fr4 pr5 fr5 pr6 fr6 pxb0 fxb0 pxb1 fxb1 pxb2 fxb2
        obtain ⟨pr0, fr0, pr1, fr1, pr2, fr2, pr3, fr3, pr4, fr4, pr5, fr5, pr6, fr6⟩ := F5r.out.all7
        obtain ⟨pxb0, fxb0, pxb1, fxb1, pxb2, fxb2⟩ := F5xb.out.all3
        go_upto_region 14 with (fail)
        rw [store3_put F5xb.out]
        have FB9 := Lib.hid (F5xb.out.put #[.string X2, .int .i64 (d2.b : Int), .bool d2.neg])
        have FA9 := Lib.hid (F5xa.out.far (t' := 64) HNE.out #[.string X2, .int .i64 (d2.b : Int), .bool d2.neg])
        have FR8 := Lib.hid (F5r.out.far (t' := 64) HNR.out #[.string X2, .int .i64 (d2.b : Int), .bool d2.neg])
        have HL8 := Lib.hid (HL5.out.trans (putB_below w5 _ 64 #[.string X2, .int .i64 (d2.b : Int), .bool d2.neg] HGE.out))
        clear pr0 fr0 pr1 fr1 pr2 fr2 pr3 fr3 pr4 fr4 pr5 fr5 pr6 fr6 pxb0 fxb0 pxb1 fxb1 pxb2 fxb2
        obtain ⟨w8, hw⟩ : ∃ z9 : World, z9 = putB w5 (w3.heap.size) 64 #[.string X2, .int .i64 (d2.b : Int), .bool d2.neg] := ⟨_, rfl⟩
        rw [← hw] at FB9 FA9 FR8 HL8 ⊢
        clear hw
        cases ok2 with
        | false =>
          have HE := Lib.hid (show parF l p = ((zD, zD, false), 3) by refine parF_none H0.out ?_; unfold frm; rw [if_pos H1.out, HLT.out, HR1.out]; simp only; rw [decide_eq_true HSEP.out, HU.out, HR2.out]; simp only; rfl)
          obtain ⟨pr0, fr0, pr1, fr1, pr2, fr2, pr3, fr3, pr4, fr4, pr5, fr5, pr6, fr6⟩ := FR8.out.all7
          go_wp2_with fail
          try rw [store7_put FR8.out, FR8.out.put_self]
          refine bodyPost_ret (v := .tuple #[.agg #[.bool false, .slice none 0 0, .int .i64 0, .bool false, .slice none 0 0, .int .i64 0, .bool false], .int .i64 3]) (by simp [results, Tryz.results11, go_sem, pr0, pr1, pr2, pr3, pr4, pr5, pr6]) rfl ?_
          exact ive_no HE.out rfl HL8.out
        | true =>
          by_cases ht2 : t2 = [93]
          case neg =>
            have e2 : (T2.toList == [93]) = false := by rw [bl_data, beq_eq_false_iff_ne, HT2.out]; exact ht2
            have HE := Lib.hid (show parF l p = ((zD, zD, false), 3) by refine parF_none H0.out ?_; unfold frm; rw [if_pos H1.out, HLT.out, HR1.out]; simp only; rw [decide_eq_true HSEP.out, HU.out, HR2.out]; simp only; rw [decide_eq_false ht2]; rfl)
            obtain ⟨pr0, fr0, pr1, fr1, pr2, fr2, pr3, fr3, pr4, fr4, pr5, fr5, pr6, fr6⟩ := FR8.out.all7
            go_wp2_with fail
            try rw [store7_put FR8.out, FR8.out.put_self]
            refine bodyPost_ret (v := .tuple #[.agg #[.bool false, .slice none 0 0, .int .i64 0, .bool false, .slice none 0 0, .int .i64 0, .bool false], .int .i64 3]) (by simp [results, Tryz.results11, go_sem, pr0, pr1, pr2, pr3, pr4, pr5, pr6]) rfl ?_
            exact ive_no HE.out rfl HL8.out
          subst ht2
          have e2 : (T2.toList == [93]) = true := by rw [bl_data, HT2.out]; rfl
          have HQ := Lib.hid (show parF l p = parV d1 d2 p by refine parF_some H0.out ?_; unfold frm; rw [if_pos H1.out, HLT.out, HR1.out]; simp only; rw [decide_eq_true HSEP.out, HU.out, HR2.out]; rfl)
          have SX : X1.size = d1.ds.length := by rw [← HX1.out]; rfl
          have SY : X2.size = d2.ds.length := by rw [← HX2.out]; rfl
          obtain ⟨pr0, fr0, pr1, fr1, pr2, fr2, pr3, fr3, pr4, fr4, pr5, fr5, pr6, fr6⟩ := FR8.out.all7
          obtain ⟨pxa0, fxa0, pxa1, fxa1, pxa2, fxa2⟩ := FA9.out.all3
          obtain ⟨pxb0, fxb0, pxb1, fxb1, pxb2, fxb2⟩ := FB9.out.all3
          by_cases ht : 256 < d1.ds.length ∨ 256 < d2.ds.length
          case pos =>
            have HE := Lib.hid (show parF l p = ((zD, zD, false), 5) from HQ.out.trans (parV_full ht))
            by_cases h1 : 256 < d1.ds.length
            case pos =>
              have g1 : decide ((256 : Int) < (X1.size : Int)) = true := decide_eq_true (by omega)
              have g1' : decide (256 < X1.size) = true := decide_eq_true (by omega)
              go_wp2_with fail
              try rw [store7_put FR8.out, FR8.out.put_self]
              refine bodyPost_ret (v := .tuple #[.agg #[.bool false, .slice none 0 0, .int .i64 0, .bool false, .slice none 0 0, .int .i64 0, .bool false], .int .i64 5]) (by simp [results, Tryz.results11, go_sem, pr0, pr1, pr2, pr3, pr4, pr5, pr6]) rfl ?_
              exact ive_no HE.out rfl HL8.out
            case neg =>
              have g1 : decide ((256 : Int) < (X1.size : Int)) = false := decide_eq_false (by omega)
              have g1' : decide (256 < X1.size) = false := decide_eq_false (by omega)
              have g2 : decide ((256 : Int) < (X2.size : Int)) = true := decide_eq_true (by omega)
              have g2' : decide (256 < X2.size) = true := decide_eq_true (by omega)
              go_wp2_with fail
              try rw [store7_put FR8.out, FR8.out.put_self]
              refine bodyPost_ret (v := .tuple #[.agg #[.bool false, .slice none 0 0, .int .i64 0, .bool false, .slice none 0 0, .int .i64 0, .bool false], .int .i64 5]) (by simp [results, Tryz.results11, go_sem, pr0, pr1, pr2, pr3, pr4, pr5, pr6]) rfl ?_
              exact ive_no HE.out rfl HL8.out
          case neg =>
            have t1 : d1.ds.length ≤ 256 := by omega
            have t2 : d2.ds.length ≤ 256 := by omega
            have g1 : decide ((256 : Int) < (X1.size : Int)) = false := decide_eq_false (by omega)
            have g1' : decide (256 < X1.size) = false := decide_eq_false (by omega)
            have g2 : decide ((256 : Int) < (X2.size : Int)) = false := decide_eq_false (by omega)
            have g2' : decide (256 < X2.size) = false := decide_eq_false (by omega)
            have HTT := Lib.hid ht
            clear ht
            by_cases hp : p < 8 ∨ 512 < p
            case pos =>
              have HE := Lib.hid (show parF l p = ((zD, zD, false), 2) from HQ.out.trans (parV_range HTT.out (.inl hp)))
              have HPB := Lib.hid (show precB p = false by unfold precB; exact decide_eq_false (by omega))
              go_wp2_with fail
              refine (prec03 p w8).mono ?_
              rw [HPB.out]
              rintro e w' ⟨rfl, rfl⟩
              go_wp2_with fail
              try rw [store7_put FR8.out, FR8.out.put_self]
              refine bodyPost_ret (v := .tuple #[.agg #[.bool false, .slice none 0 0, .int .i64 0, .bool false, .slice none 0 0, .int .i64 0, .bool false], .int .i64 2]) (by simp [results, Tryz.results11, go_sem, pr0, pr1, pr2, pr3, pr4, pr5, pr6]) rfl ?_
              exact ive_no HE.out rfl HL8.out
            case neg =>
              have HPB := Lib.hid (show precB p = true by unfold precB; exact decide_eq_true (by omega))
              obtain ⟨P, rfl⟩ : ∃ P : Nat, p = (P : Int) := ⟨p.toNat, by omega⟩
              have pb1 : 8 ≤ P := by omega
              have pb2 : P ≤ 512 := by omega
              have za1 : d1.ds.length ≤ 600 := by omega
              have zb1 : d2.ds.length ≤ 600 := by omega
              have ba0 := HAd1.out.2
              have bb0 := HAd2.out.2
              have ba1 : d1.b ≤ 256 := by omega
              have bb1 : d2.b ≤ 256 := by omega
              have ba2 : d1.b ≤ 600 := by omega
              have bb2 : d2.b ≤ 600 := by omega
              obtain ⟨cv, hcv⟩ : ∃ z, cmpV d1.neg (dval d1.ds * 10 ^ d2.b) d2.neg (dval d2.ds * 10 ^ d1.b) = z := ⟨_, rfl⟩
              have HCV := Lib.hid hcv
              have HPP := Lib.hid hp
              clear hp hcv ba0 bb0
              go_wp2_with fail
              refine (prec03 (P : Int) w8).mono ?_
              rw [HPB.out]
              rintro e w' ⟨rfl, rfl⟩
              go_wp2_with fail
              refine (compare11 X1 X2 d1.ds d2.ds d1.b d2.b d1.neg d2.neg w8 HX1.out HX2.out HAd1.out.1 HAd2.out.1 za1 zb1 ba2 bb2).mono ?_
              rw [HCV.out]
              rintro e w6 ⟨rfl, HB6⟩
              have F6r := Lib.hid (FR8.out.belowW HB6.out)
              have F6xa := Lib.hid (FA9.out.belowW HB6.out)
              have F6xb := Lib.hid (FB9.out.belowW HB6.out)
              have HL6 := Lib.hid (HL8.out.trans (HB6.out.mono HL8.out.size))
              clear pr0 fr0 pr1 fr1 pr2 fr2 pr3 fr3 pr4 fr4 pr5 fr5 pr6 fr6 pxa0 fxa0 pxa1 fxa1 pxa2 fxa2 pxb0 fxb0 pxb1 fxb1 pxb2 fxb2
              obtain ⟨pr0, fr0, pr1, fr1, pr2, fr2, pr3, fr3, pr4, fr4, pr5, fr5, pr6, fr6⟩ := F6r.out.all7
              obtain ⟨pxa0, fxa0, pxa1, fxa1, pxa2, fxa2⟩ := F6xa.out.all3
              obtain ⟨pxb0, fxb0, pxb1, fxb1, pxb2, fxb2⟩ := F6xb.out.all3
              by_cases hc : 0 < cv
              case pos =>
                have HE := Lib.hid (show parF l (P : Int) = ((zD, zD, false), 2) from HQ.out.trans (parV_range HTT.out (.inr (by rw [HCV.out]; exact hc))))
                have g3 : decide (0 < cv) = true := decide_eq_true hc
                clear hc
                go_wp2_with fail
                try rw [store7_put F6r.out, F6r.out.put_self]
                refine bodyPost_ret (v := .tuple #[.agg #[.bool false, .slice none 0 0, .int .i64 0, .bool false, .slice none 0 0, .int .i64 0, .bool false], .int .i64 2]) (by simp [results, Tryz.results11, go_sem, pr0, pr1, pr2, pr3, pr4, pr5, pr6]) rfl ?_
                exact ive_no HE.out rfl HL6.out
              case neg =>
                have g3 : decide (0 < cv) = false := decide_eq_false hc
                obtain ⟨lo, hlo⟩ : ∃ x, rndR d1 P false = x := ⟨_, rfl⟩
                obtain ⟨hi, hhi⟩ : ∃ x, rndR d2 P true = x := ⟨_, rfl⟩
                have HLO := Lib.hid hlo
                have HHI := Lib.hid hhi
                have HE := Lib.hid (show parF l (P : Int) = ((lo, hi, false), 0) from HQ.out.trans (parV_end HTT.out (by rintro (h | h); exact HPP.out h; rw [HCV.out] at h; exact hc h) hlo hhi))
                clear hlo hhi hc
                go_wp2_with fail
                refine (round11_at X1 d1 false P lo w6 HX1.out HAd1.out.1 t1 ba1 pb1 pb2 HLO.out).mono ?_
                rintro e w7 ⟨U, u, uc, rfl, HU, HB7⟩
                have F7r := Lib.hid (F6r.out.belowW HB7.out)
                have F7xa := Lib.hid (F6xa.out.belowW HB7.out)
                have F7xb := Lib.hid (F6xb.out.belowW HB7.out)
                have HL7 := Lib.hid (HL6.out.trans (HB7.out.mono HL6.out.size))
                have F7u := Lib.hid (HU.out)
                clear pr0 fr0 pr1 fr1 pr2 fr2 pr3 fr3 pr4 fr4 pr5 fr5 pr6 fr6 pxa0 fxa0 pxa1 fxa1 pxa2 fxa2 pxb0 fxb0 pxb1 fxb1 pxb2 fxb2
                go_upto_region 24 with (fail)
                obtain ⟨w8, hw⟩ : ∃ z9 : World, z9 = w7.alloc (.cells #[.bool lo.neg, .slice U u uc, .int .i64 lo.e] 25) := ⟨_, rfl⟩
                have HB8 := Lib.hid (show Below w7.heap.size w7 w8 by rw [hw]; exact below_a1 _ _)
                have F8lo := Lib.hid (show Blk w8 w7.heap.size 25 #[.bool lo.neg, .slice U u uc, .int .i64 lo.e] by rw [hw]; exact Blk.new _ _ _)
                rw [← hw]
                clear hw
                have F8r := Lib.hid (F7r.out.belowW HB8.out)
                have F8xa := Lib.hid (F7xa.out.belowW HB8.out)
                have F8xb := Lib.hid (F7xb.out.belowW HB8.out)
                have F8u := Lib.hid (F7u.out.belowW HB8.out)
                have HL8 := Lib.hid (HL7.out.trans (HB8.out.mono HL7.out.size))
                obtain ⟨pxb0, fxb0, pxb1, fxb1, pxb2, fxb2⟩ := F8xb.out.all3
                go_wp2_with fail
                refine (round11_at X2 d2 true P hi w8 HX2.out HAd2.out.1 t2 bb1 pb1 pb2 HHI.out).mono ?_
                rintro e w9 ⟨V, v, vc, rfl, HV, HB9⟩
                have F9r := Lib.hid (F8r.out.belowW HB9.out)
                have F9xa := Lib.hid (F8xa.out.belowW HB9.out)
                have F9xb := Lib.hid (F8xb.out.belowW HB9.out)
                have F9u := Lib.hid (F8u.out.belowW HB9.out)
                have F9lo := Lib.hid (F8lo.out.belowW HB9.out)
                have HL9 := Lib.hid (HL8.out.trans (HB9.out.mono HL8.out.size))
                have F9v := Lib.hid (HV.out)
                clear pxb0 fxb0 pxb1 fxb1 pxb2 fxb2
                go_upto_region 27 with (fail)
                obtain ⟨w10, hw⟩ : ∃ z9 : World, z9 = w9.alloc (.cells #[.bool hi.neg, .slice V v vc, .int .i64 hi.e] 25) := ⟨_, rfl⟩
                have HB10 := Lib.hid (show Below w9.heap.size w9 w10 by rw [hw]; exact below_a1 _ _)
                have F10hi := Lib.hid (show Blk w10 w9.heap.size 25 #[.bool hi.neg, .slice V v vc, .int .i64 hi.e] by rw [hw]; exact Blk.new _ _ _)
                rw [← hw]
                clear hw
                have F10r := Lib.hid (F9r.out.belowW HB10.out)
                have F10xa := Lib.hid (F9xa.out.belowW HB10.out)
                have F10xb := Lib.hid (F9xb.out.belowW HB10.out)
                have F10u := Lib.hid (F9u.out.belowW HB10.out)
                have F10lo := Lib.hid (F9lo.out.belowW HB10.out)
                have F10v := Lib.hid (F9v.out.belowW HB10.out)
                have HL10 := Lib.hid (HL9.out.trans (HB10.out.mono HL9.out.size))
                obtain ⟨pr0, fr0, pr1, fr1, pr2, fr2, pr3, fr3, pr4, fr4, pr5, fr5, pr6, fr6⟩ := F10r.out.all7
                obtain ⟨plo0, flo0, plo1, flo1, plo2, flo2⟩ := F10lo.out.all3
                obtain ⟨phi0, fhi0, phi1, fhi1, phi2, fhi2⟩ := F10hi.out.all3
                go_wp2_with fail
                rw [store7_put F10r.out]
                have FR9 := Lib.hid (F10r.out.put #[.bool lo.neg, .slice U u uc, .int .i64 lo.e, .bool hi.neg, .slice V v vc, .int .i64 hi.e, .bool false])
                have HL9 := Lib.hid (HL10.out.trans (putB_below w10 _ 27 #[.bool lo.neg, .slice U u uc, .int .i64 lo.e, .bool hi.neg, .slice V v vc, .int .i64 hi.e, .bool false] (Nat.le_refl _)))
                have S90 := Lib.hid (F10u.out.far F10r.out noU7 (putB_grown w10 w.heap.size 27 #[.bool lo.neg, .slice U u uc, .int .i64 lo.e, .bool hi.neg, .slice V v vc, .int .i64 hi.e, .bool false]))
                have S91 := Lib.hid (F10v.out.far F10r.out noU7 (putB_grown w10 w.heap.size 27 #[.bool lo.neg, .slice U u uc, .int .i64 lo.e, .bool hi.neg, .slice V v vc, .int .i64 hi.e, .bool false]))
                clear pr0 fr0 pr1 fr1 pr2 fr2 pr3 fr3 pr4 fr4 pr5 fr5 pr6 fr6 plo0 flo0 plo1 flo1 plo2 flo2 phi0 fhi0 phi1 fhi1 phi2 fhi2
                obtain ⟨w9, hw⟩ : ∃ z9 : World, z9 = putB w10 w.heap.size 27 #[.bool lo.neg, .slice U u uc, .int .i64 lo.e, .bool hi.neg, .slice V v vc, .int .i64 hi.e, .bool false] := ⟨_, rfl⟩
                rw [← hw] at FR9 HL9 S90 S91 ⊢
                clear hw
                obtain ⟨pr0, fr0, pr1, fr1, pr2, fr2, pr3, fr3, pr4, fr4, pr5, fr5, pr6, fr6⟩ := FR9.out.all7
                refine bodyPost_ret (v := .tuple #[.agg #[.bool lo.neg, .slice U u uc, .int .i64 lo.e, .bool hi.neg, .slice V v vc, .int .i64 hi.e, .bool false], .int .i64 0]) (by simp [results, Tryz.results11, go_sem, pr0, pr1, pr2, pr3, pr4, pr5, pr6]) rfl ?_
                rw [HE.out]
                exact ⟨U, V, u, uc, v, vc, rfl, S90, S91, HL9⟩
theorem par11_any (s : ByteArray) (l : List UInt8) (p : Int) (w : World) (hl : s.data.toList = l) (hs : s.size ≤ 3000) : Calls Tryz.prog 11 #[.string s, .int .i64 p] w (IvE (parF l p) w) := by
  by_cases h0 : l = [97, 108, 108]
  · have e : s = ⟨#[97, 108, 108]⟩ := ba_list (hl.trans h0)
    subst e
    subst h0
    exact par11_all p w
  · cases hd : l.head? with
    | none => exact par11_nil s l p w hl hs h0 (List.head?_eq_none_iff.1 hd)
    | some q0 =>
      by_cases hq : q0 = 91
      · subst hq
        exact par11_brk s l p w hl hs h0 hd
      · exact par11_plain s l p w hl hs h0 q0 hd hq
end Go.Proofs.YtffdkakogeofmaaGreatDoor
