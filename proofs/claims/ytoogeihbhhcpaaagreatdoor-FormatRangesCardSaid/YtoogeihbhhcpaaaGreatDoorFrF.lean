/-
  The walk of FormatRanges.
-/
import Derived.Test.YtoogeihbhhcpaaaGreatDoorFrE
import Derived.Test.YtoogeihbhhcpaaaGreatDoorFmZ
set_option linter.unusedVariables false
namespace Go.Proofs.YtoogeihbhhcpaaaGreatDoor
open Go.RowKit Go.Fl Go.Fl.Nm Go.Fl.Dy Go.Fl.Rt Go.Fl.Fm
theorem str_eq {S T : ByteArray} {l : List UInt8} (h : S.data.toList = l) (h' : T.data.toList = l) : S = T := by
  rw [← h'] at h
  cases S; cases T; simpa using h
def GRel (w : World) (len : Nat) (k : Nat) (iv : Value) (wr : World) : Prop :=
  ∃ j : Nat, iv = .int .i64 j ∧ j ≤ len ∧ k = len - j ∧ Hid (Below w.heap.size w wr)

set_option maxHeartbeats 4000000 in
set_option maxRecDepth 100000 in
theorem ranges_long (a b c d : Int) (A : Option Addr) (len cap : Nat) (xs : List IvN) (q : Int) (w : World) (k : R4 a b c d) (hx : InB w A len cap xs) (hT : RB w) (hl : 20 < len) : Calls Tryz.prog 4 #[.agg #[.int .i64 a, .int .i64 b, .int .i64 c, .int .i64 d], .slice A len cap, .int .i64 q] w (RetB (.bool true) w) := by
  have HT := Lib.hid hT
  have d1 : decide ((20 : Int) < (len : Int)) = true := decide_eq_true (by omega)
  clear k hx hT hl
  go_enter Tryz.func4, Tryz.ntmps4
  go_wp2_with fail
  obtain ⟨w1, hw⟩ : ∃ z9 : World, z9 = (w.alloc (.cells #[.int .i64 a, .int .i64 b, .int .i64 c, .int .i64 d] 36)) := ⟨_, rfl⟩
  have HB1 := Lib.hid (show Below w.heap.size w w1 by rw [hw]; exact below_a1 _ _)
  have F1t := Lib.hid (HT.out.belowW HB1.out)
  have F1r := Lib.hid (show Blk w1 (w.heap.size) 36 #[.int .i64 a, .int .i64 b, .int .i64 c, .int .i64 d] by rw [hw]; exact Blk.new _ _ _)
  rw [← hw]
  clear hw
  refine (fAwake_any w1 F1t.out).mono ?_
  rintro e w2 ⟨rfl, HB2⟩
  have F2t := Lib.hid (F1t.out.belowW HB2.out)
  have F2r := Lib.hid (F1r.out.belowW HB2.out)
  have HL2 := Lib.hid (HB1.out.trans (HB2.out.mono HB1.out.size))
  go_wp2_with fail
  go_ret
  exact ⟨rfl, HL2⟩

set_option maxHeartbeats 8000000 in
set_option maxRecDepth 100000 in
theorem ranges_main (a b c d : Int) (A : Option Addr) (len cap : Nat) (xs : List IvN) (q : Int) (w : World) (k : R4 a b c d) (hx : InB w A len cap xs) (hT : RB w) (hl : ¬ 20 < len) : Calls Tryz.prog 4 #[.agg #[.int .i64 a, .int .i64 b, .int .i64 c, .int .i64 d], .slice A len cap, .int .i64 q] w (RetB (.bool true) w) := by
  have KR := Lib.hid k
  have HX := Lib.hid hx
  have HT := Lib.hid hT
  have d1 : decide ((20 : Int) < (len : Int)) = false := decide_eq_false (by omega)
  obtain ⟨v, hv⟩ : ∃ v, (vB a b && vB c d) = v := ⟨_, rfl⟩
  have HV := Lib.hid hv
  clear k hx hT hv
  go_enter Tryz.func4, Tryz.ntmps4
  go_wp2_with fail
  obtain ⟨w1, hw⟩ : ∃ z9 : World, z9 = (w.alloc (.cells #[.int .i64 a, .int .i64 b, .int .i64 c, .int .i64 d] 36)) := ⟨_, rfl⟩
  have HB1 := Lib.hid (show Below w.heap.size w w1 by rw [hw]; exact below_a1 _ _)
  have F1t := Lib.hid (HT.out.belowW HB1.out)
  have F1x := Lib.hid (HX.out.belowW HB1.out)
  have F1r := Lib.hid (show Blk w1 (w.heap.size) 36 #[.int .i64 a, .int .i64 b, .int .i64 c, .int .i64 d] by rw [hw]; exact Blk.new _ _ _)
  rw [← hw]
  clear hw
  refine (fAwake_any w1 F1t.out).mono ?_
  rintro e w2 ⟨rfl, HB2⟩
  have F2t := Lib.hid (F1t.out.belowW HB2.out)
  have F2x := Lib.hid (F1x.out.belowW HB2.out)
  have F2r := Lib.hid (F1r.out.belowW HB2.out)
  have HL2 := Lib.hid (HB1.out.trans (HB2.out.mono HB1.out.size))
  go_wp2_with fail
  clear d1
  go_loopg [22] len (GRel w2 len)
  case atStart => exact ⟨0, rfl, by omega, by omega, Lib.hid (Below.refl _ _)⟩
  case round =>
    obtain ⟨j, rfl, hj, rfl, HW⟩ := hrel
    have hls := HW.out.size
    by_cases hlt : j < len
    · obtain ⟨bb, o, x, hA, ht, hin, h7⟩ := (F2x.out.belowW HW.out).at_ j hlt
      subst hA
      obtain ⟨hbl, x0, x1, x2, x3, x4, x5, x6⟩ := h7
      have d3 : decide ((j : Int) < (len : Int)) = true := decide_eq_true (by omega)
      clear ht hin
      have HN2 := Lib.hid (show Below w2.heap.size w2 (wr.alloc (.cells #[.bool x.na, .slice x.A x.n x.c, .int .i64 x.ea, .bool x.nb, .slice x.B x.m x.d, .int .i64 x.eb, .bool x.all] 42)) from HW.out.trans ((below_a1 _ _).mono hls))
      by_cases g1 : 40 < x.n
      · have d4 : decide ((40 : Int) < (x.n : Int)) = true := decide_eq_true (by omega)
        go_wp2_with fail
        go_ret
        exact ⟨rfl, Lib.hid (HL2.out.trans (HN2.out.mono HL2.out.size))⟩
      have d4 : decide ((40 : Int) < (x.n : Int)) = false := decide_eq_false (by omega)
      by_cases g2 : 40 < x.m
      · have d5 : decide ((40 : Int) < (x.m : Int)) = true := decide_eq_true (by omega)
        go_wp2_with fail
        go_ret
        exact ⟨rfl, Lib.hid (HL2.out.trans (HN2.out.mono HL2.out.size))⟩
      have d5 : decide ((40 : Int) < (x.m : Int)) = false := decide_eq_false (by omega)
      go_wp2_with fail
      go_roundg (len - (j + 1))
      case measure => omega
      case rel => exact ⟨j + 1, by go_num, by omega, rfl, HN2⟩
    · have hjn : j = len := by omega
      subst hjn
      have d3 : decide ((j : Int) < (j : Int)) = false := decide_eq_false (by omega)
      have Gt := Lib.hid (F2t.out.belowW HW.out)
      have Gx := Lib.hid (F2x.out.belowW HW.out)
      have Gr := Lib.hid (F2r.out.belowW HW.out)
      have GL := Lib.hid (HL2.out.trans (HW.out.mono HL2.out.size))
      obtain ⟨pr0, fr0, pr1, fr1, pr2, fr2, pr3, fr3⟩ := Gr.out.all4
      cases v with
      | false =>
        go_wp2_with fail
        refine (range_no a b c d wr KR.out HV.out).mono ?_
        rintro e w3 ⟨S, rfl, HS, HB3⟩
        have F3t := Lib.hid (Gt.out.belowW HB3.out)
        have F3x := Lib.hid (Gx.out.belowW HB3.out)
        have F3r := Lib.hid (Gr.out.belowW HB3.out)
        have HL3 := Lib.hid (GL.out.trans (HB3.out.mono GL.out.size))
        clear pr0 fr0 pr1 fr1 pr2 fr2 pr3 fr3
        obtain ⟨pr0, fr0, pr1, fr1, pr2, fr2, pr3, fr3⟩ := F3r.out.all4
        obtain rfl : S = ⟨#[]⟩ := str_eq HS.out rfl
        go_wp2_with fail
        refine (validRange_r a b c d w3 KR.out).mono ?_
        rw [HV.out]
        rintro e w4 ⟨rfl, HB4⟩
        have F4t := Lib.hid (F3t.out.belowW HB4.out)
        have F4x := Lib.hid (F3x.out.belowW HB4.out)
        have F4r := Lib.hid (F3r.out.belowW HB4.out)
        have HL4 := Lib.hid (HL3.out.trans (HB4.out.mono HL3.out.size))
        clear pr0 fr0 pr1 fr1 pr2 fr2 pr3 fr3
        obtain ⟨pr0, fr0, pr1, fr1, pr2, fr2, pr3, fr3⟩ := F4r.out.all4
        go_wp2_with fail
        refine (box_p A j cap xs q w4 F4x.out F4t.out).mono ?_
        rintro e w5 ⟨S3, rfl, HS3, HB5⟩
        have F5t := Lib.hid (F4t.out.belowW HB5.out)
        have F5x := Lib.hid (F4x.out.belowW HB5.out)
        have F5r := Lib.hid (F4r.out.belowW HB5.out)
        have HL5 := Lib.hid (HL4.out.trans (HB5.out.mono HL4.out.size))
        go_wp2_with fail
        refine (box_s A j cap xs q w5 F5x.out).mono ?_
        rintro e w6 ⟨S4, rfl, HS4, HB6⟩
        have F6t := Lib.hid (F5t.out.belowW HB6.out)
        have F6x := Lib.hid (F5x.out.belowW HB6.out)
        have F6r := Lib.hid (F5r.out.belowW HB6.out)
        have HL6 := Lib.hid (HL5.out.trans (HB6.out.mono HL5.out.size))
        go_wp2_with fail
        obtain rfl : S3 = S4 := str_eq HS3.out HS4.out
        go_wp2_with fail
        go_ret
        exact ⟨ret_bool (by simp), HL6⟩
      | true =>
        go_wp2_with fail
        refine (range_yes a b c d wr KR.out Gt.out HV.out).mono ?_
        rintro e w3 ⟨S, rfl, HS, HB3⟩
        have F3t := Lib.hid (Gt.out.belowW HB3.out)
        have F3x := Lib.hid (Gx.out.belowW HB3.out)
        have F3r := Lib.hid (Gr.out.belowW HB3.out)
        have HL3 := Lib.hid (GL.out.trans (HB3.out.mono GL.out.size))
        clear pr0 fr0 pr1 fr1 pr2 fr2 pr3 fr3
        obtain ⟨pr0, fr0, pr1, fr1, pr2, fr2, pr3, fr3⟩ := F3r.out.all4
        go_wp2_with fail
        refine (validRange_r a b c d w3 KR.out).mono ?_
        rw [HV.out]
        rintro e w4 ⟨rfl, HB4⟩
        have F4t := Lib.hid (F3t.out.belowW HB4.out)
        have F4x := Lib.hid (F3x.out.belowW HB4.out)
        have F4r := Lib.hid (F3r.out.belowW HB4.out)
        have HL4 := Lib.hid (HL3.out.trans (HB4.out.mono HL3.out.size))
        clear pr0 fr0 pr1 fr1 pr2 fr2 pr3 fr3
        obtain ⟨pr0, fr0, pr1, fr1, pr2, fr2, pr3, fr3⟩ := F4r.out.all4
        go_wp2_with fail
        refine (range_r a b c d w4 KR.out HV.out).mono ?_
        rintro e w5 ⟨S2, rfl, HS2, HB5⟩
        have F5t := Lib.hid (F4t.out.belowW HB5.out)
        have F5x := Lib.hid (F4x.out.belowW HB5.out)
        have F5r := Lib.hid (F4r.out.belowW HB5.out)
        have HL5 := Lib.hid (HL4.out.trans (HB5.out.mono HL4.out.size))
        clear pr0 fr0 pr1 fr1 pr2 fr2 pr3 fr3
        obtain ⟨pr0, fr0, pr1, fr1, pr2, fr2, pr3, fr3⟩ := F5r.out.all4
        obtain rfl : S = S2 := str_eq HS.out HS2.out
        go_wp2_with fail
        refine (box_p A j cap xs q w5 F5x.out F5t.out).mono ?_
        rintro e w6 ⟨S3, rfl, HS3, HB6⟩
        have F6t := Lib.hid (F5t.out.belowW HB6.out)
        have F6x := Lib.hid (F5x.out.belowW HB6.out)
        have F6r := Lib.hid (F5r.out.belowW HB6.out)
        have HL6 := Lib.hid (HL5.out.trans (HB6.out.mono HL5.out.size))
        go_wp2_with fail
        refine (box_s A j cap xs q w6 F6x.out).mono ?_
        rintro e w7 ⟨S4, rfl, HS4, HB7⟩
        have F7t := Lib.hid (F6t.out.belowW HB7.out)
        have F7x := Lib.hid (F6x.out.belowW HB7.out)
        have F7r := Lib.hid (F6r.out.belowW HB7.out)
        have HL7 := Lib.hid (HL6.out.trans (HB7.out.mono HL6.out.size))
        go_wp2_with fail
        obtain rfl : S3 = S4 := str_eq HS3.out HS4.out
        go_wp2_with fail
        go_ret
        exact ⟨ret_bool (by simp), HL7⟩

theorem formatRanges_any (a b c d : Int) (A : Option Addr) (len cap : Nat) (xs : List IvN) (q : Int) (w : World) (k : R4 a b c d) (hx : InB w A len cap xs) (hT : RB w) : Calls Tryz.prog 4 #[.agg #[.int .i64 a, .int .i64 b, .int .i64 c, .int .i64 d], .slice A len cap, .int .i64 q] w (RetB (.bool true) w) := by
  by_cases hl : 20 < len
  · exact ranges_long a b c d A len cap xs q w k hx hT hl
  · exact ranges_main a b c d A len cap xs q w k hx hT hl
end Go.Proofs.YtoogeihbhhcpaaaGreatDoor
