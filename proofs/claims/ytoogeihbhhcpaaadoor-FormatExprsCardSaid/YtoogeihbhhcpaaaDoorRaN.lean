/-
  The walks of ratio.Text, the reference's decimal, Text.
-/
import Derived.Test.YtoogeihbhhcpaaaDoorPkD
import Derived.Test.YtoogeihbhhcpaaaDoorRaShelf
import Derived.Test.YtoogeihbhhcpaaaDoorRatPlain4
import Derived.Lib.ItoaLen
import Derived.Laws.BytesArg
set_option linter.unusedVariables false
namespace Go.Proofs.YtoogeihbhhcpaaaDoor
open Go.RowKit Go.Fl Go.Fl.Nm Go.Fl.Dy Go.Fl.Rt
/-- A text. -/
def StrP (l : List UInt8) (w : World) (e : Ending) (w' : World) : Prop :=
  ∃ S : ByteArray, e = .returned (.string S) ∧ Hid (S.data.toList = l) ∧ Hid (Below w.heap.size w w')
def textE (n d : Int) : List UInt8 := if vB n d then textR n d else []
theorem grow_below (w : World) (k : Nat) (os : Array Obj) : Below w.heap.size w (Sort.grow (w.drewN k) os) :=
  ⟨rfl, rfl, rfl, by simp [Sort.grow, World.drewN], fun i hi => by simp [Sort.grow, World.drewN, Array.getElem?_append, hi]⟩
theorem itoa_any (n : Int) (w : World) (hT : RB w) (h1 : -9223372036854775808 ≤ n) (h2 : n ≤ 9223372036854775807) :
    Calls Tryd.prog 29 #[.int .i64 n] w (StrP (Lib.itoa n) w) :=
  (Tryd.strconv_Itoa n h1 h2 w hT.p10).mono fun e w' ⟨he, k, os, hw⟩ => ⟨_, he, Lib.hid rfl, Lib.hid (by rw [hw]; exact grow_below w k os)⟩
theorem size_itoa {A : ByteArray} {n : Int} (h : A.data.toList = Lib.itoa n) (h1 : -9223372036854775808 ≤ n) (h2 : n ≤ 9223372036854775807) : A.size ≤ 21 := by
  have e := Lib.itoa_length_le n h1 h2
  rw [← h] at e
  simpa using e
theorem size_sum {A B : ByteArray} {n d : Int} (hA : A.data.toList = Lib.itoa n) (hB : B.data.toList = Lib.itoa d) (h1 : -9223372036854775808 ≤ n) (h2 : n ≤ 9223372036854775807) (h3 : -9223372036854775808 ≤ d) (h4 : d ≤ 9223372036854775807) : ¬ 9223372036854775807 < A.size + (1 + B.size) := by
  have a := size_itoa hA h1 h2
  have b := size_itoa hB h3 h4
  omega
theorem size_one {A : ByteArray} {n : Int} (hA : A.data.toList = Lib.itoa n) (h1 : -9223372036854775808 ≤ n) (h2 : n ≤ 9223372036854775807) : ¬ 9223372036854775807 < A.size + 1 := by
  have a := size_itoa hA h1 h2
  omega
theorem size_sum' {A B : ByteArray} {n d : Int} (hA : A.data.toList = Lib.itoa n) (hB : B.data.toList = Lib.itoa d) (h1 : -9223372036854775808 ≤ n) (h2 : n ≤ 9223372036854775807) (h3 : -9223372036854775808 ≤ d) (h4 : d ≤ 9223372036854775807) : ¬ 9223372036854775807 < A.size + 1 + B.size := by
  have a := size_itoa hA h1 h2
  have b := size_itoa hB h3 h4
  omega
theorem data_app (a b : ByteArray) : (a ++ b).data.toList = a.data.toList ++ b.data.toList := by simp

set_option maxHeartbeats 1000000 in
theorem text_q (n d : Int) (w : World) (hT : RB w) (h1 : -9223372036854775808 ≤ n) (h2 : n ≤ 9223372036854775807) (h3 : -9223372036854775808 ≤ d) (h4 : d ≤ 9223372036854775807) :
    Calls Tryd.prog 23 #[.agg #[.int .i64 n, .int .i64 d]] w (StrP (textE n d) w) := by
  have HT := Lib.hid hT
  clear hT
  cases hv : vB n d with
  | false =>
    have HV := Lib.hid hv
    have HR := Lib.hid (show textE n d = [] by unfold textE; rw [hv]; rfl)
    clear hv
    go_enter Tryd.func23, Tryd.ntmps23
    go_wp2_with fail
    obtain ⟨w1, hw⟩ : ∃ z9 : World, z9 = (w.alloc (.cells #[.int .i64 n, .int .i64 d] 23)) := ⟨_, rfl⟩
    have HB1 := Lib.hid (show Below w.heap.size w w1 by rw [hw]; exact below_a1 _ _)
    have F1t := Lib.hid (HT.out.belowW HB1.out)
    have F1k := Lib.hid (show Blk w1 (w.heap.size) 23 #[.int .i64 n, .int .i64 d] by rw [hw]; exact Blk.new _ _ _)
    rw [← hw]
    clear hw
    refine (valid_q n d w1 h1 h2 h3 h4).mono ?_
    rw [HV.out]
    rintro e w2 ⟨rfl, HB2⟩
    have F2t := Lib.hid (F1t.out.belowW HB2.out)
    have F2k := Lib.hid (F1k.out.belowW HB2.out)
    have HL2 := Lib.hid (HB1.out.trans (HB2.out.mono HB1.out.size))
    go_wp2_with fail
    go_ret
    exact ⟨⟨#[]⟩, rfl, Lib.hid (by rw [HR.out]), HL2⟩
  | true =>
    have HV := Lib.hid hv
    by_cases hd : d = 1
    · have HR := Lib.hid (show textE n d = Lib.itoa n by unfold textE textR; rw [hv, if_pos hd]; simp)
      have dd : (d != 1) = false := by simp [hd]
      clear hv hd
      go_enter Tryd.func23, Tryd.ntmps23
      go_wp2_with fail
      obtain ⟨w1, hw⟩ : ∃ z9 : World, z9 = (w.alloc (.cells #[.int .i64 n, .int .i64 d] 23)) := ⟨_, rfl⟩
      have HB1 := Lib.hid (show Below w.heap.size w w1 by rw [hw]; exact below_a1 _ _)
      have F1t := Lib.hid (HT.out.belowW HB1.out)
      have F1k := Lib.hid (show Blk w1 (w.heap.size) 23 #[.int .i64 n, .int .i64 d] by rw [hw]; exact Blk.new _ _ _)
      rw [← hw]
      clear hw
      refine (valid_q n d w1 h1 h2 h3 h4).mono ?_
      rw [HV.out]
      rintro e w2 ⟨rfl, HB2⟩
      have F2t := Lib.hid (F1t.out.belowW HB2.out)
      have F2k := Lib.hid (F1k.out.belowW HB2.out)
      have HL2 := Lib.hid (HB1.out.trans (HB2.out.mono HB1.out.size))
      have pk0 : (w2).cell? ⟨w.heap.size, 0, none⟩ = some (.int .i64 n) := F2k.out.cell 0
      have fk0 : (w2).frozen? ⟨w.heap.size, 0, none⟩ = false := F2k.out.frozen 0
      have pk1 : (w2).cell? ⟨w.heap.size, 1, none⟩ = some (.int .i64 d) := F2k.out.cell 1
      have fk1 : (w2).frozen? ⟨w.heap.size, 1, none⟩ = false := F2k.out.frozen 1
      go_wp2_with fail
      refine (itoa_any n w2 F2t.out h1 h2).mono ?_
      rintro e w3 ⟨A, rfl, HA, HB3⟩
      have F3t := Lib.hid (F2t.out.belowW HB3.out)
      have F3k := Lib.hid (F2k.out.belowW HB3.out)
      have HL3 := Lib.hid (HL2.out.trans (HB3.out.mono HL2.out.size))
      clear pk0 pk1 fk0 fk1
      have pk0 : (w3).cell? ⟨w.heap.size, 0, none⟩ = some (.int .i64 n) := F3k.out.cell 0
      have fk0 : (w3).frozen? ⟨w.heap.size, 0, none⟩ = false := F3k.out.frozen 0
      have pk1 : (w3).cell? ⟨w.heap.size, 1, none⟩ = some (.int .i64 d) := F3k.out.cell 1
      have fk1 : (w3).frozen? ⟨w.heap.size, 1, none⟩ = false := F3k.out.frozen 1
      go_wp2_with fail
      go_ret
      exact ⟨A, rfl, Lib.hid (by rw [HR.out]; exact HA.out), HL3⟩
    · have HR := Lib.hid (show textE n d = Lib.itoa n ++ 47 :: Lib.itoa d by unfold textE textR; rw [hv, if_neg hd]; rfl)
      have dd : (d != 1) = true := by simp [hd]
      clear hv hd
      go_enter Tryd.func23, Tryd.ntmps23
      go_wp2_with fail
      obtain ⟨w1, hw⟩ : ∃ z9 : World, z9 = (w.alloc (.cells #[.int .i64 n, .int .i64 d] 23)) := ⟨_, rfl⟩
      have HB1 := Lib.hid (show Below w.heap.size w w1 by rw [hw]; exact below_a1 _ _)
      have F1t := Lib.hid (HT.out.belowW HB1.out)
      have F1k := Lib.hid (show Blk w1 (w.heap.size) 23 #[.int .i64 n, .int .i64 d] by rw [hw]; exact Blk.new _ _ _)
      rw [← hw]
      clear hw
      refine (valid_q n d w1 h1 h2 h3 h4).mono ?_
      rw [HV.out]
      rintro e w2 ⟨rfl, HB2⟩
      have F2t := Lib.hid (F1t.out.belowW HB2.out)
      have F2k := Lib.hid (F1k.out.belowW HB2.out)
      have HL2 := Lib.hid (HB1.out.trans (HB2.out.mono HB1.out.size))
      have pk0 : (w2).cell? ⟨w.heap.size, 0, none⟩ = some (.int .i64 n) := F2k.out.cell 0
      have fk0 : (w2).frozen? ⟨w.heap.size, 0, none⟩ = false := F2k.out.frozen 0
      have pk1 : (w2).cell? ⟨w.heap.size, 1, none⟩ = some (.int .i64 d) := F2k.out.cell 1
      have fk1 : (w2).frozen? ⟨w.heap.size, 1, none⟩ = false := F2k.out.frozen 1
      go_wp2_with fail
      refine (itoa_any n w2 F2t.out h1 h2).mono ?_
      rintro e w3 ⟨A, rfl, HA, HB3⟩
      have F3t := Lib.hid (F2t.out.belowW HB3.out)
      have F3k := Lib.hid (F2k.out.belowW HB3.out)
      have HL3 := Lib.hid (HL2.out.trans (HB3.out.mono HL2.out.size))
      clear pk0 pk1 fk0 fk1
      have pk0 : (w3).cell? ⟨w.heap.size, 0, none⟩ = some (.int .i64 n) := F3k.out.cell 0
      have fk0 : (w3).frozen? ⟨w.heap.size, 0, none⟩ = false := F3k.out.frozen 0
      have pk1 : (w3).cell? ⟨w.heap.size, 1, none⟩ = some (.int .i64 d) := F3k.out.cell 1
      have fk1 : (w3).frozen? ⟨w.heap.size, 1, none⟩ = false := F3k.out.frozen 1
      go_wp2_with fail
      refine (itoa_any d w3 F3t.out h3 h4).mono ?_
      rintro e w4 ⟨B, rfl, HYb, HB4⟩
      have F4t := Lib.hid (F3t.out.belowW HB4.out)
      have F4k := Lib.hid (F3k.out.belowW HB4.out)
      have HL4 := Lib.hid (HL3.out.trans (HB4.out.mono HL3.out.size))
      have zA : ¬ 9223372036854775807 < A.size + (1 + B.size) := size_sum HA.out HYb.out h1 h2 h3 h4
      have zB : ¬ 9223372036854775807 < 1 + B.size := by omega
      go_wp2_with fail
      go_ret
      exact ⟨A ++ (⟨#[47]⟩ ++ B), rfl, Lib.hid (by rw [HR.out, data_app, data_app, HA.out, HYb.out]; rfl), HL4⟩
end Go.Proofs.YtoogeihbhhcpaaaDoor
