/-
  The walks of decimal.text, decimal.writable, dyadic.Top, interval.Valid, Whole, Point.
-/
import Derived.Test.YtoogeihbhhcpaaaGreatDoorDecA
import Derived.Test.YtoogeihbhhcpaaaGreatDoorRaR
import Derived.Test.YtoogeihbhhcpaaaGreatDoorPkE
import Derived.Deep.RegionHeld3
import Derived.Deep.QuietTactic
import Derived.BigQuiet
set_option linter.unusedVariables false
namespace Go.Fl
open Go.RowKit
theorem ret_str {X Y : ByteArray} (h : X = Y) : Ending.returned (.string X) = .returned (.string Y) := by rw [h]
theorem ba_list {X : ByteArray} {l : List UInt8} (h : X.data.toList = l) : X = ⟨l.toArray⟩ := by
  cases X with | mk d => cases d with | mk t => simp at h; rw [h]
end Go.Fl
namespace Go.Fl.Dy
open Go.Fl.Nm
theorem text_zero {S : ByteArray} {L : List UInt8} {j : Nat} (h : S.data.toList = List.replicate j 48 ++ L) (hj : j = 0 + 1 - L.length) : S.data.toList = ptD 0 (padD 0 L) := by
  rw [h]; unfold ptD padD; rw [if_pos rfl, hj]
theorem text_point {S : ByteArray} {L : List UInt8} {j q z : Nat} (h : S.data.toList = List.replicate j 48 ++ L) (hj : j = q + 1 - L.length) (hq : 0 < q) (hz : S.size - q = z) :
    (S.extract 0 z ++ ⟨#[46]⟩ ++ S.extract z S.size).data.toList = ptD q (padD q L) := by
  have e : padD q L = S.data.toList := by rw [h]; unfold padD; rw [hj]
  have hsz : S.data.toList.length = S.size := rfl
  unfold ptD
  rw [if_neg (by omega), e, hsz, hz]
  have h1 : (S.extract 0 z).data.toList = S.data.toList.take z := by
    rw [ByteArray.data_extract]; simp
  have h2 : (S.extract z S.size).data.toList = S.data.toList.drop z := by
    rw [ByteArray.data_extract]
    simp only [Array.toList_extract, List.extract_eq_take_drop]
    exact List.take_of_length_le (by simp)
  rw [ByteArray.data_append, ByteArray.data_append, Array.toList_append, Array.toList_append, h1, h2]
theorem neg_text {X : ByteArray} {l : List UInt8} (h : X.data.toList = l) : ((⟨#[45]⟩ : ByteArray) ++ X).data.toList = [45] ++ l := by
  rw [ByteArray.data_append, Array.toList_append, h]
end Go.Fl.Dy
namespace Go.Proofs.YtoogeihbhhcpaaaGreatDoor
open Go.RowKit Go.Fl Go.Fl.Nm Go.Fl.Dy
theorem nText_at (A : Option Addr) (n c : Nat) (a : List Nat) (L : List UInt8) (w : World) (ha : Sl w A n c a) (hn : n ≤ 256) (ht : TB w) (hL : Go.Lib.decDigits (val a) = L) :
    Calls Tryz.prog 97 #[.slice A n c] w (fun e w' => e = .returned (.tuple #[.string ⟨L.toArray⟩, .int .i64 0]) ∧ Hid (Below w.heap.size w w')) := by
  rw [← hL]
  exact nText_ok A n c a w ha hn ht
def TxtRel (L : List UInt8) (q : Nat) (W : World) (k : Nat) (sv : Value) (wr : World) : Prop :=
  ∃ (j : Nat) (S : ByteArray), sv = .string S ∧ Hid (S.data.toList = List.replicate j 48 ++ L) ∧ Hid (S.size = j + L.length) ∧ (j = 0 ∨ j + L.length ≤ q + 1) ∧ k = q + 2 - S.size ∧ Hid (wr = W)
set_option maxHeartbeats 4000000 in
theorem dtext_any (neg : Bool) (A : Option Addr) (n c : Nat) (l : List Nat) (q : Nat) (w : World) (h : Sl w A n c l) (hn : n ≤ 256) (hq : q ≤ 1000) (ht : RB w) :
    Calls Tryz.prog 66 #[.agg #[.bool neg, .slice A n c], .int .i64 q] w (Ret (.string ⟨(textD neg (val l) q).toArray⟩) w) := by
  have H := Lib.hid h
  have HT := Lib.hid ht
  obtain ⟨L, hL⟩ : ∃ L, Go.Lib.decDigits (val l) = L := ⟨_, rfl⟩
  have HLL := Lib.hid hL
  have HLB := Lib.hid (show L.length ≤ 100000 by
    rw [← hL]
    have h1 := val_lt h.ok
    rw [h.len, BB_pow, ← Nat.pow_mul] at h1
    exact dec_len_le (n := n) (N := 99999) (by rw [BB_pow, ← Nat.pow_mul]; exact h1) (by omega))
  have hlb := HLB.out
  clear h ht hL
  go_enter Tryz.func66, Tryz.ntmps66
  go_wp2_with fail
  obtain ⟨w1, hw⟩ : ∃ z9 : World, z9 = (w.alloc (.cells #[.bool neg, .slice A n c] 108)) := ⟨_, rfl⟩
  have HB1 := Lib.hid (show Below w.heap.size w w1 by rw [hw]; exact below_a1 _ _)
  have F1a := Lib.hid (H.out.belowW HB1.out)
  have F1t := Lib.hid (HT.out.belowW HB1.out)
  have F1k := Lib.hid (show Blk w1 (w.heap.size) 108 #[.bool neg, .slice A n c] by rw [hw]; exact Blk.new _ _ _)
  rw [← hw]
  clear hw
  have pk0 : (w1).cell? ⟨w.heap.size, 0, none⟩ = some (.bool neg) := F1k.out.cell 0
  have fk0 : (w1).frozen? ⟨w.heap.size, 0, none⟩ = false := F1k.out.frozen 0
  have pk1 : (w1).cell? ⟨w.heap.size, 1, none⟩ = some (.slice A n c) := F1k.out.cell 1
  have fk1 : (w1).frozen? ⟨w.heap.size, 1, none⟩ = false := F1k.out.frozen 1
  go_wp2_with fail
  refine (nText_at A n c l L w1 F1a.out hn F1t.out.p10 HLL.out).mono ?_
  rintro e w2 ⟨rfl, HB2⟩
  have F2a := Lib.hid (F1a.out.belowW HB2.out)
  have F2t := Lib.hid (F1t.out.belowW HB2.out)
  have F2k := Lib.hid (F1k.out.belowW HB2.out)
  have HL2 := Lib.hid (HB1.out.trans (HB2.out.mono HB1.out.size))
  clear pk0 fk0 pk1 fk1
  go_wp2_with fail
  go_loopg [5] (q + 2 - L.length) (TxtRel L q w2)
  case atStart => exact ⟨0, ⟨L.toArray⟩, rfl, Lib.hid (by simp), Lib.hid (by simp [ByteArray.size]), .inl rfl, by simp [ByteArray.size], Lib.hid rfl⟩
  case round =>
    obtain ⟨j, S, rfl, HS, HSZ, hj, hk, hwr⟩ := hrel
    have hSb : S.size ≤ 300000 := by have := HSZ.out; omega
    by_cases hle : S.size ≤ q
    · have d1 : decide ((S.size : Int) ≤ (q : Int)) = true := decide_eq_true (by omega)
      have d1' : decide (S.size ≤ q) = true := decide_eq_true hle
      go_wp2_with fail
      go_roundg (q + 2 - (S.size + 1))
      case measure => omega
      case rel =>
        refine ⟨j + 1, ⟨#[48]⟩ ++ S, rfl, Lib.hid ?_, Lib.hid ?_, .inr (by have := HSZ.out; omega), ?_, hwr⟩
        · rw [ByteArray.data_append, Array.toList_append, HS.out, List.replicate_succ]; rfl
        · rw [ByteArray.size_append, HSZ.out, show (⟨#[48]⟩ : ByteArray).size = 1 from rfl]; omega
        · rw [ByteArray.size_append, show (⟨#[48]⟩ : ByteArray).size = 1 from rfl]; omega
    · obtain rfl : w2 = wr := hwr.out.symm
      have d1 : decide ((S.size : Int) ≤ (q : Int)) = false := decide_eq_false (by omega)
      have d1' : decide (S.size ≤ q) = false := decide_eq_false hle
      have hjq : j = q + 1 - L.length := by have := HSZ.out; omega
      by_cases hq0 : q = 0
      case pos =>
        have d2 : decide ((0 : Int) < (q : Int)) = false := decide_eq_false (by omega)
        have d2' : decide (0 < q) = false := decide_eq_false (by omega)
        have HX := Lib.hid (show S.data.toList = ptD q (padD q L) by rw [hq0] at hjq ⊢; exact text_zero HS.out hjq)
        clear hjq hk hle hj hq0
        have pk0 : (w2).cell? ⟨w.heap.size, 0, none⟩ = some (.bool neg) := F2k.out.cell 0
        have fk0 : (w2).frozen? ⟨w.heap.size, 0, none⟩ = false := F2k.out.frozen 0
        have pk1 : (w2).cell? ⟨w.heap.size, 1, none⟩ = some (.slice A n c) := F2k.out.cell 1
        have fk1 : (w2).frozen? ⟨w.heap.size, 1, none⟩ = false := F2k.out.frozen 1
        cases neg with
        | false =>
          go_wp2_with fail
          go_ret
          exact ⟨ret_str (ba_list (by rw [HX.out]; unfold textD; rw [HLL.out]; rfl)), HL2⟩
        | true =>
          go_wp2_with fail
          go_ret
          exact ⟨ret_str (ba_list (by rw [neg_text HX.out]; unfold textD; rw [HLL.out]; rfl)), HL2⟩
      case neg =>
        have d2 : decide ((0 : Int) < (q : Int)) = true := decide_eq_true (by omega)
        have d2' : decide (0 < q) = true := decide_eq_true (by omega)
        obtain ⟨z, hz⟩ : ∃ z, S.size - q = z := ⟨_, rfl⟩
        have hzi : (S.size : Int) - (q : Int) = (z : Int) := by omega
        have hzw : IntKind.i64.wrap ((S.size : Int) - (q : Int)) = (z : Int) := by rw [hzi]; exact IntWalk.i64_in _ (by omega)
        have hzz : IntKind.i64.wrap (z : Int) = (z : Int) := IntWalk.i64_in _ (by omega)
        have hz0 : (0 : Int) ≤ (z : Int) := by omega
        have hz1 : (z : Int) ≤ (S.size : Int) := by omega
        have hz2 : z ≤ S.size := by omega
        have HX := Lib.hid (text_point HS.out hjq (by omega) hz)
        have hzb : z ≤ 300000 := by omega
        have e1 : (S.extract 0 z).size = z := by rw [ByteArray.size_extract]; omega
        obtain ⟨y, hy⟩ : ∃ y, S.size - z = y := ⟨_, rfl⟩
        have hyb : y ≤ 300000 := by omega
        have e3 : (S.extract z S.size).size = y := by rw [ByteArray.size_extract]; omega
        clear hjq hk hle hj hz hq0 hy
        have pk0 : (w2).cell? ⟨w.heap.size, 0, none⟩ = some (.bool neg) := F2k.out.cell 0
        have fk0 : (w2).frozen? ⟨w.heap.size, 0, none⟩ = false := F2k.out.frozen 0
        have pk1 : (w2).cell? ⟨w.heap.size, 1, none⟩ = some (.slice A n c) := F2k.out.cell 1
        have fk1 : (w2).frozen? ⟨w.heap.size, 1, none⟩ = false := F2k.out.frozen 1
        go_wp2_with fail
        go_quiet (fail)
        cases neg with
        | false =>
          go_wp2_with fail
          go_ret
          exact ⟨ret_str (ba_list (by rw [HX.out]; unfold textD; rw [HLL.out]; rfl)), Lib.hid (below_drewN HL2.out _)⟩
        | true =>
          go_wp2_with fail
          go_ret
          exact ⟨ret_str (ba_list (by rw [neg_text HX.out]; unfold textD; rw [HLL.out]; rfl)), Lib.hid (below_drewN HL2.out _)⟩

set_option maxHeartbeats 1000000 in
theorem dtop_zero (d : D) (A : Option Addr) (n c : Nat) (w : World) (h : Sl w A n c (limbs d.k)) (hv : vld d) (hz : d.k = 0) :
    Calls Tryz.prog 96 #[.agg #[.bool d.neg, .slice A n c, .int .i64 d.e]] w (Ret (.int .i64 0) w) := by
  have H := Lib.hid h
  have HV := Lib.hid hv
  obtain rfl : n = 0 := by rw [← h.len, hz, limbs_zero]; rfl
  clear h hv hz
  go_enter Tryz.func96, Tryz.ntmps96
  go_wp2_with fail
  obtain ⟨w1, hw⟩ : ∃ z9 : World, z9 = (w.alloc (.cells #[.bool d.neg, .slice A 0 c, .int .i64 d.e] 40)) := ⟨_, rfl⟩
  have HB1 := Lib.hid (show Below w.heap.size w w1 by rw [hw]; exact below_a1 _ _)
  have F1a := Lib.hid (H.out.belowW HB1.out)
  have F1d := Lib.hid (show Blk w1 (w.heap.size) 40 #[.bool d.neg, .slice A 0 c, .int .i64 d.e] by rw [hw]; exact Blk.new _ _ _)
  rw [← hw]
  clear hw
  have pd0 : (w1).cell? ⟨w.heap.size, 0, none⟩ = some (.bool d.neg) := F1d.out.cell 0
  have fd0 : (w1).frozen? ⟨w.heap.size, 0, none⟩ = false := F1d.out.frozen 0
  have pd1 : (w1).cell? ⟨w.heap.size, 1, none⟩ = some (.slice A 0 c) := F1d.out.cell 1
  have fd1 : (w1).frozen? ⟨w.heap.size, 1, none⟩ = false := F1d.out.frozen 1
  have pd2 : (w1).cell? ⟨w.heap.size, 2, none⟩ = some (.int .i64 d.e) := F1d.out.cell 2
  have fd2 : (w1).frozen? ⟨w.heap.size, 2, none⟩ = false := F1d.out.frozen 2
  go_wp2_with fail
  refine (valid_yes d A 0 c w1 F1a.out HV.out).mono ?_
  rintro e w2 ⟨rfl, HB2⟩
  have F2a := Lib.hid (F1a.out.belowW HB2.out)
  have F2d := Lib.hid (F1d.out.belowW HB2.out)
  have HL2 := Lib.hid (HB1.out.trans (HB2.out.mono HB1.out.size))
  clear pd0 fd0 pd1 fd1 pd2 fd2
  have pd0 : (w2).cell? ⟨w.heap.size, 0, none⟩ = some (.bool d.neg) := F2d.out.cell 0
  have fd0 : (w2).frozen? ⟨w.heap.size, 0, none⟩ = false := F2d.out.frozen 0
  have pd1 : (w2).cell? ⟨w.heap.size, 1, none⟩ = some (.slice A 0 c) := F2d.out.cell 1
  have fd1 : (w2).frozen? ⟨w.heap.size, 1, none⟩ = false := F2d.out.frozen 1
  have pd2 : (w2).cell? ⟨w.heap.size, 2, none⟩ = some (.int .i64 d.e) := F2d.out.cell 2
  have fd2 : (w2).frozen? ⟨w.heap.size, 2, none⟩ = false := F2d.out.frozen 2
  go_wp2_with fail
  go_ret
  exact ⟨rfl, HL2⟩
/-- The top of a number. -/
def topB (d : D) : Int := if d.k = 0 then 0 else blen d.k + d.e
theorem dtop_any (d : D) (A : Option Addr) (n c : Nat) (w : World) (h : Sl w A n c (limbs d.k)) (hv : vld d) : Calls Tryz.prog 96 #[.agg #[.bool d.neg, .slice A n c, .int .i64 d.e]] w (Ret (.int .i64 (topB d)) w) := by
  unfold topB
  split
  · rename_i hz; exact dtop_zero d A n c w h hv hz
  · rename_i hz; exact top_any d A n c w h hv hz
set_option maxHeartbeats 1000000 in
theorem writable_any (d : D) (A : Option Addr) (n c : Nat) (w : World) (h : Sl w A n c (limbs d.k)) (hv : vld d) :
    Calls Tryz.prog 65 #[.agg #[.bool d.neg, .slice A n c, .int .i64 d.e]] w (Ret (.bool (decide (topB d ≤ 1000))) w) := by
  have H := Lib.hid h
  have HV := Lib.hid hv
  obtain ⟨t, ht⟩ : ∃ t, topB d = t := ⟨_, rfl⟩
  have HT := Lib.hid ht
  clear h hv ht
  go_enter Tryz.func65, Tryz.ntmps65
  go_wp2_with fail
  obtain ⟨w1, hw⟩ : ∃ z9 : World, z9 = (w.alloc (.cells #[.bool d.neg, .slice A n c, .int .i64 d.e] 40)) := ⟨_, rfl⟩
  have HB1 := Lib.hid (show Below w.heap.size w w1 by rw [hw]; exact below_a1 _ _)
  have F1a := Lib.hid (H.out.belowW HB1.out)
  have F1d := Lib.hid (show Blk w1 (w.heap.size) 40 #[.bool d.neg, .slice A n c, .int .i64 d.e] by rw [hw]; exact Blk.new _ _ _)
  rw [← hw]
  clear hw
  have pd0 : (w1).cell? ⟨w.heap.size, 0, none⟩ = some (.bool d.neg) := F1d.out.cell 0
  have fd0 : (w1).frozen? ⟨w.heap.size, 0, none⟩ = false := F1d.out.frozen 0
  have pd1 : (w1).cell? ⟨w.heap.size, 1, none⟩ = some (.slice A n c) := F1d.out.cell 1
  have fd1 : (w1).frozen? ⟨w.heap.size, 1, none⟩ = false := F1d.out.frozen 1
  have pd2 : (w1).cell? ⟨w.heap.size, 2, none⟩ = some (.int .i64 d.e) := F1d.out.cell 2
  have fd2 : (w1).frozen? ⟨w.heap.size, 2, none⟩ = false := F1d.out.frozen 2
  go_wp2_with fail
  refine (valid_yes d A n c w1 F1a.out HV.out).mono ?_
  rintro e w2 ⟨rfl, HB2⟩
  have F2a := Lib.hid (F1a.out.belowW HB2.out)
  have F2d := Lib.hid (F1d.out.belowW HB2.out)
  have HL2 := Lib.hid (HB1.out.trans (HB2.out.mono HB1.out.size))
  clear pd0 fd0 pd1 fd1 pd2 fd2
  have pd0 : (w2).cell? ⟨w.heap.size, 0, none⟩ = some (.bool d.neg) := F2d.out.cell 0
  have fd0 : (w2).frozen? ⟨w.heap.size, 0, none⟩ = false := F2d.out.frozen 0
  have pd1 : (w2).cell? ⟨w.heap.size, 1, none⟩ = some (.slice A n c) := F2d.out.cell 1
  have fd1 : (w2).frozen? ⟨w.heap.size, 1, none⟩ = false := F2d.out.frozen 1
  have pd2 : (w2).cell? ⟨w.heap.size, 2, none⟩ = some (.int .i64 d.e) := F2d.out.cell 2
  have fd2 : (w2).frozen? ⟨w.heap.size, 2, none⟩ = false := F2d.out.frozen 2
  go_wp2_with fail
  refine (dtop_any d A n c w2 F2a.out HV.out).mono ?_
  rw [HT.out]
  rintro e w3 ⟨rfl, HB3⟩
  have F3a := Lib.hid (F2a.out.belowW HB3.out)
  have F3d := Lib.hid (F2d.out.belowW HB3.out)
  have HL3 := Lib.hid (HL2.out.trans (HB3.out.mono HL2.out.size))
  go_wp2_with fail
  go_ret
  exact ⟨ret_bool (by rw [HT.out]), HL3⟩
/-- All fields are zero. -/
def zeroB (ng : Bool) (n : Nat) (ex : Int) : Bool := !ng && decide (n = 0) && decide (ex = 0)

set_option maxHeartbeats 1000000 in
theorem zero_any (ng : Bool) (A : Option Addr) (n c : Nat) (ex : Int) (w : World) (hn : n ≤ maxLen) :
    Calls Tryz.prog 62 #[.agg #[.bool ng, .slice A n c, .int .i64 ex]] w (Ret (.bool (zeroB ng n ex)) w) := by
  unfold maxLen at hn
  cases ng with
  | true =>
    go_enter Tryz.func62, Tryz.ntmps62
    go_wp2_with fail
    obtain ⟨w1, hw⟩ : ∃ z9 : World, z9 = (w.alloc (.cells #[.bool true, .slice A n c, .int .i64 ex] 40)) := ⟨_, rfl⟩
    have HB1 := Lib.hid (show Below w.heap.size w w1 by rw [hw]; exact below_a1 _ _)
    have F1d := Lib.hid (show Blk w1 (w.heap.size) 40 #[.bool true, .slice A n c, .int .i64 ex] by rw [hw]; exact Blk.new _ _ _)
    rw [← hw]
    clear hw
    have pd0 : (w1).cell? ⟨w.heap.size, 0, none⟩ = some (.bool true) := F1d.out.cell 0
    have fd0 : (w1).frozen? ⟨w.heap.size, 0, none⟩ = false := F1d.out.frozen 0
    have pd1 : (w1).cell? ⟨w.heap.size, 1, none⟩ = some (.slice A n c) := F1d.out.cell 1
    have fd1 : (w1).frozen? ⟨w.heap.size, 1, none⟩ = false := F1d.out.frozen 1
    have pd2 : (w1).cell? ⟨w.heap.size, 2, none⟩ = some (.int .i64 ex) := F1d.out.cell 2
    have fd2 : (w1).frozen? ⟨w.heap.size, 2, none⟩ = false := F1d.out.frozen 2
    go_wp2_with fail
    go_ret
    exact ⟨ret_bool (rfl), HB1⟩
  | false =>
    by_cases h1 : n = 0
    case neg =>
      have d1 : ((n : Int) == 0) = false := by rw [beq_eq_false_iff_ne]; omega
      have HR := Lib.hid (show zeroB false n ex = false by unfold zeroB; rw [decide_eq_false h1]; rfl)
      clear h1
      go_enter Tryz.func62, Tryz.ntmps62
      go_wp2_with fail
      obtain ⟨w1, hw⟩ : ∃ z9 : World, z9 = (w.alloc (.cells #[.bool false, .slice A n c, .int .i64 ex] 40)) := ⟨_, rfl⟩
      have HB1 := Lib.hid (show Below w.heap.size w w1 by rw [hw]; exact below_a1 _ _)
      have F1d := Lib.hid (show Blk w1 (w.heap.size) 40 #[.bool false, .slice A n c, .int .i64 ex] by rw [hw]; exact Blk.new _ _ _)
      rw [← hw]
      clear hw
      have pd0 : (w1).cell? ⟨w.heap.size, 0, none⟩ = some (.bool false) := F1d.out.cell 0
      have fd0 : (w1).frozen? ⟨w.heap.size, 0, none⟩ = false := F1d.out.frozen 0
      have pd1 : (w1).cell? ⟨w.heap.size, 1, none⟩ = some (.slice A n c) := F1d.out.cell 1
      have fd1 : (w1).frozen? ⟨w.heap.size, 1, none⟩ = false := F1d.out.frozen 1
      have pd2 : (w1).cell? ⟨w.heap.size, 2, none⟩ = some (.int .i64 ex) := F1d.out.cell 2
      have fd2 : (w1).frozen? ⟨w.heap.size, 2, none⟩ = false := F1d.out.frozen 2
      go_wp2_with fail
      go_ret
      exact ⟨ret_bool (by rw [HR.out]), HB1⟩
    subst h1
    by_cases h2 : ex = 0
    case neg =>
      have d2 : (ex == 0) = false := by rw [beq_eq_false_iff_ne]; exact h2
      have HR := Lib.hid (show zeroB false 0 ex = false by unfold zeroB; rw [decide_eq_false h2]; rfl)
      clear h2
      go_enter Tryz.func62, Tryz.ntmps62
      go_wp2_with fail
      obtain ⟨w1, hw⟩ : ∃ z9 : World, z9 = (w.alloc (.cells #[.bool false, .slice A 0 c, .int .i64 ex] 40)) := ⟨_, rfl⟩
      have HB1 := Lib.hid (show Below w.heap.size w w1 by rw [hw]; exact below_a1 _ _)
      have F1d := Lib.hid (show Blk w1 (w.heap.size) 40 #[.bool false, .slice A 0 c, .int .i64 ex] by rw [hw]; exact Blk.new _ _ _)
      rw [← hw]
      clear hw
      have pd0 : (w1).cell? ⟨w.heap.size, 0, none⟩ = some (.bool false) := F1d.out.cell 0
      have fd0 : (w1).frozen? ⟨w.heap.size, 0, none⟩ = false := F1d.out.frozen 0
      have pd1 : (w1).cell? ⟨w.heap.size, 1, none⟩ = some (.slice A 0 c) := F1d.out.cell 1
      have fd1 : (w1).frozen? ⟨w.heap.size, 1, none⟩ = false := F1d.out.frozen 1
      have pd2 : (w1).cell? ⟨w.heap.size, 2, none⟩ = some (.int .i64 ex) := F1d.out.cell 2
      have fd2 : (w1).frozen? ⟨w.heap.size, 2, none⟩ = false := F1d.out.frozen 2
      go_wp2_with fail
      go_ret
      exact ⟨ret_bool (by rw [HR.out]), HB1⟩
    subst h2
    have HR := Lib.hid (show zeroB false 0 0 = true from rfl)
    go_enter Tryz.func62, Tryz.ntmps62
    go_wp2_with fail
    obtain ⟨w1, hw⟩ : ∃ z9 : World, z9 = (w.alloc (.cells #[.bool false, .slice A 0 c, .int .i64 0] 40)) := ⟨_, rfl⟩
    have HB1 := Lib.hid (show Below w.heap.size w w1 by rw [hw]; exact below_a1 _ _)
    have F1d := Lib.hid (show Blk w1 (w.heap.size) 40 #[.bool false, .slice A 0 c, .int .i64 0] by rw [hw]; exact Blk.new _ _ _)
    rw [← hw]
    clear hw
    have pd0 : (w1).cell? ⟨w.heap.size, 0, none⟩ = some (.bool false) := F1d.out.cell 0
    have fd0 : (w1).frozen? ⟨w.heap.size, 0, none⟩ = false := F1d.out.frozen 0
    have pd1 : (w1).cell? ⟨w.heap.size, 1, none⟩ = some (.slice A 0 c) := F1d.out.cell 1
    have fd1 : (w1).frozen? ⟨w.heap.size, 1, none⟩ = false := F1d.out.frozen 1
    have pd2 : (w1).cell? ⟨w.heap.size, 2, none⟩ = some (.int .i64 0) := F1d.out.cell 2
    have fd2 : (w1).frozen? ⟨w.heap.size, 2, none⟩ = false := F1d.out.frozen 2
    go_wp2_with fail
    go_ret
    exact ⟨ret_bool (by rw [HR.out]), HB1⟩
/-- A valid interval, by its parts. -/
def vldIB (ng : Bool) (l : List Nat) (ex : Int) (ng' : Bool) (l' : List Nat) (ex' : Int) (all : Bool) : Bool :=
  if all then zeroB ng l.length ex && zeroB ng' l'.length ex' else vldL ng l ex && vldL ng' l' ex' && decide (cmpD ⟨ng, val l, ex⟩ ⟨ng', val l', ex'⟩ ≤ 0)
set_option maxHeartbeats 2000000 in
theorem ivalid_any (ng : Bool) (A : Option Addr) (n c : Nat) (ex : Int) (l : List Nat) (ng' : Bool) (B : Option Addr) (m c' : Nat) (ex' : Int) (l' : List Nat) (all : Bool) (w : World) (h : Sl w A n c l) (h' : Sl w B m c' l') :
    Calls Tryz.prog 31 #[.agg #[.bool ng, .slice A n c, .int .i64 ex, .bool ng', .slice B m c', .int .i64 ex', .bool all]] w (Ret (.bool (vldIB ng l ex ng' l' ex' all)) w) := by
  have H := Lib.hid h
  have H' := Lib.hid h'
  have hm := h.max
  have hm' := h'.max
  have HN := Lib.hid h.len
  have HN' := Lib.hid h'.len
  clear h h'
  cases all with
  | true =>
    obtain ⟨z1, hz1⟩ : ∃ z, zeroB ng n ex = z := ⟨_, rfl⟩
    obtain ⟨z2, hz2⟩ : ∃ z, zeroB ng' m ex' = z := ⟨_, rfl⟩
    have HZ1 := Lib.hid hz1
    have HZ2 := Lib.hid hz2
    have HR := Lib.hid (show vldIB ng l ex ng' l' ex' true = (z1 && z2) by unfold vldIB; rw [if_pos rfl, HN.out, HN'.out, hz1, hz2])
    clear hz1 hz2
    go_enter Tryz.func31, Tryz.ntmps31
    go_wp2_with fail
    obtain ⟨w1, hw⟩ : ∃ z9 : World, z9 = (w.alloc (.cells #[.bool ng, .slice A n c, .int .i64 ex, .bool ng', .slice B m c', .int .i64 ex', .bool true] 42)) := ⟨_, rfl⟩
    have HB1 := Lib.hid (show Below w.heap.size w w1 by rw [hw]; exact below_a1 _ _)
    have F1a := Lib.hid (H.out.belowW HB1.out)
    have F1b := Lib.hid (H'.out.belowW HB1.out)
    have F1x := Lib.hid (show Blk w1 (w.heap.size) 42 #[.bool ng, .slice A n c, .int .i64 ex, .bool ng', .slice B m c', .int .i64 ex', .bool true] by rw [hw]; exact Blk.new _ _ _)
    rw [← hw]
    clear hw
    have px0 : (w1).cell? ⟨w.heap.size, 0, none⟩ = some (.bool ng) := F1x.out.cell 0
    have fx0 : (w1).frozen? ⟨w.heap.size, 0, none⟩ = false := F1x.out.frozen 0
    have px1 : (w1).cell? ⟨w.heap.size, 1, none⟩ = some (.slice A n c) := F1x.out.cell 1
    have fx1 : (w1).frozen? ⟨w.heap.size, 1, none⟩ = false := F1x.out.frozen 1
    have px2 : (w1).cell? ⟨w.heap.size, 2, none⟩ = some (.int .i64 ex) := F1x.out.cell 2
    have fx2 : (w1).frozen? ⟨w.heap.size, 2, none⟩ = false := F1x.out.frozen 2
    have px3 : (w1).cell? ⟨w.heap.size, 3, none⟩ = some (.bool ng') := F1x.out.cell 3
    have fx3 : (w1).frozen? ⟨w.heap.size, 3, none⟩ = false := F1x.out.frozen 3
    have px4 : (w1).cell? ⟨w.heap.size, 4, none⟩ = some (.slice B m c') := F1x.out.cell 4
    have fx4 : (w1).frozen? ⟨w.heap.size, 4, none⟩ = false := F1x.out.frozen 4
    have px5 : (w1).cell? ⟨w.heap.size, 5, none⟩ = some (.int .i64 ex') := F1x.out.cell 5
    have fx5 : (w1).frozen? ⟨w.heap.size, 5, none⟩ = false := F1x.out.frozen 5
    have px6 : (w1).cell? ⟨w.heap.size, 6, none⟩ = some (.bool true) := F1x.out.cell 6
    have fx6 : (w1).frozen? ⟨w.heap.size, 6, none⟩ = false := F1x.out.frozen 6
    go_wp2_with fail
    refine (zero_any ng A n c ex w1 hm).mono ?_
    rw [HZ1.out]
    rintro e w2 ⟨rfl, HB2⟩
    have F2a := Lib.hid (F1a.out.belowW HB2.out)
    have F2b := Lib.hid (F1b.out.belowW HB2.out)
    have F2x := Lib.hid (F1x.out.belowW HB2.out)
    have HL2 := Lib.hid (HB1.out.trans (HB2.out.mono HB1.out.size))
    clear px0 fx0 px1 fx1 px2 fx2 px3 fx3 px4 fx4 px5 fx5 px6 fx6
    have px0 : (w2).cell? ⟨w.heap.size, 0, none⟩ = some (.bool ng) := F2x.out.cell 0
    have fx0 : (w2).frozen? ⟨w.heap.size, 0, none⟩ = false := F2x.out.frozen 0
    have px1 : (w2).cell? ⟨w.heap.size, 1, none⟩ = some (.slice A n c) := F2x.out.cell 1
    have fx1 : (w2).frozen? ⟨w.heap.size, 1, none⟩ = false := F2x.out.frozen 1
    have px2 : (w2).cell? ⟨w.heap.size, 2, none⟩ = some (.int .i64 ex) := F2x.out.cell 2
    have fx2 : (w2).frozen? ⟨w.heap.size, 2, none⟩ = false := F2x.out.frozen 2
    have px3 : (w2).cell? ⟨w.heap.size, 3, none⟩ = some (.bool ng') := F2x.out.cell 3
    have fx3 : (w2).frozen? ⟨w.heap.size, 3, none⟩ = false := F2x.out.frozen 3
    have px4 : (w2).cell? ⟨w.heap.size, 4, none⟩ = some (.slice B m c') := F2x.out.cell 4
    have fx4 : (w2).frozen? ⟨w.heap.size, 4, none⟩ = false := F2x.out.frozen 4
    have px5 : (w2).cell? ⟨w.heap.size, 5, none⟩ = some (.int .i64 ex') := F2x.out.cell 5
    have fx5 : (w2).frozen? ⟨w.heap.size, 5, none⟩ = false := F2x.out.frozen 5
    have px6 : (w2).cell? ⟨w.heap.size, 6, none⟩ = some (.bool true) := F2x.out.cell 6
    have fx6 : (w2).frozen? ⟨w.heap.size, 6, none⟩ = false := F2x.out.frozen 6
    cases z1 with
    | false =>
      go_wp2_with fail
      go_ret
      exact ⟨ret_bool (by rw [HR.out]; rfl), HL2⟩
    | true =>
      go_wp2_with fail
      refine (zero_any ng' B m c' ex' w2 hm').mono ?_
      rw [HZ2.out]
      rintro e w3 ⟨rfl, HB3⟩
      have F3a := Lib.hid (F2a.out.belowW HB3.out)
      have F3b := Lib.hid (F2b.out.belowW HB3.out)
      have F3x := Lib.hid (F2x.out.belowW HB3.out)
      have HL3 := Lib.hid (HL2.out.trans (HB3.out.mono HL2.out.size))
      go_wp2_with fail
      go_ret
      exact ⟨ret_bool (by rw [HR.out, Bool.true_and]), HL3⟩
  | false =>
    obtain ⟨z1, hz1⟩ : ∃ z, vldL ng l ex = z := ⟨_, rfl⟩
    obtain ⟨z2, hz2⟩ : ∃ z, vldL ng' l' ex' = z := ⟨_, rfl⟩
    obtain ⟨cz, hcz⟩ : ∃ z, cmpD ⟨ng, val l, ex⟩ ⟨ng', val l', ex'⟩ = z := ⟨_, rfl⟩
    have HZ1 := Lib.hid hz1
    have HZ2 := Lib.hid hz2
    have HCZ := Lib.hid hcz
    have HR := Lib.hid (show vldIB ng l ex ng' l' ex' false = (z1 && z2 && decide (cz ≤ 0)) by unfold vldIB; rw [if_neg (by decide), hz1, hz2, hcz])
    clear hz1 hz2 hcz
    go_enter Tryz.func31, Tryz.ntmps31
    go_wp2_with fail
    obtain ⟨w1, hw⟩ : ∃ z9 : World, z9 = (w.alloc (.cells #[.bool ng, .slice A n c, .int .i64 ex, .bool ng', .slice B m c', .int .i64 ex', .bool false] 42)) := ⟨_, rfl⟩
    have HB1 := Lib.hid (show Below w.heap.size w w1 by rw [hw]; exact below_a1 _ _)
    have F1a := Lib.hid (H.out.belowW HB1.out)
    have F1b := Lib.hid (H'.out.belowW HB1.out)
    have F1x := Lib.hid (show Blk w1 (w.heap.size) 42 #[.bool ng, .slice A n c, .int .i64 ex, .bool ng', .slice B m c', .int .i64 ex', .bool false] by rw [hw]; exact Blk.new _ _ _)
    rw [← hw]
    clear hw
    have px0 : (w1).cell? ⟨w.heap.size, 0, none⟩ = some (.bool ng) := F1x.out.cell 0
    have fx0 : (w1).frozen? ⟨w.heap.size, 0, none⟩ = false := F1x.out.frozen 0
    have px1 : (w1).cell? ⟨w.heap.size, 1, none⟩ = some (.slice A n c) := F1x.out.cell 1
    have fx1 : (w1).frozen? ⟨w.heap.size, 1, none⟩ = false := F1x.out.frozen 1
    have px2 : (w1).cell? ⟨w.heap.size, 2, none⟩ = some (.int .i64 ex) := F1x.out.cell 2
    have fx2 : (w1).frozen? ⟨w.heap.size, 2, none⟩ = false := F1x.out.frozen 2
    have px3 : (w1).cell? ⟨w.heap.size, 3, none⟩ = some (.bool ng') := F1x.out.cell 3
    have fx3 : (w1).frozen? ⟨w.heap.size, 3, none⟩ = false := F1x.out.frozen 3
    have px4 : (w1).cell? ⟨w.heap.size, 4, none⟩ = some (.slice B m c') := F1x.out.cell 4
    have fx4 : (w1).frozen? ⟨w.heap.size, 4, none⟩ = false := F1x.out.frozen 4
    have px5 : (w1).cell? ⟨w.heap.size, 5, none⟩ = some (.int .i64 ex') := F1x.out.cell 5
    have fx5 : (w1).frozen? ⟨w.heap.size, 5, none⟩ = false := F1x.out.frozen 5
    have px6 : (w1).cell? ⟨w.heap.size, 6, none⟩ = some (.bool false) := F1x.out.cell 6
    have fx6 : (w1).frozen? ⟨w.heap.size, 6, none⟩ = false := F1x.out.frozen 6
    go_wp2_with fail
    refine (valid_any ng A n c ex l w1 F1a.out).mono ?_
    rw [HZ1.out]
    rintro e w2 ⟨rfl, HB2⟩
    have F2a := Lib.hid (F1a.out.belowW HB2.out)
    have F2b := Lib.hid (F1b.out.belowW HB2.out)
    have F2x := Lib.hid (F1x.out.belowW HB2.out)
    have HL2 := Lib.hid (HB1.out.trans (HB2.out.mono HB1.out.size))
    clear px0 fx0 px1 fx1 px2 fx2 px3 fx3 px4 fx4 px5 fx5 px6 fx6
    have px0 : (w2).cell? ⟨w.heap.size, 0, none⟩ = some (.bool ng) := F2x.out.cell 0
    have fx0 : (w2).frozen? ⟨w.heap.size, 0, none⟩ = false := F2x.out.frozen 0
    have px1 : (w2).cell? ⟨w.heap.size, 1, none⟩ = some (.slice A n c) := F2x.out.cell 1
    have fx1 : (w2).frozen? ⟨w.heap.size, 1, none⟩ = false := F2x.out.frozen 1
    have px2 : (w2).cell? ⟨w.heap.size, 2, none⟩ = some (.int .i64 ex) := F2x.out.cell 2
    have fx2 : (w2).frozen? ⟨w.heap.size, 2, none⟩ = false := F2x.out.frozen 2
    have px3 : (w2).cell? ⟨w.heap.size, 3, none⟩ = some (.bool ng') := F2x.out.cell 3
    have fx3 : (w2).frozen? ⟨w.heap.size, 3, none⟩ = false := F2x.out.frozen 3
    have px4 : (w2).cell? ⟨w.heap.size, 4, none⟩ = some (.slice B m c') := F2x.out.cell 4
    have fx4 : (w2).frozen? ⟨w.heap.size, 4, none⟩ = false := F2x.out.frozen 4
    have px5 : (w2).cell? ⟨w.heap.size, 5, none⟩ = some (.int .i64 ex') := F2x.out.cell 5
    have fx5 : (w2).frozen? ⟨w.heap.size, 5, none⟩ = false := F2x.out.frozen 5
    have px6 : (w2).cell? ⟨w.heap.size, 6, none⟩ = some (.bool false) := F2x.out.cell 6
    have fx6 : (w2).frozen? ⟨w.heap.size, 6, none⟩ = false := F2x.out.frozen 6
    cases z1 with
    | false =>
      go_wp2_with fail
      go_ret
      exact ⟨ret_bool (by rw [HR.out]; rfl), HL2⟩
    | true =>
      go_wp2_with fail
      refine (valid_any ng' B m c' ex' l' w2 F2b.out).mono ?_
      rw [HZ2.out]
      rintro e w3 ⟨rfl, HB3⟩
      have F3a := Lib.hid (F2a.out.belowW HB3.out)
      have F3b := Lib.hid (F2b.out.belowW HB3.out)
      have F3x := Lib.hid (F2x.out.belowW HB3.out)
      have HL3 := Lib.hid (HL2.out.trans (HB3.out.mono HL2.out.size))
      clear px0 fx0 px1 fx1 px2 fx2 px3 fx3 px4 fx4 px5 fx5 px6 fx6
      have px0 : (w3).cell? ⟨w.heap.size, 0, none⟩ = some (.bool ng) := F3x.out.cell 0
      have fx0 : (w3).frozen? ⟨w.heap.size, 0, none⟩ = false := F3x.out.frozen 0
      have px1 : (w3).cell? ⟨w.heap.size, 1, none⟩ = some (.slice A n c) := F3x.out.cell 1
      have fx1 : (w3).frozen? ⟨w.heap.size, 1, none⟩ = false := F3x.out.frozen 1
      have px2 : (w3).cell? ⟨w.heap.size, 2, none⟩ = some (.int .i64 ex) := F3x.out.cell 2
      have fx2 : (w3).frozen? ⟨w.heap.size, 2, none⟩ = false := F3x.out.frozen 2
      have px3 : (w3).cell? ⟨w.heap.size, 3, none⟩ = some (.bool ng') := F3x.out.cell 3
      have fx3 : (w3).frozen? ⟨w.heap.size, 3, none⟩ = false := F3x.out.frozen 3
      have px4 : (w3).cell? ⟨w.heap.size, 4, none⟩ = some (.slice B m c') := F3x.out.cell 4
      have fx4 : (w3).frozen? ⟨w.heap.size, 4, none⟩ = false := F3x.out.frozen 4
      have px5 : (w3).cell? ⟨w.heap.size, 5, none⟩ = some (.int .i64 ex') := F3x.out.cell 5
      have fx5 : (w3).frozen? ⟨w.heap.size, 5, none⟩ = false := F3x.out.frozen 5
      have px6 : (w3).cell? ⟨w.heap.size, 6, none⟩ = some (.bool false) := F3x.out.cell 6
      have fx6 : (w3).frozen? ⟨w.heap.size, 6, none⟩ = false := F3x.out.frozen 6
      cases z2 with
      | false =>
        go_wp2_with fail
        go_ret
        exact ⟨ret_bool (by rw [HR.out]; rfl), HL3⟩
      | true =>
        go_wp2_with fail
        obtain ⟨hl1, hv1⟩ := vldL_iff.1 HZ1.out
        obtain ⟨hl2, hv2⟩ := vldL_iff.1 HZ2.out
        have G1 := Lib.hid (show Sl w3 A n c (limbs (val l)) by rw [← hl1]; exact F3a.out)
        have G2 := Lib.hid (show Sl w3 B m c' (limbs (val l')) by rw [← hl2]; exact F3b.out)
        have V1 := Lib.hid hv1
        have V2 := Lib.hid hv2
        clear hl1 hv1 hl2 hv2
        refine (dcmp_any ⟨ng, val l, ex⟩ ⟨ng', val l', ex'⟩ A B n c m c' w3 G1.out G2.out V1.out V2.out).mono ?_
        rw [HCZ.out]
        rintro e w4 ⟨rfl, HB4⟩
        have F4a := Lib.hid (F3a.out.belowW HB4.out)
        have F4b := Lib.hid (F3b.out.belowW HB4.out)
        have F4x := Lib.hid (F3x.out.belowW HB4.out)
        have HL4 := Lib.hid (HL3.out.trans (HB4.out.mono HL3.out.size))
        go_wp2_with fail
        go_ret
        exact ⟨ret_bool (by rw [HR.out]; rfl), HL4⟩
end Go.Proofs.YtoogeihbhhcpaaaGreatDoor
