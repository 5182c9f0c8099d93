/-
  The walk of the law RatioOrders.
-/
import Derived.Test.YtnogfceojmnjiaaGreatDoorRaF
import Derived.Test.YtnogfceojmnjiaaGreatDoorRaY
set_option linter.unusedVariables false
namespace Go.Fl.Dy
/-- What Compare returns. -/
def cmpRE (n d : Int) (ng : Bool) (l : List Nat) (ex : Int) : Int × Int := if Rt.vB n d && vldL ng l ex then (cmpRD n d ⟨ng, Nm.val l, ex⟩, 0) else (0, 1)
end Go.Fl.Dy
namespace Go.Proofs.YtnogfceojmnjiaaGreatDoor
open Go.RowKit Go.Fl Go.Fl.Nm Go.Fl.Dy Go.Fl.Rt
theorem compare_q (an ad : Int) (ng : Bool) (A : Option Addr) (m c : Nat) (ex : Int) (l : List Nat) (w : World) (hx : Sl w A m c l) (a1 : -9223372036854775808 ≤ an) (a2 : an ≤ 9223372036854775807) (a3 : -9223372036854775808 ≤ ad) (a4 : ad ≤ 9223372036854775807) :
    Calls Tryz.prog 36 #[.agg #[.int .i64 an, .int .i64 ad], .agg #[.bool ng, .slice A m c, .int .i64 ex]] w (Ret (.tuple #[.int .i64 (cmpRE an ad ng l ex).1, .int .i64 (cmpRE an ad ng l ex).2]) w) := by
  cases hv : vB an ad && vldL ng l ex with
  | false =>
    have e : cmpRE an ad ng l ex = (0, 1) := by unfold cmpRE; rw [hv]; rfl
    rw [e]
    exact compare_no an ad ng A m c ex l w hx a1 a2 a3 a4 (Bool.and_eq_false_iff.1 hv)
  | true =>
    have e : cmpRE an ad ng l ex = (cmpRD an ad ⟨ng, val l, ex⟩, 0) := by unfold cmpRE; rw [hv]; rfl
    rw [e]
    rw [Bool.and_eq_true] at hv
    obtain ⟨h1, h2⟩ := vldL_iff.1 hv.2
    rw [h1] at hx
    exact compare_yes an ad ⟨ng, val l, ex⟩ A m c w hx h2 hv.1
theorem compare_r (an ad : Int) (ng : Bool) (A : Option Addr) (m c : Nat) (ex : Int) (l : List Nat) (w : World) (hx : Sl w A m c l) (a1 : -9223372036854775808 ≤ an) (a2 : an ≤ 9223372036854775807) (a3 : -9223372036854775808 ≤ ad) (a4 : ad ≤ 9223372036854775807) :
    Calls Tryz.prog 37 #[.agg #[.int .i64 an, .int .i64 ad], .agg #[.bool ng, .slice A m c, .int .i64 ex]] w (Ret (.tuple #[.int .i64 (cmpRE an ad ng l ex).1, .int .i64 (cmpRE an ad ng l ex).2]) w) := by
  cases hv : vB an ad && vldL ng l ex with
  | false =>
    have e : cmpRE an ad ng l ex = (0, 1) := by unfold cmpRE; rw [hv]; rfl
    rw [e]
    exact compareR_no an ad ng A m c ex l w hx a1 a2 a3 a4 (Bool.and_eq_false_iff.1 hv)
  | true =>
    have e : cmpRE an ad ng l ex = (cmpRD an ad ⟨ng, val l, ex⟩, 0) := by unfold cmpRE; rw [hv]; rfl
    rw [e]
    rw [Bool.and_eq_true] at hv
    obtain ⟨h1, h2⟩ := vldL_iff.1 hv.2
    rw [h1] at hx
    exact compareR_yes an ad ⟨ng, val l, ex⟩ A m c w hx h2 hv.1

set_option maxHeartbeats 4000000 in
set_option maxRecDepth 100000 in
theorem ratioOrders_any (an ad bn bd : Int) (ng : Bool) (A : Option Addr) (m c : Nat) (ex : Int) (l : List Nat) (w : World) (hT : RX w) (a1 : -9223372036854775808 ≤ an) (a2 : an ≤ 9223372036854775807) (a3 : -9223372036854775808 ≤ ad) (a4 : ad ≤ 9223372036854775807) (b1 : -9223372036854775808 ≤ bn) (b2 : bn ≤ 9223372036854775807) (b3 : -9223372036854775808 ≤ bd) (b4 : bd ≤ 9223372036854775807) (hx : Sl w A m c l) (x1 : -9223372036854775808 ≤ ex) (x2 : ex ≤ 9223372036854775807) :
    Calls Tryz.prog 9 #[.agg #[.int .i64 an, .int .i64 ad], .agg #[.int .i64 bn, .int .i64 bd], .agg #[.bool ng, .slice A m c, .int .i64 ex]] w (Awk w) := by
  have HT := Lib.hid hT
  have HX := Lib.hid hx
  have hmx := hx.max
  obtain ⟨r, s, hrs⟩ : ∃ r s, cmpRE an ad ng l ex = (r, s) := ⟨_, _, rfl⟩
  have HRS := Lib.hid hrs
  obtain ⟨z, hz⟩ : ∃ z, cmpE an ad bn bd = z := ⟨_, rfl⟩
  have HZ := Lib.hid hz
  clear hT hx hrs hz
  go_enter Tryz.func9, Tryz.ntmps9
  go_wp2_with fail
  obtain ⟨w1, hw⟩ : ∃ z9 : World, z9 = (((w.alloc (.cells #[.int .i64 an, .int .i64 ad] 23)).alloc (.cells #[.int .i64 bn, .int .i64 bd] 23)).alloc (.cells #[.bool ng, .slice A m c, .int .i64 ex] 28)) := ⟨_, rfl⟩
  have HB1 := Lib.hid (show Below w.heap.size w w1 by rw [hw]; exact below_a3 _ _ _ _)
  have F1t := Lib.hid (HT.out.belowW HB1.out)
  have F1x := Lib.hid (HX.out.belowW HB1.out)
  have F1ka := Lib.hid (show Blk w1 (w.heap.size) 23 #[.int .i64 an, .int .i64 ad] by rw [hw]; exact ((Blk.new _ _ _).alloc _).alloc _)
  have F1kb := Lib.hid (show Blk w1 (w.heap.size + 1) 23 #[.int .i64 bn, .int .i64 bd] by rw [hw]; exact (Blk.new1 _ _ _ _).alloc _)
  have F1kx := Lib.hid (show Blk w1 (w.heap.size + 1 + 1) 28 #[.bool ng, .slice A m c, .int .i64 ex] by rw [hw]; exact Blk.new2 _ _ _ _ _)
  rw [← hw]
  clear hw
  refine (awake_any w1 F1t.out).mono ?_
  rintro e w2 ⟨rfl, HB2⟩
  have F2t := Lib.hid (F1t.out.belowW HB2.out)
  have F2x := Lib.hid (F1x.out.belowW HB2.out)
  have F2ka := Lib.hid (F1ka.out.belowW HB2.out)
  have F2kb := Lib.hid (F1kb.out.belowW HB2.out)
  have F2kx := Lib.hid (F1kx.out.belowW HB2.out)
  have HL2 := Lib.hid (HB1.out.trans (HB2.out.mono HB1.out.size))
  clear F1t F1x F1ka F1kb F1kx HB1 HB2
  have pka0 : (w2).cell? ⟨w.heap.size, 0, none⟩ = some (.int .i64 an) := F2ka.out.cell 0
  have fka0 : (w2).frozen? ⟨w.heap.size, 0, none⟩ = false := F2ka.out.frozen 0
  have pka1 : (w2).cell? ⟨w.heap.size, 1, none⟩ = some (.int .i64 ad) := F2ka.out.cell 1
  have fka1 : (w2).frozen? ⟨w.heap.size, 1, none⟩ = false := F2ka.out.frozen 1
  have pkb0 : (w2).cell? ⟨w.heap.size + 1, 0, none⟩ = some (.int .i64 bn) := F2kb.out.cell 0
  have fkb0 : (w2).frozen? ⟨w.heap.size + 1, 0, none⟩ = false := F2kb.out.frozen 0
  have pkb1 : (w2).cell? ⟨w.heap.size + 1, 1, none⟩ = some (.int .i64 bd) := F2kb.out.cell 1
  have fkb1 : (w2).frozen? ⟨w.heap.size + 1, 1, none⟩ = false := F2kb.out.frozen 1
  have pkx0 : (w2).cell? ⟨w.heap.size + 1 + 1, 0, none⟩ = some (.bool ng) := F2kx.out.cell 0
  have fkx0 : (w2).frozen? ⟨w.heap.size + 1 + 1, 0, none⟩ = false := F2kx.out.frozen 0
  have pkx1 : (w2).cell? ⟨w.heap.size + 1 + 1, 1, none⟩ = some (.slice A m c) := F2kx.out.cell 1
  have fkx1 : (w2).frozen? ⟨w.heap.size + 1 + 1, 1, none⟩ = false := F2kx.out.frozen 1
  have pkx2 : (w2).cell? ⟨w.heap.size + 1 + 1, 2, none⟩ = some (.int .i64 ex) := F2kx.out.cell 2
  have fkx2 : (w2).frozen? ⟨w.heap.size + 1 + 1, 2, none⟩ = false := F2kx.out.frozen 2
  go_wp2_with fail
  refine (short4_any ng A m c ex w2 hmx).mono ?_
  rintro e w3 ⟨rfl, HB3⟩
  have F3t := Lib.hid (F2t.out.belowW HB3.out)
  have F3x := Lib.hid (F2x.out.belowW HB3.out)
  have F3ka := Lib.hid (F2ka.out.belowW HB3.out)
  have F3kb := Lib.hid (F2kb.out.belowW HB3.out)
  have F3kx := Lib.hid (F2kx.out.belowW HB3.out)
  have HL3 := Lib.hid (HL2.out.trans (HB3.out.mono HL2.out.size))
  clear F2t F2x F2ka F2kb F2kx HL2 HB3
  clear pka0 fka0 pka1 fka1 pkb0 fkb0 pkb1 fkb1 pkx0 fkx0 pkx1 fkx1 pkx2 fkx2
  have pka0 : (w3).cell? ⟨w.heap.size, 0, none⟩ = some (.int .i64 an) := F3ka.out.cell 0
  have fka0 : (w3).frozen? ⟨w.heap.size, 0, none⟩ = false := F3ka.out.frozen 0
  have pka1 : (w3).cell? ⟨w.heap.size, 1, none⟩ = some (.int .i64 ad) := F3ka.out.cell 1
  have fka1 : (w3).frozen? ⟨w.heap.size, 1, none⟩ = false := F3ka.out.frozen 1
  have pkb0 : (w3).cell? ⟨w.heap.size + 1, 0, none⟩ = some (.int .i64 bn) := F3kb.out.cell 0
  have fkb0 : (w3).frozen? ⟨w.heap.size + 1, 0, none⟩ = false := F3kb.out.frozen 0
  have pkb1 : (w3).cell? ⟨w.heap.size + 1, 1, none⟩ = some (.int .i64 bd) := F3kb.out.cell 1
  have fkb1 : (w3).frozen? ⟨w.heap.size + 1, 1, none⟩ = false := F3kb.out.frozen 1
  have pkx0 : (w3).cell? ⟨w.heap.size + 1 + 1, 0, none⟩ = some (.bool ng) := F3kx.out.cell 0
  have fkx0 : (w3).frozen? ⟨w.heap.size + 1 + 1, 0, none⟩ = false := F3kx.out.frozen 0
  have pkx1 : (w3).cell? ⟨w.heap.size + 1 + 1, 1, none⟩ = some (.slice A m c) := F3kx.out.cell 1
  have fkx1 : (w3).frozen? ⟨w.heap.size + 1 + 1, 1, none⟩ = false := F3kx.out.frozen 1
  have pkx2 : (w3).cell? ⟨w.heap.size + 1 + 1, 2, none⟩ = some (.int .i64 ex) := F3kx.out.cell 2
  have fkx2 : (w3).frozen? ⟨w.heap.size + 1 + 1, 2, none⟩ = false := F3kx.out.frozen 2
  by_cases hs : m ≤ 300
  case neg =>
    have ds : decide (m ≤ 300) = false := decide_eq_false hs
    go_wp2_with fail
    go_ret
    exact ⟨rfl, HL3⟩
  have ds : decide (m ≤ 300) = true := decide_eq_true hs
  clear hs
  go_wp2_with fail
  refine (compare_q an ad ng A m c ex l w3 F3x.out a1 a2 a3 a4).mono ?_
  rw [HRS.out]
  rintro e w4 ⟨rfl, HB4⟩
  have F4t := Lib.hid (F3t.out.belowW HB4.out)
  have F4x := Lib.hid (F3x.out.belowW HB4.out)
  have F4ka := Lib.hid (F3ka.out.belowW HB4.out)
  have F4kb := Lib.hid (F3kb.out.belowW HB4.out)
  have F4kx := Lib.hid (F3kx.out.belowW HB4.out)
  have HL4 := Lib.hid (HL3.out.trans (HB4.out.mono HL3.out.size))
  clear F3t F3x F3ka F3kb F3kx HL3 HB4
  clear pka0 fka0 pka1 fka1 pkb0 fkb0 pkb1 fkb1 pkx0 fkx0 pkx1 fkx1 pkx2 fkx2
  have pka0 : (w4).cell? ⟨w.heap.size, 0, none⟩ = some (.int .i64 an) := F4ka.out.cell 0
  have fka0 : (w4).frozen? ⟨w.heap.size, 0, none⟩ = false := F4ka.out.frozen 0
  have pka1 : (w4).cell? ⟨w.heap.size, 1, none⟩ = some (.int .i64 ad) := F4ka.out.cell 1
  have fka1 : (w4).frozen? ⟨w.heap.size, 1, none⟩ = false := F4ka.out.frozen 1
  have pkb0 : (w4).cell? ⟨w.heap.size + 1, 0, none⟩ = some (.int .i64 bn) := F4kb.out.cell 0
  have fkb0 : (w4).frozen? ⟨w.heap.size + 1, 0, none⟩ = false := F4kb.out.frozen 0
  have pkb1 : (w4).cell? ⟨w.heap.size + 1, 1, none⟩ = some (.int .i64 bd) := F4kb.out.cell 1
  have fkb1 : (w4).frozen? ⟨w.heap.size + 1, 1, none⟩ = false := F4kb.out.frozen 1
  have pkx0 : (w4).cell? ⟨w.heap.size + 1 + 1, 0, none⟩ = some (.bool ng) := F4kx.out.cell 0
  have fkx0 : (w4).frozen? ⟨w.heap.size + 1 + 1, 0, none⟩ = false := F4kx.out.frozen 0
  have pkx1 : (w4).cell? ⟨w.heap.size + 1 + 1, 1, none⟩ = some (.slice A m c) := F4kx.out.cell 1
  have fkx1 : (w4).frozen? ⟨w.heap.size + 1 + 1, 1, none⟩ = false := F4kx.out.frozen 1
  have pkx2 : (w4).cell? ⟨w.heap.size + 1 + 1, 2, none⟩ = some (.int .i64 ex) := F4kx.out.cell 2
  have fkx2 : (w4).frozen? ⟨w.heap.size + 1 + 1, 2, none⟩ = false := F4kx.out.frozen 2
  go_wp2_with fail
  refine (compare_r an ad ng A m c ex l w4 F4x.out a1 a2 a3 a4).mono ?_
  rw [HRS.out]
  rintro e w5 ⟨rfl, HB5⟩
  have F5t := Lib.hid (F4t.out.belowW HB5.out)
  have F5x := Lib.hid (F4x.out.belowW HB5.out)
  have F5ka := Lib.hid (F4ka.out.belowW HB5.out)
  have F5kb := Lib.hid (F4kb.out.belowW HB5.out)
  have F5kx := Lib.hid (F4kx.out.belowW HB5.out)
  have HL5 := Lib.hid (HL4.out.trans (HB5.out.mono HL4.out.size))
  clear F4t F4x F4ka F4kb F4kx HL4 HB5
  clear pka0 fka0 pka1 fka1 pkb0 fkb0 pkb1 fkb1 pkx0 fkx0 pkx1 fkx1 pkx2 fkx2
  have pka0 : (w5).cell? ⟨w.heap.size, 0, none⟩ = some (.int .i64 an) := F5ka.out.cell 0
  have fka0 : (w5).frozen? ⟨w.heap.size, 0, none⟩ = false := F5ka.out.frozen 0
  have pka1 : (w5).cell? ⟨w.heap.size, 1, none⟩ = some (.int .i64 ad) := F5ka.out.cell 1
  have fka1 : (w5).frozen? ⟨w.heap.size, 1, none⟩ = false := F5ka.out.frozen 1
  have pkb0 : (w5).cell? ⟨w.heap.size + 1, 0, none⟩ = some (.int .i64 bn) := F5kb.out.cell 0
  have fkb0 : (w5).frozen? ⟨w.heap.size + 1, 0, none⟩ = false := F5kb.out.frozen 0
  have pkb1 : (w5).cell? ⟨w.heap.size + 1, 1, none⟩ = some (.int .i64 bd) := F5kb.out.cell 1
  have fkb1 : (w5).frozen? ⟨w.heap.size + 1, 1, none⟩ = false := F5kb.out.frozen 1
  have pkx0 : (w5).cell? ⟨w.heap.size + 1 + 1, 0, none⟩ = some (.bool ng) := F5kx.out.cell 0
  have fkx0 : (w5).frozen? ⟨w.heap.size + 1 + 1, 0, none⟩ = false := F5kx.out.frozen 0
  have pkx1 : (w5).cell? ⟨w.heap.size + 1 + 1, 1, none⟩ = some (.slice A m c) := F5kx.out.cell 1
  have fkx1 : (w5).frozen? ⟨w.heap.size + 1 + 1, 1, none⟩ = false := F5kx.out.frozen 1
  have pkx2 : (w5).cell? ⟨w.heap.size + 1 + 1, 2, none⟩ = some (.int .i64 ex) := F5kx.out.cell 2
  have fkx2 : (w5).frozen? ⟨w.heap.size + 1 + 1, 2, none⟩ = false := F5kx.out.frozen 2
  go_wp2_with fail
  have HR6 := Lib.hid (below_dr w5)
  have R6t := Lib.hid (F5t.out.belowW HR6.out)
  have R6x := Lib.hid (F5x.out.belowW HR6.out)
  have R6ka := Lib.hid (F5ka.out.belowW HR6.out)
  have R6kb := Lib.hid (F5kb.out.belowW HR6.out)
  have R6kx := Lib.hid (F5kx.out.belowW HR6.out)
  have c6ka0 : w5.drew.cell? ⟨w.heap.size, 0, none⟩ = some (.int .i64 an) := R6ka.out.cell 0
  have c6ka1 : w5.drew.cell? ⟨w.heap.size, 1, none⟩ = some (.int .i64 ad) := R6ka.out.cell 1
  have c6kb0 : w5.drew.cell? ⟨w.heap.size + 1, 0, none⟩ = some (.int .i64 bn) := R6kb.out.cell 0
  have c6kb1 : w5.drew.cell? ⟨w.heap.size + 1, 1, none⟩ = some (.int .i64 bd) := R6kb.out.cell 1
  go_region_held3 (fun w' => w'.cell? ⟨w.heap.size, 0, none⟩ = some (.int .i64 an) ∧ w'.cell? ⟨w.heap.size, 1, none⟩ = some (.int .i64 ad) ∧ w'.cell? ⟨w.heap.size + 1, 0, none⟩ = some (.int .i64 bn) ∧ w'.cell? ⟨w.heap.size + 1, 1, none⟩ = some (.int .i64 bd)) ((with_reducible refine ⟨?_, ?_, ?_, ?_⟩) <;> (with_reducible assumption)) (first
    | (go_at_call 34
       (with_reducible refine (qCmp an ad bn bd _ a1 a2 a3 a4 b1 b2 b3 b4).mono ?_)
       rw [HZ.out]
       rintro e w7 ⟨rfl, HC7⟩
       have R7t := Lib.hid (R6t.out.belowW HC7.out)
       have R7x := Lib.hid (R6x.out.belowW HC7.out)
       have R7ka := Lib.hid (R6ka.out.belowW HC7.out)
       have R7kb := Lib.hid (R6kb.out.belowW HC7.out)
       have R7kx := Lib.hid (R6kx.out.belowW HC7.out)
       have HR7 := Lib.hid (HR6.out.trans (HC7.out.mono HR6.out.size))
       have c7ka0 : w7.cell? ⟨w.heap.size, 0, none⟩ = some (.int .i64 an) := R7ka.out.cell 0
       have c7ka1 : w7.cell? ⟨w.heap.size, 1, none⟩ = some (.int .i64 ad) := R7ka.out.cell 1
       have c7kb0 : w7.cell? ⟨w.heap.size + 1, 0, none⟩ = some (.int .i64 bn) := R7kb.out.cell 0
       have c7kb1 : w7.cell? ⟨w.heap.size + 1, 1, none⟩ = some (.int .i64 bd) := R7kb.out.cell 1)
    | (go_at_call 38
       (with_reducible refine (cmp_r an ad bn bd _ a1 a2 a3 a4 b1 b2 b3 b4).mono ?_)
       rw [HZ.out]
       rintro e w8 ⟨rfl, HC8⟩
       have R8t := Lib.hid (R7t.out.belowW HC8.out)
       have R8x := Lib.hid (R7x.out.belowW HC8.out)
       have R8ka := Lib.hid (R7ka.out.belowW HC8.out)
       have R8kb := Lib.hid (R7kb.out.belowW HC8.out)
       have R8kx := Lib.hid (R7kx.out.belowW HC8.out)
       have HR8 := Lib.hid (HR7.out.trans (HC8.out.mono HR7.out.size))
       have c8ka0 : w8.cell? ⟨w.heap.size, 0, none⟩ = some (.int .i64 an) := R8ka.out.cell 0
       have c8ka1 : w8.cell? ⟨w.heap.size, 1, none⟩ = some (.int .i64 ad) := R8ka.out.cell 1
       have c8kb0 : w8.cell? ⟨w.heap.size + 1, 0, none⟩ = some (.int .i64 bn) := R8kb.out.cell 0
       have c8kb1 : w8.cell? ⟨w.heap.size + 1, 1, none⟩ = some (.int .i64 bd) := R8kb.out.cell 1))
  have HL8 := Lib.hid (HL5.out.trans (HR8.out.mono HL5.out.size))
  go_wp2_with fail
  go_ret
  exact ⟨by simp, HL8⟩
end Go.Proofs.YtnogfceojmnjiaaGreatDoor
