/-
  The walks of the reference's negative and Enclose.
  The walk of the law RatioEncloses.
-/
import Derived.Test.YtnogfceojmnjiaaGreatDoorRcD
import Derived.Test.YtnogfceojmnjiaaGreatDoorRaC
import Derived.Test.YtnogfceojmnjiaaGreatDoorRaSS
import Derived.Test.YtnogfceojmnjiaaGreatDoorRatPlain6
import Derived.Test.YtnogfceojmnjiaaGreatDoorRaF
set_option linter.unusedVariables false
namespace Go.Fl
open Go.RowKit
variable {P : Program} {md : Region.Mode} {ops : Array Oper} {Q : Exit → Act → World → Prop} {S : World → Prop}
/-- A state of a drawn region under names: what is left to be shown, and the frame. -/
theorem memo_start {fuel : Nat} {listed : Array Bool} {a : Act} {w : World} (h : ∀ (G : Nat → Array Bool → Act → World → Prop) (A0 : Act), Hid (G = wpAnyH P md ops Q S) → Hid (A0 = a) → G fuel listed A0 w) : wpAnyH P md ops Q S fuel listed a w := h _ _ (Lib.hid rfl) (Lib.hid rfl)
theorem store7_far {w : World} {g g' i : Nat} {t : TypeId} {x0 x1 x2 x3 x4 x5 x6 v : Value} (hB : Blk w g' t #[x0, x1, x2, x3, x4, x5, x6]) (hc : w.cell? ⟨g, i, none⟩ = some v) (hne : g ≠ g') (a b c d e f h : Value) :
    (((((((w.setCell ⟨g', 0, none⟩ a).setCell ⟨g', 1, none⟩ b).setCell ⟨g', 2, none⟩ c).setCell ⟨g', 3, none⟩ d).setCell ⟨g', 4, none⟩ e).setCell ⟨g', 5, none⟩ f).setCell ⟨g', 6, none⟩ h).cell? ⟨g, i, none⟩ = some v := by
  rw [store7_put hB]
  exact (putB_grown w g' t _).cell hc (by simpa using hne)
end Go.Fl
namespace Go.Fl.Dy
open Go.Fl.Nm
/-- The other sign of a number that is not zero. -/
theorem canon_other {b : Bool} {k : Nat} {u : Int} (h : k ≠ 0) : (⟨!(canon b k u).neg, (canon b k u).k, (canon b k u).e⟩ : D) = canon (!b) k u := by
  rw [canon_pos h, canon_pos h]
theorem canon_k_ne {b : Bool} {k : Nat} {u : Int} (h : k ≠ 0) : (canon b k u).k ≠ 0 := by rw [canon_pos h]; exact od_ne h
end Go.Fl.Dy
namespace Go.Proofs.YtnogfceojmnjiaaGreatDoor
open Go.RowKit Go.Fl Go.Fl.Nm Go.Fl.Dy Go.Fl.Rt

set_option maxHeartbeats 1000000 in
theorem negative_r (d : D) (A : Option Addr) (n c : Nat) (w : World) (h : Sl w A n c (limbs d.k)) (hk : d.k ≠ 0) :
    Calls Tryz.prog 52 #[.agg #[.bool d.neg, .slice A n c, .int .i64 d.e]] w (DyR ⟨!d.neg, d.k, d.e⟩ w) := by
  have H := Lib.hid h
  have hmx := h.max
  unfold maxLen at hmx
  have hn : 0 < n := by
    rcases Nat.eq_zero_or_pos n with h0 | h0
    · exfalso
      have := h.len
      rw [h0, limbs_pos hk] at this
      cases this
    · exact h0
  have dn : decide ((0 : Int) < (n : Int)) = true := decide_eq_true (by omega)
  have dn2 : decide (0 < n) = true := decide_eq_true hn
  clear h
  go_enter Tryz.func52, Tryz.ntmps52
  go_wp2_with fail
  refine bodyPost_ret (v := .agg #[.bool (!d.neg), .slice A n c, .int .i64 d.e]) (by simp [results, Tryz.results52, go_sem]) rfl ?_
  exact ⟨A, n, c, rfl, Lib.hid ((H.out.alloc _).alloc _), Lib.hid (below_a2 _ _ _)⟩

set_option maxHeartbeats 1000000 in
theorem encloseR_no (n d p : Int) (w : World) (h1 : -9223372036854775808 ≤ n) (h2 : n ≤ 9223372036854775807) (h3 : -9223372036854775808 ≤ d) (h4 : d ≤ 9223372036854775807) (hv : vB n d = false) :
    Calls Tryz.prog 16 #[.agg #[.int .i64 n, .int .i64 d], .int .i64 p] w (IvR (encR n d p) w) := by
  have HV := Lib.hid hv
  have HR := Lib.hid (encR_no (p := p) (.inl hv))
  clear hv
  go_enter Tryz.func16, Tryz.ntmps16
  go_wp2_with fail
  obtain ⟨w1, hw⟩ : ∃ z9 : World, z9 = ((w.alloc (.cells #[.int .i64 n, .int .i64 d] 23)).alloc (.cells #[.bool false, .slice none 0 0, .int .i64 0, .bool false, .slice none 0 0, .int .i64 0, .bool false] 30)) := ⟨_, rfl⟩
  have HB1 := Lib.hid (show Below w.heap.size w w1 by rw [hw]; exact below_a2 _ _ _)
  have F1k := Lib.hid (show Blk w1 (w.heap.size) 23 #[.int .i64 n, .int .i64 d] by rw [hw]; exact (Blk.new _ _ _).alloc _)
  have F1r := Lib.hid (show Blk w1 (w.heap.size + 1) 30 #[.bool false, .slice none 0 0, .int .i64 0, .bool false, .slice none 0 0, .int .i64 0, .bool false] by rw [hw]; exact Blk.new1 _ _ _ _)
  rw [← hw]
  clear hw
  have pk0 : (w1).cell? ⟨w.heap.size, 0, none⟩ = some (.int .i64 n) := F1k.out.cell 0
  have fk0 : (w1).frozen? ⟨w.heap.size, 0, none⟩ = false := F1k.out.frozen 0
  have pk1 : (w1).cell? ⟨w.heap.size, 1, none⟩ = some (.int .i64 d) := F1k.out.cell 1
  have fk1 : (w1).frozen? ⟨w.heap.size, 1, none⟩ = false := F1k.out.frozen 1
  refine (valid_r n d w1 h1 h2 h3 h4).mono ?_
  rw [HV.out]
  rintro e w2 ⟨rfl, HB2⟩
  have F2k := Lib.hid (F1k.out.belowW HB2.out)
  have F2r := Lib.hid (F1r.out.belowW HB2.out)
  have HL2 := Lib.hid (HB1.out.trans (HB2.out.mono HB1.out.size))
  clear pk0 pk1 fk0 fk1
  have pr0 : (w2).cell? ⟨w.heap.size + 1, 0, none⟩ = some (.bool false) := F2r.out.cell 0
  have fr0 : (w2).frozen? ⟨w.heap.size + 1, 0, none⟩ = false := F2r.out.frozen 0
  have pr1 : (w2).cell? ⟨w.heap.size + 1, 1, none⟩ = some (.slice none 0 0) := F2r.out.cell 1
  have fr1 : (w2).frozen? ⟨w.heap.size + 1, 1, none⟩ = false := F2r.out.frozen 1
  have pr2 : (w2).cell? ⟨w.heap.size + 1, 2, none⟩ = some (.int .i64 0) := F2r.out.cell 2
  have fr2 : (w2).frozen? ⟨w.heap.size + 1, 2, none⟩ = false := F2r.out.frozen 2
  have pr3 : (w2).cell? ⟨w.heap.size + 1, 3, none⟩ = some (.bool false) := F2r.out.cell 3
  have fr3 : (w2).frozen? ⟨w.heap.size + 1, 3, none⟩ = false := F2r.out.frozen 3
  have pr4 : (w2).cell? ⟨w.heap.size + 1, 4, none⟩ = some (.slice none 0 0) := F2r.out.cell 4
  have fr4 : (w2).frozen? ⟨w.heap.size + 1, 4, none⟩ = false := F2r.out.frozen 4
  have pr5 : (w2).cell? ⟨w.heap.size + 1, 5, none⟩ = some (.int .i64 0) := F2r.out.cell 5
  have fr5 : (w2).frozen? ⟨w.heap.size + 1, 5, none⟩ = false := F2r.out.frozen 5
  have pr6 : (w2).cell? ⟨w.heap.size + 1, 6, none⟩ = some (.bool false) := F2r.out.cell 6
  have fr6 : (w2).frozen? ⟨w.heap.size + 1, 6, none⟩ = false := F2r.out.frozen 6
  go_wp2_with fail
  rw [store7_put F2r.out]
  have FR9 := Lib.hid (F2r.out.put #[.bool false, .slice none 0 0, .int .i64 0, .bool false, .slice none 0 0, .int .i64 0, .bool true])
  have HL9 := Lib.hid (HL2.out.trans (putB_below w2 _ 30 #[.bool false, .slice none 0 0, .int .i64 0, .bool false, .slice none 0 0, .int .i64 0, .bool true] (by omega : w.heap.size ≤ w.heap.size + 1)))
  have G9 := putB_grown w2 (w.heap.size + 1) 30 #[.bool false, .slice none 0 0, .int .i64 0, .bool false, .slice none 0 0, .int .i64 0, .bool true]
  clear G9 pr0 fr0 pr1 fr1 pr2 fr2 pr3 fr3 pr4 fr4 pr5 fr5 pr6 fr6
  obtain ⟨w9, hw⟩ : ∃ z9 : World, z9 = putB w2 (w.heap.size + 1) 30 #[.bool false, .slice none 0 0, .int .i64 0, .bool false, .slice none 0 0, .int .i64 0, .bool true] := ⟨_, rfl⟩
  rw [← hw] at FR9 HL9  ⊢
  clear hw
  have pr0 : (w9).cell? ⟨w.heap.size + 1, 0, none⟩ = some (.bool false) := FR9.out.cell 0
  have fr0 : (w9).frozen? ⟨w.heap.size + 1, 0, none⟩ = false := FR9.out.frozen 0
  have pr1 : (w9).cell? ⟨w.heap.size + 1, 1, none⟩ = some (.slice none 0 0) := FR9.out.cell 1
  have fr1 : (w9).frozen? ⟨w.heap.size + 1, 1, none⟩ = false := FR9.out.frozen 1
  have pr2 : (w9).cell? ⟨w.heap.size + 1, 2, none⟩ = some (.int .i64 0) := FR9.out.cell 2
  have fr2 : (w9).frozen? ⟨w.heap.size + 1, 2, none⟩ = false := FR9.out.frozen 2
  have pr3 : (w9).cell? ⟨w.heap.size + 1, 3, none⟩ = some (.bool false) := FR9.out.cell 3
  have fr3 : (w9).frozen? ⟨w.heap.size + 1, 3, none⟩ = false := FR9.out.frozen 3
  have pr4 : (w9).cell? ⟨w.heap.size + 1, 4, none⟩ = some (.slice none 0 0) := FR9.out.cell 4
  have fr4 : (w9).frozen? ⟨w.heap.size + 1, 4, none⟩ = false := FR9.out.frozen 4
  have pr5 : (w9).cell? ⟨w.heap.size + 1, 5, none⟩ = some (.int .i64 0) := FR9.out.cell 5
  have fr5 : (w9).frozen? ⟨w.heap.size + 1, 5, none⟩ = false := FR9.out.frozen 5
  have pr6 : (w9).cell? ⟨w.heap.size + 1, 6, none⟩ = some (.bool true) := FR9.out.cell 6
  have fr6 : (w9).frozen? ⟨w.heap.size + 1, 6, none⟩ = false := FR9.out.frozen 6
  refine bodyPost_ret (v := .agg #[.bool false, .slice none 0 0, .int .i64 0, .bool false, .slice none 0 0, .int .i64 0, .bool true]) (by simp [results, Tryz.results16, go_sem, pr0, pr1, pr2, pr3, pr4, pr5, pr6]) rfl ?_
  exact ivr_all HR.out rfl HL9.out

set_option maxHeartbeats 1000000 in
theorem encloseR_low (n d p : Int) (w : World) (h1 : -9223372036854775808 ≤ n) (h2 : n ≤ 9223372036854775807) (h3 : -9223372036854775808 ≤ d) (h4 : d ≤ 9223372036854775807) (hv : vB n d = true) (hp : p < 8) :
    Calls Tryz.prog 16 #[.agg #[.int .i64 n, .int .i64 d], .int .i64 p] w (IvR (encR n d p) w) := by
  have HV := Lib.hid hv
  have HR := Lib.hid (encR_no (n := n) (d := d) (p := p) (.inr (by unfold precB; rw [decide_eq_false_iff_not]; omega)))
  have d1 : decide (p < 8) = true := decide_eq_true hp
  clear hv
  go_enter Tryz.func16, Tryz.ntmps16
  go_wp2_with fail
  obtain ⟨w1, hw⟩ : ∃ z9 : World, z9 = ((w.alloc (.cells #[.int .i64 n, .int .i64 d] 23)).alloc (.cells #[.bool false, .slice none 0 0, .int .i64 0, .bool false, .slice none 0 0, .int .i64 0, .bool false] 30)) := ⟨_, rfl⟩
  have HB1 := Lib.hid (show Below w.heap.size w w1 by rw [hw]; exact below_a2 _ _ _)
  have F1k := Lib.hid (show Blk w1 (w.heap.size) 23 #[.int .i64 n, .int .i64 d] by rw [hw]; exact (Blk.new _ _ _).alloc _)
  have F1r := Lib.hid (show Blk w1 (w.heap.size + 1) 30 #[.bool false, .slice none 0 0, .int .i64 0, .bool false, .slice none 0 0, .int .i64 0, .bool false] by rw [hw]; exact Blk.new1 _ _ _ _)
  rw [← hw]
  clear hw
  have pk0 : (w1).cell? ⟨w.heap.size, 0, none⟩ = some (.int .i64 n) := F1k.out.cell 0
  have fk0 : (w1).frozen? ⟨w.heap.size, 0, none⟩ = false := F1k.out.frozen 0
  have pk1 : (w1).cell? ⟨w.heap.size, 1, none⟩ = some (.int .i64 d) := F1k.out.cell 1
  have fk1 : (w1).frozen? ⟨w.heap.size, 1, none⟩ = false := F1k.out.frozen 1
  refine (valid_r n d w1 h1 h2 h3 h4).mono ?_
  rw [HV.out]
  rintro e w2 ⟨rfl, HB2⟩
  have F2k := Lib.hid (F1k.out.belowW HB2.out)
  have F2r := Lib.hid (F1r.out.belowW HB2.out)
  have HL2 := Lib.hid (HB1.out.trans (HB2.out.mono HB1.out.size))
  clear pk0 pk1 fk0 fk1
  have pr0 : (w2).cell? ⟨w.heap.size + 1, 0, none⟩ = some (.bool false) := F2r.out.cell 0
  have fr0 : (w2).frozen? ⟨w.heap.size + 1, 0, none⟩ = false := F2r.out.frozen 0
  have pr1 : (w2).cell? ⟨w.heap.size + 1, 1, none⟩ = some (.slice none 0 0) := F2r.out.cell 1
  have fr1 : (w2).frozen? ⟨w.heap.size + 1, 1, none⟩ = false := F2r.out.frozen 1
  have pr2 : (w2).cell? ⟨w.heap.size + 1, 2, none⟩ = some (.int .i64 0) := F2r.out.cell 2
  have fr2 : (w2).frozen? ⟨w.heap.size + 1, 2, none⟩ = false := F2r.out.frozen 2
  have pr3 : (w2).cell? ⟨w.heap.size + 1, 3, none⟩ = some (.bool false) := F2r.out.cell 3
  have fr3 : (w2).frozen? ⟨w.heap.size + 1, 3, none⟩ = false := F2r.out.frozen 3
  have pr4 : (w2).cell? ⟨w.heap.size + 1, 4, none⟩ = some (.slice none 0 0) := F2r.out.cell 4
  have fr4 : (w2).frozen? ⟨w.heap.size + 1, 4, none⟩ = false := F2r.out.frozen 4
  have pr5 : (w2).cell? ⟨w.heap.size + 1, 5, none⟩ = some (.int .i64 0) := F2r.out.cell 5
  have fr5 : (w2).frozen? ⟨w.heap.size + 1, 5, none⟩ = false := F2r.out.frozen 5
  have pr6 : (w2).cell? ⟨w.heap.size + 1, 6, none⟩ = some (.bool false) := F2r.out.cell 6
  have fr6 : (w2).frozen? ⟨w.heap.size + 1, 6, none⟩ = false := F2r.out.frozen 6
  go_wp2_with fail
  rw [store7_put F2r.out]
  have FR9 := Lib.hid (F2r.out.put #[.bool false, .slice none 0 0, .int .i64 0, .bool false, .slice none 0 0, .int .i64 0, .bool true])
  have HL9 := Lib.hid (HL2.out.trans (putB_below w2 _ 30 #[.bool false, .slice none 0 0, .int .i64 0, .bool false, .slice none 0 0, .int .i64 0, .bool true] (by omega : w.heap.size ≤ w.heap.size + 1)))
  have G9 := putB_grown w2 (w.heap.size + 1) 30 #[.bool false, .slice none 0 0, .int .i64 0, .bool false, .slice none 0 0, .int .i64 0, .bool true]
  clear G9 pr0 fr0 pr1 fr1 pr2 fr2 pr3 fr3 pr4 fr4 pr5 fr5 pr6 fr6
  obtain ⟨w9, hw⟩ : ∃ z9 : World, z9 = putB w2 (w.heap.size + 1) 30 #[.bool false, .slice none 0 0, .int .i64 0, .bool false, .slice none 0 0, .int .i64 0, .bool true] := ⟨_, rfl⟩
  rw [← hw] at FR9 HL9  ⊢
  clear hw
  have pr0 : (w9).cell? ⟨w.heap.size + 1, 0, none⟩ = some (.bool false) := FR9.out.cell 0
  have fr0 : (w9).frozen? ⟨w.heap.size + 1, 0, none⟩ = false := FR9.out.frozen 0
  have pr1 : (w9).cell? ⟨w.heap.size + 1, 1, none⟩ = some (.slice none 0 0) := FR9.out.cell 1
  have fr1 : (w9).frozen? ⟨w.heap.size + 1, 1, none⟩ = false := FR9.out.frozen 1
  have pr2 : (w9).cell? ⟨w.heap.size + 1, 2, none⟩ = some (.int .i64 0) := FR9.out.cell 2
  have fr2 : (w9).frozen? ⟨w.heap.size + 1, 2, none⟩ = false := FR9.out.frozen 2
  have pr3 : (w9).cell? ⟨w.heap.size + 1, 3, none⟩ = some (.bool false) := FR9.out.cell 3
  have fr3 : (w9).frozen? ⟨w.heap.size + 1, 3, none⟩ = false := FR9.out.frozen 3
  have pr4 : (w9).cell? ⟨w.heap.size + 1, 4, none⟩ = some (.slice none 0 0) := FR9.out.cell 4
  have fr4 : (w9).frozen? ⟨w.heap.size + 1, 4, none⟩ = false := FR9.out.frozen 4
  have pr5 : (w9).cell? ⟨w.heap.size + 1, 5, none⟩ = some (.int .i64 0) := FR9.out.cell 5
  have fr5 : (w9).frozen? ⟨w.heap.size + 1, 5, none⟩ = false := FR9.out.frozen 5
  have pr6 : (w9).cell? ⟨w.heap.size + 1, 6, none⟩ = some (.bool true) := FR9.out.cell 6
  have fr6 : (w9).frozen? ⟨w.heap.size + 1, 6, none⟩ = false := FR9.out.frozen 6
  refine bodyPost_ret (v := .agg #[.bool false, .slice none 0 0, .int .i64 0, .bool false, .slice none 0 0, .int .i64 0, .bool true]) (by simp [results, Tryz.results16, go_sem, pr0, pr1, pr2, pr3, pr4, pr5, pr6]) rfl ?_
  exact ivr_all HR.out rfl HL9.out

set_option maxHeartbeats 1000000 in
theorem encloseR_high (n d p : Int) (w : World) (h1 : -9223372036854775808 ≤ n) (h2 : n ≤ 9223372036854775807) (h3 : -9223372036854775808 ≤ d) (h4 : d ≤ 9223372036854775807) (hv : vB n d = true) (hp : 512 < p) :
    Calls Tryz.prog 16 #[.agg #[.int .i64 n, .int .i64 d], .int .i64 p] w (IvR (encR n d p) w) := by
  have HV := Lib.hid hv
  have HR := Lib.hid (encR_no (n := n) (d := d) (p := p) (.inr (by unfold precB; rw [decide_eq_false_iff_not]; omega)))
  have d1 : decide (p < 8) = false := decide_eq_false (by omega)
  have d2 : decide (512 < p) = true := decide_eq_true hp
  clear hv
  go_enter Tryz.func16, Tryz.ntmps16
  go_wp2_with fail
  obtain ⟨w1, hw⟩ : ∃ z9 : World, z9 = ((w.alloc (.cells #[.int .i64 n, .int .i64 d] 23)).alloc (.cells #[.bool false, .slice none 0 0, .int .i64 0, .bool false, .slice none 0 0, .int .i64 0, .bool false] 30)) := ⟨_, rfl⟩
  have HB1 := Lib.hid (show Below w.heap.size w w1 by rw [hw]; exact below_a2 _ _ _)
  have F1k := Lib.hid (show Blk w1 (w.heap.size) 23 #[.int .i64 n, .int .i64 d] by rw [hw]; exact (Blk.new _ _ _).alloc _)
  have F1r := Lib.hid (show Blk w1 (w.heap.size + 1) 30 #[.bool false, .slice none 0 0, .int .i64 0, .bool false, .slice none 0 0, .int .i64 0, .bool false] by rw [hw]; exact Blk.new1 _ _ _ _)
  rw [← hw]
  clear hw
  have pk0 : (w1).cell? ⟨w.heap.size, 0, none⟩ = some (.int .i64 n) := F1k.out.cell 0
  have fk0 : (w1).frozen? ⟨w.heap.size, 0, none⟩ = false := F1k.out.frozen 0
  have pk1 : (w1).cell? ⟨w.heap.size, 1, none⟩ = some (.int .i64 d) := F1k.out.cell 1
  have fk1 : (w1).frozen? ⟨w.heap.size, 1, none⟩ = false := F1k.out.frozen 1
  refine (valid_r n d w1 h1 h2 h3 h4).mono ?_
  rw [HV.out]
  rintro e w2 ⟨rfl, HB2⟩
  have F2k := Lib.hid (F1k.out.belowW HB2.out)
  have F2r := Lib.hid (F1r.out.belowW HB2.out)
  have HL2 := Lib.hid (HB1.out.trans (HB2.out.mono HB1.out.size))
  clear pk0 pk1 fk0 fk1
  have pr0 : (w2).cell? ⟨w.heap.size + 1, 0, none⟩ = some (.bool false) := F2r.out.cell 0
  have fr0 : (w2).frozen? ⟨w.heap.size + 1, 0, none⟩ = false := F2r.out.frozen 0
  have pr1 : (w2).cell? ⟨w.heap.size + 1, 1, none⟩ = some (.slice none 0 0) := F2r.out.cell 1
  have fr1 : (w2).frozen? ⟨w.heap.size + 1, 1, none⟩ = false := F2r.out.frozen 1
  have pr2 : (w2).cell? ⟨w.heap.size + 1, 2, none⟩ = some (.int .i64 0) := F2r.out.cell 2
  have fr2 : (w2).frozen? ⟨w.heap.size + 1, 2, none⟩ = false := F2r.out.frozen 2
  have pr3 : (w2).cell? ⟨w.heap.size + 1, 3, none⟩ = some (.bool false) := F2r.out.cell 3
  have fr3 : (w2).frozen? ⟨w.heap.size + 1, 3, none⟩ = false := F2r.out.frozen 3
  have pr4 : (w2).cell? ⟨w.heap.size + 1, 4, none⟩ = some (.slice none 0 0) := F2r.out.cell 4
  have fr4 : (w2).frozen? ⟨w.heap.size + 1, 4, none⟩ = false := F2r.out.frozen 4
  have pr5 : (w2).cell? ⟨w.heap.size + 1, 5, none⟩ = some (.int .i64 0) := F2r.out.cell 5
  have fr5 : (w2).frozen? ⟨w.heap.size + 1, 5, none⟩ = false := F2r.out.frozen 5
  have pr6 : (w2).cell? ⟨w.heap.size + 1, 6, none⟩ = some (.bool false) := F2r.out.cell 6
  have fr6 : (w2).frozen? ⟨w.heap.size + 1, 6, none⟩ = false := F2r.out.frozen 6
  go_wp2_with fail
  rw [store7_put F2r.out]
  have FR9 := Lib.hid (F2r.out.put #[.bool false, .slice none 0 0, .int .i64 0, .bool false, .slice none 0 0, .int .i64 0, .bool true])
  have HL9 := Lib.hid (HL2.out.trans (putB_below w2 _ 30 #[.bool false, .slice none 0 0, .int .i64 0, .bool false, .slice none 0 0, .int .i64 0, .bool true] (by omega : w.heap.size ≤ w.heap.size + 1)))
  have G9 := putB_grown w2 (w.heap.size + 1) 30 #[.bool false, .slice none 0 0, .int .i64 0, .bool false, .slice none 0 0, .int .i64 0, .bool true]
  clear G9 pr0 fr0 pr1 fr1 pr2 fr2 pr3 fr3 pr4 fr4 pr5 fr5 pr6 fr6
  obtain ⟨w9, hw⟩ : ∃ z9 : World, z9 = putB w2 (w.heap.size + 1) 30 #[.bool false, .slice none 0 0, .int .i64 0, .bool false, .slice none 0 0, .int .i64 0, .bool true] := ⟨_, rfl⟩
  rw [← hw] at FR9 HL9  ⊢
  clear hw
  have pr0 : (w9).cell? ⟨w.heap.size + 1, 0, none⟩ = some (.bool false) := FR9.out.cell 0
  have fr0 : (w9).frozen? ⟨w.heap.size + 1, 0, none⟩ = false := FR9.out.frozen 0
  have pr1 : (w9).cell? ⟨w.heap.size + 1, 1, none⟩ = some (.slice none 0 0) := FR9.out.cell 1
  have fr1 : (w9).frozen? ⟨w.heap.size + 1, 1, none⟩ = false := FR9.out.frozen 1
  have pr2 : (w9).cell? ⟨w.heap.size + 1, 2, none⟩ = some (.int .i64 0) := FR9.out.cell 2
  have fr2 : (w9).frozen? ⟨w.heap.size + 1, 2, none⟩ = false := FR9.out.frozen 2
  have pr3 : (w9).cell? ⟨w.heap.size + 1, 3, none⟩ = some (.bool false) := FR9.out.cell 3
  have fr3 : (w9).frozen? ⟨w.heap.size + 1, 3, none⟩ = false := FR9.out.frozen 3
  have pr4 : (w9).cell? ⟨w.heap.size + 1, 4, none⟩ = some (.slice none 0 0) := FR9.out.cell 4
  have fr4 : (w9).frozen? ⟨w.heap.size + 1, 4, none⟩ = false := FR9.out.frozen 4
  have pr5 : (w9).cell? ⟨w.heap.size + 1, 5, none⟩ = some (.int .i64 0) := FR9.out.cell 5
  have fr5 : (w9).frozen? ⟨w.heap.size + 1, 5, none⟩ = false := FR9.out.frozen 5
  have pr6 : (w9).cell? ⟨w.heap.size + 1, 6, none⟩ = some (.bool true) := FR9.out.cell 6
  have fr6 : (w9).frozen? ⟨w.heap.size + 1, 6, none⟩ = false := FR9.out.frozen 6
  refine bodyPost_ret (v := .agg #[.bool false, .slice none 0 0, .int .i64 0, .bool false, .slice none 0 0, .int .i64 0, .bool true]) (by simp [results, Tryz.results16, go_sem, pr0, pr1, pr2, pr3, pr4, pr5, pr6]) rfl ?_
  exact ivr_all HR.out rfl HL9.out

set_option maxHeartbeats 1000000 in
theorem encloseR_zero (n d p : Int) (w : World) (h1 : -9223372036854775808 ≤ n) (h2 : n ≤ 9223372036854775807) (h3 : -9223372036854775808 ≤ d) (h4 : d ≤ 9223372036854775807) (hv : vB n d = true) (hp : 8 ≤ p) (hp2 : p ≤ 512) (hn : n = 0) :
    Calls Tryz.prog 16 #[.agg #[.int .i64 n, .int .i64 d], .int .i64 p] w (IvR (encR n d p) w) := by
  have HV := Lib.hid hv
  obtain ⟨q, rfl⟩ : ∃ q : Nat, p = q := ⟨p.toNat, by omega⟩
  have HR := Lib.hid (show encR n d q = (⟨false, 0, 0⟩, ⟨false, 0, 0⟩, false) by rw [encR_eq (vB_iff.1 hv) (by omega) (by omega)]; unfold encE; rw [if_pos hn, if_pos hn])
  have d1 : decide ((q : Int) < 8) = false := decide_eq_false (by omega)
  have d2 : decide (512 < (q : Int)) = false := decide_eq_false (by omega)
  have d3 : (n == 0) = true := by rw [hn]; rfl
  clear hv hn
  go_enter Tryz.func16, Tryz.ntmps16
  go_wp2_with fail
  obtain ⟨w1, hw⟩ : ∃ z9 : World, z9 = ((w.alloc (.cells #[.int .i64 n, .int .i64 d] 23)).alloc (.cells #[.bool false, .slice none 0 0, .int .i64 0, .bool false, .slice none 0 0, .int .i64 0, .bool false] 30)) := ⟨_, rfl⟩
  have HB1 := Lib.hid (show Below w.heap.size w w1 by rw [hw]; exact below_a2 _ _ _)
  have F1k := Lib.hid (show Blk w1 (w.heap.size) 23 #[.int .i64 n, .int .i64 d] by rw [hw]; exact (Blk.new _ _ _).alloc _)
  have F1r := Lib.hid (show Blk w1 (w.heap.size + 1) 30 #[.bool false, .slice none 0 0, .int .i64 0, .bool false, .slice none 0 0, .int .i64 0, .bool false] by rw [hw]; exact Blk.new1 _ _ _ _)
  rw [← hw]
  clear hw
  have pk0 : (w1).cell? ⟨w.heap.size, 0, none⟩ = some (.int .i64 n) := F1k.out.cell 0
  have fk0 : (w1).frozen? ⟨w.heap.size, 0, none⟩ = false := F1k.out.frozen 0
  have pk1 : (w1).cell? ⟨w.heap.size, 1, none⟩ = some (.int .i64 d) := F1k.out.cell 1
  have fk1 : (w1).frozen? ⟨w.heap.size, 1, none⟩ = false := F1k.out.frozen 1
  refine (valid_r n d w1 h1 h2 h3 h4).mono ?_
  rw [HV.out]
  rintro e w2 ⟨rfl, HB2⟩
  have F2k := Lib.hid (F1k.out.belowW HB2.out)
  have F2r := Lib.hid (F1r.out.belowW HB2.out)
  have HL2 := Lib.hid (HB1.out.trans (HB2.out.mono HB1.out.size))
  clear pk0 pk1 fk0 fk1
  have pk0 : (w2).cell? ⟨w.heap.size, 0, none⟩ = some (.int .i64 n) := F2k.out.cell 0
  have fk0 : (w2).frozen? ⟨w.heap.size, 0, none⟩ = false := F2k.out.frozen 0
  have pk1 : (w2).cell? ⟨w.heap.size, 1, none⟩ = some (.int .i64 d) := F2k.out.cell 1
  have fk1 : (w2).frozen? ⟨w.heap.size, 1, none⟩ = false := F2k.out.frozen 1
  clear pk0 fk0 pk1 fk1
  have pr0 : (w2).cell? ⟨w.heap.size + 1, 0, none⟩ = some (.bool false) := F2r.out.cell 0
  have fr0 : (w2).frozen? ⟨w.heap.size + 1, 0, none⟩ = false := F2r.out.frozen 0
  have pr1 : (w2).cell? ⟨w.heap.size + 1, 1, none⟩ = some (.slice none 0 0) := F2r.out.cell 1
  have fr1 : (w2).frozen? ⟨w.heap.size + 1, 1, none⟩ = false := F2r.out.frozen 1
  have pr2 : (w2).cell? ⟨w.heap.size + 1, 2, none⟩ = some (.int .i64 0) := F2r.out.cell 2
  have fr2 : (w2).frozen? ⟨w.heap.size + 1, 2, none⟩ = false := F2r.out.frozen 2
  have pr3 : (w2).cell? ⟨w.heap.size + 1, 3, none⟩ = some (.bool false) := F2r.out.cell 3
  have fr3 : (w2).frozen? ⟨w.heap.size + 1, 3, none⟩ = false := F2r.out.frozen 3
  have pr4 : (w2).cell? ⟨w.heap.size + 1, 4, none⟩ = some (.slice none 0 0) := F2r.out.cell 4
  have fr4 : (w2).frozen? ⟨w.heap.size + 1, 4, none⟩ = false := F2r.out.frozen 4
  have pr5 : (w2).cell? ⟨w.heap.size + 1, 5, none⟩ = some (.int .i64 0) := F2r.out.cell 5
  have fr5 : (w2).frozen? ⟨w.heap.size + 1, 5, none⟩ = false := F2r.out.frozen 5
  have pr6 : (w2).cell? ⟨w.heap.size + 1, 6, none⟩ = some (.bool false) := F2r.out.cell 6
  have fr6 : (w2).frozen? ⟨w.heap.size + 1, 6, none⟩ = false := F2r.out.frozen 6
  have pk0 : (w2).cell? ⟨w.heap.size, 0, none⟩ = some (.int .i64 n) := F2k.out.cell 0
  have fk0 : (w2).frozen? ⟨w.heap.size, 0, none⟩ = false := F2k.out.frozen 0
  have pk1 : (w2).cell? ⟨w.heap.size, 1, none⟩ = some (.int .i64 d) := F2k.out.cell 1
  have fk1 : (w2).frozen? ⟨w.heap.size, 1, none⟩ = false := F2k.out.frozen 1
  go_wp2_with fail
  rw [store7_put F2r.out]
  have FR9 := Lib.hid (F2r.out.put #[.bool false, .slice none 0 0, .int .i64 0, .bool false, .slice none 0 0, .int .i64 0, .bool false])
  have HL9 := Lib.hid (HL2.out.trans (putB_below w2 _ 30 #[.bool false, .slice none 0 0, .int .i64 0, .bool false, .slice none 0 0, .int .i64 0, .bool false] (by omega : w.heap.size ≤ w.heap.size + 1)))
  have G9 := putB_grown w2 (w.heap.size + 1) 30 #[.bool false, .slice none 0 0, .int .i64 0, .bool false, .slice none 0 0, .int .i64 0, .bool false]
  clear G9 pr0 fr0 pr1 fr1 pr2 fr2 pr3 fr3 pr4 fr4 pr5 fr5 pr6 fr6 pk0 fk0 pk1 fk1
  obtain ⟨w9, hw⟩ : ∃ z9 : World, z9 = putB w2 (w.heap.size + 1) 30 #[.bool false, .slice none 0 0, .int .i64 0, .bool false, .slice none 0 0, .int .i64 0, .bool false] := ⟨_, rfl⟩
  rw [← hw] at FR9 HL9  ⊢
  clear hw
  have pr0 : (w9).cell? ⟨w.heap.size + 1, 0, none⟩ = some (.bool false) := FR9.out.cell 0
  have fr0 : (w9).frozen? ⟨w.heap.size + 1, 0, none⟩ = false := FR9.out.frozen 0
  have pr1 : (w9).cell? ⟨w.heap.size + 1, 1, none⟩ = some (.slice none 0 0) := FR9.out.cell 1
  have fr1 : (w9).frozen? ⟨w.heap.size + 1, 1, none⟩ = false := FR9.out.frozen 1
  have pr2 : (w9).cell? ⟨w.heap.size + 1, 2, none⟩ = some (.int .i64 0) := FR9.out.cell 2
  have fr2 : (w9).frozen? ⟨w.heap.size + 1, 2, none⟩ = false := FR9.out.frozen 2
  have pr3 : (w9).cell? ⟨w.heap.size + 1, 3, none⟩ = some (.bool false) := FR9.out.cell 3
  have fr3 : (w9).frozen? ⟨w.heap.size + 1, 3, none⟩ = false := FR9.out.frozen 3
  have pr4 : (w9).cell? ⟨w.heap.size + 1, 4, none⟩ = some (.slice none 0 0) := FR9.out.cell 4
  have fr4 : (w9).frozen? ⟨w.heap.size + 1, 4, none⟩ = false := FR9.out.frozen 4
  have pr5 : (w9).cell? ⟨w.heap.size + 1, 5, none⟩ = some (.int .i64 0) := FR9.out.cell 5
  have fr5 : (w9).frozen? ⟨w.heap.size + 1, 5, none⟩ = false := FR9.out.frozen 5
  have pr6 : (w9).cell? ⟨w.heap.size + 1, 6, none⟩ = some (.bool false) := FR9.out.cell 6
  have fr6 : (w9).frozen? ⟨w.heap.size + 1, 6, none⟩ = false := FR9.out.frozen 6
  refine bodyPost_ret (v := .agg #[.bool false, .slice none 0 0, .int .i64 0, .bool false, .slice none 0 0, .int .i64 0, .bool false]) (by simp [results, Tryz.results16, go_sem, pr0, pr1, pr2, pr3, pr4, pr5, pr6]) rfl ?_
  rw [HR.out]
  exact ⟨none, none, 0, 0, 0, 0, rfl, Lib.hid (by rw [limbs_zero]; exact Sl.none_ _), Lib.hid (by rw [limbs_zero]; exact Sl.none_ _), HL9⟩
/-- Behind Ends: two blocks with the ends. -/
def EndsCut (W : World) (lo hi : D) (s s' : Value) (wx : World) : Prop :=
  ∃ (g g' : Nat) (A : Option Addr) (n c : Nat) (B : Option Addr) (m d : Nat), s = .pointer (some ⟨g, 0, none⟩) ∧ s' = .pointer (some ⟨g', 0, none⟩) ∧ Hid (Blk wx g 28 #[.bool lo.neg, .slice A n c, .int .i64 lo.e]) ∧ Hid (Blk wx g' 28 #[.bool hi.neg, .slice B m d, .int .i64 hi.e]) ∧
    Hid (Sl wx A n c (limbs lo.k)) ∧ Hid (Sl wx B m d (limbs hi.k)) ∧ Hid (W.heap.size ≤ g) ∧ Hid (W.heap.size ≤ g') ∧ Hid (Below W.heap.size W wx)

set_option maxHeartbeats 8000000 in
theorem encloseR_pos (n d p : Int) (w : World) (h1 : -9223372036854775808 ≤ n) (h2 : n ≤ 9223372036854775807) (h3 : -9223372036854775808 ≤ d) (h4 : d ≤ 9223372036854775807) (hv : vB n d = true) (hp : 8 ≤ p) (hp2 : p ≤ 512) (hn : 0 < n) :
    Calls Tryz.prog 16 #[.agg #[.int .i64 n, .int .i64 d], .int .i64 p] w (IvR (encR n d p) w) := by
  have HV := Lib.hid hv
  obtain ⟨v1, v2, v3, v4, _⟩ := vB_iff.1 hv
  unfold MX at v2 v3 v4
  obtain ⟨q, rfl⟩ : ∃ q : Nat, p = q := ⟨p.toNat, by omega⟩
  obtain ⟨k, rfl⟩ : ∃ k : Nat, d = k := ⟨d.toNat, by omega⟩
  obtain ⟨N, hN⟩ : ∃ N, n.natAbs = N := ⟨_, rfl⟩
  have HN := Lib.hid hN
  have n1 : 1 ≤ N := by omega
  have n2 : N ≤ 1073741824 := by omega
  have k1 : 1 ≤ k := by omega
  have k2 : k ≤ 1073741824 := by omega
  have q1 : 8 ≤ q := by omega
  have q2 : q ≤ 512 := by omega
  have HU := Lib.hid (enc_bound (show N ≠ 0 by omega) (show k ≠ 0 by omega) n2 k2 (show 0 < q by omega) (enc_spec (by omega) (by omega) (by omega)))
  have HE := Lib.hid (show ∀ up, endQ (encT N k q) (encX N k q) up ≠ 0 from fun up => Enc.endPos (enc_spec (by omega) (by omega) (by omega)) up)
  obtain ⟨lo, hlo⟩ : ∃ lo, canon false (encT N k q) (encU N k q) = lo := ⟨_, rfl⟩
  obtain ⟨hi, hhi⟩ : ∃ hi, canon false (endQ (encT N k q) (encX N k q) true) (encU N k q) = hi := ⟨_, rfl⟩
  have HLO := Lib.hid hlo
  have HHI := Lib.hid hhi
  have HR := Lib.hid (show encR n k q = (lo, hi, false) by
    rw [encR_eq (vB_iff.1 hv) (by omega) (by omega)]
    unfold encE
    rw [if_neg (by omega), if_neg (by omega), decide_eq_false (by omega : ¬ n < 0), hN, Int.natAbs_natCast]
    exact Prod.ext hlo (Prod.ext hhi rfl))
  have dn : decide (n < 0) = false := decide_eq_false (by omega)
  have d1 : decide ((q : Int) < 8) = false := decide_eq_false (by omega)
  have d2 : decide (512 < (q : Int)) = false := decide_eq_false (by omega)
  have d3 : (n == 0) = false := by rw [beq_eq_false_iff_ne]; omega
  have dw : IntKind.u64.wrap (k : Int) = k := by rw [IntKind.wrap_u64]; omega
  clear hv hN hlo hhi HU HE
  go_enter Tryz.func16, Tryz.ntmps16
  go_wp2_with fail
  obtain ⟨w1, hw⟩ : ∃ z9 : World, z9 = ((w.alloc (.cells #[.int .i64 n, .int .i64 k] 23)).alloc (.cells #[.bool false, .slice none 0 0, .int .i64 0, .bool false, .slice none 0 0, .int .i64 0, .bool false] 30)) := ⟨_, rfl⟩
  have HB1 := Lib.hid (show Below w.heap.size w w1 by rw [hw]; exact below_a2 _ _ _)
  have F1k := Lib.hid (show Blk w1 (w.heap.size) 23 #[.int .i64 n, .int .i64 k] by rw [hw]; exact (Blk.new _ _ _).alloc _)
  have F1r := Lib.hid (show Blk w1 (w.heap.size + 1) 30 #[.bool false, .slice none 0 0, .int .i64 0, .bool false, .slice none 0 0, .int .i64 0, .bool false] by rw [hw]; exact Blk.new1 _ _ _ _)
  rw [← hw]
  clear hw
  have pk0 : (w1).cell? ⟨w.heap.size, 0, none⟩ = some (.int .i64 n) := F1k.out.cell 0
  have fk0 : (w1).frozen? ⟨w.heap.size, 0, none⟩ = false := F1k.out.frozen 0
  have pk1 : (w1).cell? ⟨w.heap.size, 1, none⟩ = some (.int .i64 k) := F1k.out.cell 1
  have fk1 : (w1).frozen? ⟨w.heap.size, 1, none⟩ = false := F1k.out.frozen 1
  refine (valid_r n k w1 h1 h2 h3 h4).mono ?_
  rw [HV.out]
  rintro e w2 ⟨rfl, HB2⟩
  have F2k := Lib.hid (F1k.out.belowW HB2.out)
  have F2r := Lib.hid (F1r.out.belowW HB2.out)
  have HL2 := Lib.hid (HB1.out.trans (HB2.out.mono HB1.out.size))
  clear pk0 pk1 fk0 fk1
  have pk0 : (w2).cell? ⟨w.heap.size, 0, none⟩ = some (.int .i64 n) := F2k.out.cell 0
  have fk0 : (w2).frozen? ⟨w.heap.size, 0, none⟩ = false := F2k.out.frozen 0
  have pk1 : (w2).cell? ⟨w.heap.size, 1, none⟩ = some (.int .i64 k) := F2k.out.cell 1
  have fk1 : (w2).frozen? ⟨w.heap.size, 1, none⟩ = false := F2k.out.frozen 1
  go_wp2_with fail
  go_cut [5, 6] (EndsCut w2 lo hi)
  case first =>
    have HR3 := Lib.hid (below_dr w2)
    have R3k := Lib.hid (F2k.out.belowW HR3.out)
    refine wp_region_held_drew (S := fun w' => w'.cell? ⟨w.heap.size, 0, none⟩ = some (.int .i64 n) ∧ w'.cell? ⟨w.heap.size, 1, none⟩ = some (.int .i64 k)) (by kernel_rfl) ?_ (fun hHeld => ?_)
    case refine_1 => exact ⟨R3k.out.cell 0, R3k.out.cell 1⟩
    refine wpAnyH_take (i := 0) (oi := _) (v := ?_) rfl (by kernel_rfl) (by kernel_rfl) (by kernel_rfl) (fun _ _ _ h => h) (Or.inl ⟨by rfl, ?_⟩) (by assumption) ?_
    case refine_2 =>
      intro w9 hSw
      (try dsimp only at hSw)
      go_simp
      (try with_reducible rfl)
    simp only [Act.put, List.setIfInBounds_toArray, List.set_cons_zero, List.set_cons_succ, List.getElem_toArray, List.getElem_cons_zero]
    refine wpAnyH_take (i := 1) (oi := _) (v := ?_) rfl (by kernel_rfl) (by kernel_rfl) (by kernel_rfl) (fun _ _ _ h => h) (Or.inl ⟨by rfl, ?_⟩) (by assumption) ?_
    case refine_2 =>
      intro w9 hSw
      (try dsimp only at hSw)
      go_simp
      (try with_reducible rfl)
    simp only [Act.put, List.setIfInBounds_toArray, List.set_cons_zero, List.set_cons_succ, List.getElem_toArray, List.getElem_cons_zero, List.getElem_cons_succ]
    refine wpAnyH_take (i := 3) (oi := _) (v := ?_) rfl (by kernel_rfl) (by kernel_rfl) (by kernel_rfl) (fun _ _ _ h => h) (Or.inl ⟨by rfl, ?_⟩) (by assumption) ?_
    case refine_2 =>
      intro w9 hSw
      (try dsimp only at hSw)
      go_simp
      (try with_reducible rfl)
    simp only [Act.put, List.setIfInBounds_toArray, List.set_cons_zero, List.set_cons_succ, List.getElem_toArray, List.getElem_cons_zero, List.getElem_cons_succ]
    refine wpAnyH_take (i := 4) (oi := _) (v := ?_) rfl (by kernel_rfl) (by kernel_rfl) (by kernel_rfl) (fun _ _ _ h => h) (Or.inl ⟨by rfl, ?_⟩) (by assumption) ?_
    case refine_2 =>
      intro w9 hSw
      (try dsimp only at hSw)
      go_simp
      (try with_reducible rfl)
    simp only [Act.put, List.setIfInBounds_toArray, List.set_cons_zero, List.set_cons_succ, List.getElem_toArray, List.getElem_cons_zero, List.getElem_cons_succ]
    refine wpAnyH_take (i := 5) (oi := _) (v := ?_) rfl (by kernel_rfl) (by kernel_rfl) (by kernel_rfl) (fun _ _ _ h => h) (Or.inl ⟨by rfl, ?_⟩) (by assumption) ?_
    case refine_2 =>
      intro w9 hSw
      (try dsimp only at hSw)
      go_simp
      (try with_reducible rfl)
    simp only [Act.put, List.setIfInBounds_toArray, List.set_cons_zero, List.set_cons_succ, List.getElem_toArray, List.getElem_cons_zero, List.getElem_cons_succ]
    refine wpAnyH_take (i := 6) (oi := _) (v := ?_) rfl (by kernel_rfl) (by kernel_rfl) (by kernel_rfl) (fun _ _ _ h => h) (Or.inl ⟨by rfl, ?_⟩) (by assumption) ?_
    case refine_2 =>
      intro w9 hSw
      (try dsimp only at hSw)
      go_simp
      (try with_reducible rfl)
    simp only [Act.put, List.setIfInBounds_toArray, List.set_cons_zero, List.set_cons_succ, List.getElem_toArray, List.getElem_cons_zero, List.getElem_cons_succ]
    refine memo_start ?_
    intro G A0 HG HA0
    clear hHeld
    have st_2_01 : ∀ (wr : World) (A : Option Addr) (m : Nat) (c : Nat) (B : Option Addr) (m' : Nat) (c' : Nat) (g0 : Nat) (g1 : Nat), Hid (Below w2.heap.size w2 wr) → Hid (Sl wr A m c (limbs lo.k)) → Hid (Sl wr B m' c' (limbs hi.k)) → Hid (Blk wr g0 28 #[.bool false, .slice none 0 0, .int .i64 0]) → Hid (w2.heap.size ≤ g0) → Hid (Blk wr g1 28 #[.bool false, .slice none 0 0, .int .i64 0]) → Hid (w2.heap.size ≤ g1) → g0 ≠ g1 → G 2 #[true, true, true, true, true, true, true, true, true, true, true, true, true, false, false] (((((((A0.put (some 26) (.int .u64 (N : Int))).put (some 31) (.tuple #[.agg #[.bool lo.neg, .slice A m c, .int .i64 lo.e], .agg #[.bool hi.neg, .slice B m' c', .int .i64 hi.e]])).put (some 23) (.tuple #[.agg #[.bool lo.neg, .slice A m c, .int .i64 lo.e], .agg #[.bool hi.neg, .slice B m' c', .int .i64 hi.e]])).put (some 32) (.agg #[.bool lo.neg, .slice A m c, .int .i64 lo.e])).put (some 33) (.agg #[.bool hi.neg, .slice B m' c', .int .i64 hi.e])).put (some 5) (.pointer (some ⟨g0, 0, none⟩))).put (some 6) (.pointer (some ⟨g1, 0, none⟩))) wr := by
      intro wr A m c B m' c' g0 g1 HW Fclo Fchi B0 L0 B1 L1 n01
      rw [HG.out, HA0.out]
      clear HG HA0
      simp only [Act.put, List.setIfInBounds_toArray, List.set_cons_zero, List.set_cons_succ]
      have Dk := Lib.hid (F2k.out.belowW HW.out)
      have z0 : wr.cell? ⟨g0, 0, none⟩ = some (.bool false) := B0.out.cell 0
      have y0 : wr.frozen? ⟨g0, 0, none⟩ = false := B0.out.frozen 0
      have z1 : wr.cell? ⟨g0, 1, none⟩ = some (.slice none 0 0) := B0.out.cell 1
      have y1 : wr.frozen? ⟨g0, 1, none⟩ = false := B0.out.frozen 1
      have z2 : wr.cell? ⟨g0, 2, none⟩ = some (.int .i64 0) := B0.out.cell 2
      have y2 : wr.frozen? ⟨g0, 2, none⟩ = false := B0.out.frozen 2
      refine wpAnyH_ready (rs := [13]) (by kernel_rfl) (by simp) ?_
      refine AllReadyH.cons rfl (fun K hK => ?_) AllReadyH.nil
      go_simp
      rw [store3_put B0.out]
      have GR := putB_grown wr g0 28 #[.bool lo.neg, .slice A m c, .int .i64 lo.e]
      obtain ⟨v0, hw⟩ : ∃ z9 : World, z9 = putB wr g0 28 #[.bool lo.neg, .slice A m c, .int .i64 lo.e] := ⟨_, rfl⟩
      have HV0 := Lib.hid (show Below w2.heap.size w2 v0 by rw [hw]; exact HW.out.trans (putB_below _ _ _ _ L0.out))
      have BB0 := Lib.hid (show Blk v0 g0 28 #[.bool lo.neg, .slice A m c, .int .i64 lo.e] by rw [hw]; exact B0.out.put _)
      have B1_0 := Lib.hid (show Blk v0 g1 28 #[.bool false, .slice none 0 0, .int .i64 0] by rw [hw]; exact B1.out.far (Ne.symm n01) _)
      have F0lo := Lib.hid (show Sl v0 A m c (limbs lo.k) by rw [hw]; exact Fclo.out.far B0.out noU3 GR)
      have F0hi := Lib.hid (show Sl v0 B m' c' (limbs hi.k) by rw [hw]; exact Fchi.out.far B0.out noU3 GR)
      rw [← hw]
      clear hw GR z0 y0 z1 y1 z2 y2
      have D0k := Lib.hid (F2k.out.belowW HV0.out)
      refine hK.out _ _ ?_ (fun hHeld => ?_)
      case refine_1 => exact ⟨D0k.out.cell 0, D0k.out.cell 1⟩
      clear hK K
      simp only [List.setIfInBounds_toArray, List.set_cons_zero, List.set_cons_succ]
      have z0 : v0.cell? ⟨g1, 0, none⟩ = some (.bool false) := B1_0.out.cell 0
      have y0 : v0.frozen? ⟨g1, 0, none⟩ = false := B1_0.out.frozen 0
      have z1 : v0.cell? ⟨g1, 1, none⟩ = some (.slice none 0 0) := B1_0.out.cell 1
      have y1 : v0.frozen? ⟨g1, 1, none⟩ = false := B1_0.out.frozen 1
      have z2 : v0.cell? ⟨g1, 2, none⟩ = some (.int .i64 0) := B1_0.out.cell 2
      have y2 : v0.frozen? ⟨g1, 2, none⟩ = false := B1_0.out.frozen 2
      refine wpAnyH_ready (rs := [14]) (by kernel_rfl) (by simp) ?_
      refine AllReadyH.cons rfl (fun K hK => ?_) AllReadyH.nil
      go_simp
      rw [store3_put B1_0.out]
      have GR := putB_grown v0 g1 28 #[.bool hi.neg, .slice B m' c', .int .i64 hi.e]
      obtain ⟨v1, hw⟩ : ∃ z9 : World, z9 = putB v0 g1 28 #[.bool hi.neg, .slice B m' c', .int .i64 hi.e] := ⟨_, rfl⟩
      have HV1 := Lib.hid (show Below w2.heap.size w2 v1 by rw [hw]; exact HV0.out.trans (putB_below _ _ _ _ L1.out))
      have BB1 := Lib.hid (show Blk v1 g1 28 #[.bool hi.neg, .slice B m' c', .int .i64 hi.e] by rw [hw]; exact B1_0.out.put _)
      have B0_1 := Lib.hid (show Blk v1 g0 28 #[.bool lo.neg, .slice A m c, .int .i64 lo.e] by rw [hw]; exact BB0.out.far n01 _)
      have F1lo := Lib.hid (show Sl v1 A m c (limbs lo.k) by rw [hw]; exact F0lo.out.far B1_0.out noU3 GR)
      have F1hi := Lib.hid (show Sl v1 B m' c' (limbs hi.k) by rw [hw]; exact F0hi.out.far B1_0.out noU3 GR)
      rw [← hw]
      clear hw GR z0 y0 z1 y1 z2 y2
      have D1k := Lib.hid (F2k.out.belowW HV1.out)
      refine hK.out _ _ ?_ (fun hHeld => ?_)
      case refine_1 => exact ⟨D1k.out.cell 0, D1k.out.cell 1⟩
      clear hK K
      simp only [List.setIfInBounds_toArray, List.set_cons_zero, List.set_cons_succ]
      refine wpAnyH_done (by kernel_rfl) ?_ _
      go_wp2_with fail
      go_meet
      exact ⟨g0, g1, A, m, c, B, m', c', rfl, rfl, B0_1, BB1, F1lo, F1hi, L0, L1, HV1⟩
    have st_2_0 : ∀ (wr : World) (A : Option Addr) (m : Nat) (c : Nat) (B : Option Addr) (m' : Nat) (c' : Nat) (g0 : Nat), Hid (Below w2.heap.size w2 wr) → Hid (Sl wr A m c (limbs lo.k)) → Hid (Sl wr B m' c' (limbs hi.k)) → Hid (Blk wr g0 28 #[.bool false, .slice none 0 0, .int .i64 0]) → Hid (w2.heap.size ≤ g0) → G 3 #[true, true, true, true, true, true, true, true, true, true, true, true, false, false, false] ((((((A0.put (some 26) (.int .u64 (N : Int))).put (some 31) (.tuple #[.agg #[.bool lo.neg, .slice A m c, .int .i64 lo.e], .agg #[.bool hi.neg, .slice B m' c', .int .i64 hi.e]])).put (some 23) (.tuple #[.agg #[.bool lo.neg, .slice A m c, .int .i64 lo.e], .agg #[.bool hi.neg, .slice B m' c', .int .i64 hi.e]])).put (some 32) (.agg #[.bool lo.neg, .slice A m c, .int .i64 lo.e])).put (some 33) (.agg #[.bool hi.neg, .slice B m' c', .int .i64 hi.e])).put (some 5) (.pointer (some ⟨g0, 0, none⟩))) wr := by
      intro wr A m c B m' c' g0 HW Fclo Fchi B0 L0
      rw [HG.out, HA0.out]
      simp only [Act.put, List.setIfInBounds_toArray, List.set_cons_zero, List.set_cons_succ]
      have Dk := Lib.hid (F2k.out.belowW HW.out)
      refine wpAnyH_ready (rs := [12]) (by kernel_rfl) (by simp) ?_
      refine AllReadyH.cons rfl (fun K hK => ?_) ?_
      case refine_1 =>
        go_simp
        have HX := Lib.hid (below_a1 wr (.cells #[.bool false, .slice none 0 0, .int .i64 0] 28))
        have HWn := Lib.hid (HW.out.trans (HX.out.mono HW.out.size))
        refine hK.out _ _ ?_ (fun hHeld => ?_)
        case refine_1 =>
          have D2k := Lib.hid (F2k.out.belowW HWn.out)
          exact ⟨D2k.out.cell 0, D2k.out.cell 1⟩
        clear hK K
        simp only [List.setIfInBounds_toArray, List.set_cons_zero, List.set_cons_succ]
        have h9 := st_2_01 ((wr.alloc (.cells #[.bool false, .slice none 0 0, .int .i64 0] 28))) A m c B m' c' g0 wr.heap.size HWn (Lib.hid (Fclo.out.belowW HX.out)) (Lib.hid (Fchi.out.belowW HX.out)) (Lib.hid (B0.out.belowW HX.out)) L0 (Lib.hid (Blk.new _ _ _)) (Lib.hid HW.out.size) (Nat.ne_of_lt B0.out.lt)
        rw [HG.out, HA0.out] at h9
        simp only [Act.put, List.setIfInBounds_toArray, List.set_cons_zero, List.set_cons_succ] at h9
        exact h9
      exact AllReadyH.nil
    have st_2_1 : ∀ (wr : World) (A : Option Addr) (m : Nat) (c : Nat) (B : Option Addr) (m' : Nat) (c' : Nat) (g1 : Nat), Hid (Below w2.heap.size w2 wr) → Hid (Sl wr A m c (limbs lo.k)) → Hid (Sl wr B m' c' (limbs hi.k)) → Hid (Blk wr g1 28 #[.bool false, .slice none 0 0, .int .i64 0]) → Hid (w2.heap.size ≤ g1) → G 3 #[true, true, true, true, true, true, true, true, true, true, true, false, true, false, false] ((((((A0.put (some 26) (.int .u64 (N : Int))).put (some 31) (.tuple #[.agg #[.bool lo.neg, .slice A m c, .int .i64 lo.e], .agg #[.bool hi.neg, .slice B m' c', .int .i64 hi.e]])).put (some 23) (.tuple #[.agg #[.bool lo.neg, .slice A m c, .int .i64 lo.e], .agg #[.bool hi.neg, .slice B m' c', .int .i64 hi.e]])).put (some 32) (.agg #[.bool lo.neg, .slice A m c, .int .i64 lo.e])).put (some 33) (.agg #[.bool hi.neg, .slice B m' c', .int .i64 hi.e])).put (some 6) (.pointer (some ⟨g1, 0, none⟩))) wr := by
      intro wr A m c B m' c' g1 HW Fclo Fchi B1 L1
      rw [HG.out, HA0.out]
      simp only [Act.put, List.setIfInBounds_toArray, List.set_cons_zero, List.set_cons_succ]
      have Dk := Lib.hid (F2k.out.belowW HW.out)
      refine wpAnyH_ready (rs := [11]) (by kernel_rfl) (by simp) ?_
      refine AllReadyH.cons rfl (fun K hK => ?_) ?_
      case refine_1 =>
        go_simp
        have HX := Lib.hid (below_a1 wr (.cells #[.bool false, .slice none 0 0, .int .i64 0] 28))
        have HWn := Lib.hid (HW.out.trans (HX.out.mono HW.out.size))
        refine hK.out _ _ ?_ (fun hHeld => ?_)
        case refine_1 =>
          have D2k := Lib.hid (F2k.out.belowW HWn.out)
          exact ⟨D2k.out.cell 0, D2k.out.cell 1⟩
        clear hK K
        simp only [List.setIfInBounds_toArray, List.set_cons_zero, List.set_cons_succ]
        have h9 := st_2_01 ((wr.alloc (.cells #[.bool false, .slice none 0 0, .int .i64 0] 28))) A m c B m' c' wr.heap.size g1 HWn (Lib.hid (Fclo.out.belowW HX.out)) (Lib.hid (Fchi.out.belowW HX.out)) (Lib.hid (Blk.new _ _ _)) (Lib.hid HW.out.size) (Lib.hid (B1.out.belowW HX.out)) L1 (Nat.ne_of_gt B1.out.lt)
        rw [HG.out, HA0.out] at h9
        simp only [Act.put, List.setIfInBounds_toArray, List.set_cons_zero, List.set_cons_succ] at h9
        exact h9
      exact AllReadyH.nil
    have st_2_n : ∀ (wr : World) (A : Option Addr) (m : Nat) (c : Nat) (B : Option Addr) (m' : Nat) (c' : Nat), Hid (Below w2.heap.size w2 wr) → Hid (Sl wr A m c (limbs lo.k)) → Hid (Sl wr B m' c' (limbs hi.k)) → G 4 #[true, true, true, true, true, true, true, true, true, true, true, false, false, false, false] (((((A0.put (some 26) (.int .u64 (N : Int))).put (some 31) (.tuple #[.agg #[.bool lo.neg, .slice A m c, .int .i64 lo.e], .agg #[.bool hi.neg, .slice B m' c', .int .i64 hi.e]])).put (some 23) (.tuple #[.agg #[.bool lo.neg, .slice A m c, .int .i64 lo.e], .agg #[.bool hi.neg, .slice B m' c', .int .i64 hi.e]])).put (some 32) (.agg #[.bool lo.neg, .slice A m c, .int .i64 lo.e])).put (some 33) (.agg #[.bool hi.neg, .slice B m' c', .int .i64 hi.e])) wr := by
      intro wr A m c B m' c' HW Fclo Fchi
      rw [HG.out, HA0.out]
      simp only [Act.put, List.setIfInBounds_toArray, List.set_cons_zero, List.set_cons_succ]
      have Dk := Lib.hid (F2k.out.belowW HW.out)
      refine wpAnyH_ready (rs := [11, 12]) (by kernel_rfl) (by simp) ?_
      refine AllReadyH.cons rfl (fun K hK => ?_) ?_
      case refine_1 =>
        go_simp
        have HX := Lib.hid (below_a1 wr (.cells #[.bool false, .slice none 0 0, .int .i64 0] 28))
        have HWn := Lib.hid (HW.out.trans (HX.out.mono HW.out.size))
        refine hK.out _ _ ?_ (fun hHeld => ?_)
        case refine_1 =>
          have D2k := Lib.hid (F2k.out.belowW HWn.out)
          exact ⟨D2k.out.cell 0, D2k.out.cell 1⟩
        clear hK K
        simp only [List.setIfInBounds_toArray, List.set_cons_zero, List.set_cons_succ]
        have h9 := st_2_0 ((wr.alloc (.cells #[.bool false, .slice none 0 0, .int .i64 0] 28))) A m c B m' c' wr.heap.size HWn (Lib.hid (Fclo.out.belowW HX.out)) (Lib.hid (Fchi.out.belowW HX.out)) (Lib.hid (Blk.new _ _ _)) (Lib.hid HW.out.size)
        rw [HG.out, HA0.out] at h9
        simp only [Act.put, List.setIfInBounds_toArray, List.set_cons_zero, List.set_cons_succ] at h9
        exact h9
      refine AllReadyH.cons rfl (fun K hK => ?_) ?_
      case refine_1 =>
        go_simp
        have HX := Lib.hid (below_a1 wr (.cells #[.bool false, .slice none 0 0, .int .i64 0] 28))
        have HWn := Lib.hid (HW.out.trans (HX.out.mono HW.out.size))
        refine hK.out _ _ ?_ (fun hHeld => ?_)
        case refine_1 =>
          have D2k := Lib.hid (F2k.out.belowW HWn.out)
          exact ⟨D2k.out.cell 0, D2k.out.cell 1⟩
        clear hK K
        simp only [List.setIfInBounds_toArray, List.set_cons_zero, List.set_cons_succ]
        have h9 := st_2_1 ((wr.alloc (.cells #[.bool false, .slice none 0 0, .int .i64 0] 28))) A m c B m' c' wr.heap.size HWn (Lib.hid (Fclo.out.belowW HX.out)) (Lib.hid (Fchi.out.belowW HX.out)) (Lib.hid (Blk.new _ _ _)) (Lib.hid HW.out.size)
        rw [HG.out, HA0.out] at h9
        simp only [Act.put, List.setIfInBounds_toArray, List.set_cons_zero, List.set_cons_succ] at h9
        exact h9
      exact AllReadyH.nil
    have st_1_01 : ∀ (wr : World) (g0 : Nat) (g1 : Nat), Hid (Below w2.heap.size w2 wr) → Hid (Blk wr g0 28 #[.bool false, .slice none 0 0, .int .i64 0]) → Hid (w2.heap.size ≤ g0) → Hid (Blk wr g1 28 #[.bool false, .slice none 0 0, .int .i64 0]) → Hid (w2.heap.size ≤ g1) → g0 ≠ g1 → G 6 #[true, true, true, true, true, true, true, false, false, false, false, true, true, false, false] (((A0.put (some 26) (.int .u64 (N : Int))).put (some 5) (.pointer (some ⟨g0, 0, none⟩))).put (some 6) (.pointer (some ⟨g1, 0, none⟩))) wr := by
      intro wr g0 g1 HW B0 L0 B1 L1 n01
      rw [HG.out, HA0.out]
      simp only [Act.put, List.setIfInBounds_toArray, List.set_cons_zero, List.set_cons_succ]
      have Dk := Lib.hid (F2k.out.belowW HW.out)
      refine wpAnyH_ready (rs := [7]) (by kernel_rfl) (by simp) ?_
      refine AllReadyH.cons rfl (fun K hK => ?_) ?_
      case refine_1 =>
        go_simp
        (with_reducible refine (ends_r N k q _ n1 n2 k1 k2 q1 q2).mono ?_)
        rw [HLO.out, HHI.out]
        rintro e wn ⟨A, m, c, B, m', c', rfl, HS, HU, HX⟩
        go_wp2_with fail
        have HWn := Lib.hid (HW.out.trans (HX.out.mono HW.out.size))
        refine hK.out _ _ ?_ (fun hHeld => ?_)
        case refine_1 =>
          have D2k := Lib.hid (F2k.out.belowW HWn.out)
          exact ⟨D2k.out.cell 0, D2k.out.cell 1⟩
        clear hK K
        simp only [List.setIfInBounds_toArray, List.set_cons_zero, List.set_cons_succ]
        refine wpAnyH_take (i := 8) (oi := _) (v := ?_) rfl (by kernel_rfl) (by kernel_rfl) (by kernel_rfl) (fun _ _ _ h => h) (Or.inl ⟨by rfl, ?_⟩) (by assumption) ?_
        case refine_2 =>
          intro w9 hSw
          (try dsimp only at hSw)
          go_simp
          (try with_reducible rfl)
        simp only [Act.put, List.setIfInBounds_toArray, List.set_cons_zero, List.set_cons_succ, List.getElem_toArray, List.getElem_cons_zero, List.getElem_cons_succ]
        refine wpAnyH_take (i := 9) (oi := _) (v := ?_) rfl (by kernel_rfl) (by kernel_rfl) (by kernel_rfl) (fun _ _ _ h => h) (Or.inl ⟨by rfl, ?_⟩) (by assumption) ?_
        case refine_2 =>
          intro w9 hSw
          (try dsimp only at hSw)
          go_simp
          (try with_reducible rfl)
        simp only [Act.put, List.setIfInBounds_toArray, List.set_cons_zero, List.set_cons_succ, List.getElem_toArray, List.getElem_cons_zero, List.getElem_cons_succ]
        refine wpAnyH_take (i := 10) (oi := _) (v := ?_) rfl (by kernel_rfl) (by kernel_rfl) (by kernel_rfl) (fun _ _ _ h => h) (Or.inl ⟨by rfl, ?_⟩) (by assumption) ?_
        case refine_2 =>
          intro w9 hSw
          (try dsimp only at hSw)
          go_simp
          (try with_reducible rfl)
        simp only [Act.put, List.setIfInBounds_toArray, List.set_cons_zero, List.set_cons_succ, List.getElem_toArray, List.getElem_cons_zero, List.getElem_cons_succ]
        have h9 := st_2_01 wn A m c B m' c' g0 g1 HWn (Lib.hid (HS.out)) (Lib.hid (HU.out)) (Lib.hid (B0.out.belowW HX.out)) L0 (Lib.hid (B1.out.belowW HX.out)) L1 n01
        rw [HG.out, HA0.out] at h9
        simp only [Act.put, List.setIfInBounds_toArray, List.set_cons_zero, List.set_cons_succ] at h9
        exact h9
      exact AllReadyH.nil
    have st_1_0 : ∀ (wr : World) (g0 : Nat), Hid (Below w2.heap.size w2 wr) → Hid (Blk wr g0 28 #[.bool false, .slice none 0 0, .int .i64 0]) → Hid (w2.heap.size ≤ g0) → G 7 #[true, true, true, true, true, true, true, false, false, false, false, true, false, false, false] ((A0.put (some 26) (.int .u64 (N : Int))).put (some 5) (.pointer (some ⟨g0, 0, none⟩))) wr := by
      intro wr g0 HW B0 L0
      rw [HG.out, HA0.out]
      simp only [Act.put, List.setIfInBounds_toArray, List.set_cons_zero, List.set_cons_succ]
      have Dk := Lib.hid (F2k.out.belowW HW.out)
      refine wpAnyH_ready (rs := [7, 12]) (by kernel_rfl) (by simp) ?_
      refine AllReadyH.cons rfl (fun K hK => ?_) ?_
      case refine_1 =>
        go_simp
        (with_reducible refine (ends_r N k q _ n1 n2 k1 k2 q1 q2).mono ?_)
        rw [HLO.out, HHI.out]
        rintro e wn ⟨A, m, c, B, m', c', rfl, HS, HU, HX⟩
        go_wp2_with fail
        have HWn := Lib.hid (HW.out.trans (HX.out.mono HW.out.size))
        refine hK.out _ _ ?_ (fun hHeld => ?_)
        case refine_1 =>
          have D2k := Lib.hid (F2k.out.belowW HWn.out)
          exact ⟨D2k.out.cell 0, D2k.out.cell 1⟩
        clear hK K
        simp only [List.setIfInBounds_toArray, List.set_cons_zero, List.set_cons_succ]
        refine wpAnyH_take (i := 8) (oi := _) (v := ?_) rfl (by kernel_rfl) (by kernel_rfl) (by kernel_rfl) (fun _ _ _ h => h) (Or.inl ⟨by rfl, ?_⟩) (by assumption) ?_
        case refine_2 =>
          intro w9 hSw
          (try dsimp only at hSw)
          go_simp
          (try with_reducible rfl)
        simp only [Act.put, List.setIfInBounds_toArray, List.set_cons_zero, List.set_cons_succ, List.getElem_toArray, List.getElem_cons_zero, List.getElem_cons_succ]
        refine wpAnyH_take (i := 9) (oi := _) (v := ?_) rfl (by kernel_rfl) (by kernel_rfl) (by kernel_rfl) (fun _ _ _ h => h) (Or.inl ⟨by rfl, ?_⟩) (by assumption) ?_
        case refine_2 =>
          intro w9 hSw
          (try dsimp only at hSw)
          go_simp
          (try with_reducible rfl)
        simp only [Act.put, List.setIfInBounds_toArray, List.set_cons_zero, List.set_cons_succ, List.getElem_toArray, List.getElem_cons_zero, List.getElem_cons_succ]
        refine wpAnyH_take (i := 10) (oi := _) (v := ?_) rfl (by kernel_rfl) (by kernel_rfl) (by kernel_rfl) (fun _ _ _ h => h) (Or.inl ⟨by rfl, ?_⟩) (by assumption) ?_
        case refine_2 =>
          intro w9 hSw
          (try dsimp only at hSw)
          go_simp
          (try with_reducible rfl)
        simp only [Act.put, List.setIfInBounds_toArray, List.set_cons_zero, List.set_cons_succ, List.getElem_toArray, List.getElem_cons_zero, List.getElem_cons_succ]
        have h9 := st_2_0 wn A m c B m' c' g0 HWn (Lib.hid (HS.out)) (Lib.hid (HU.out)) (Lib.hid (B0.out.belowW HX.out)) L0
        rw [HG.out, HA0.out] at h9
        simp only [Act.put, List.setIfInBounds_toArray, List.set_cons_zero, List.set_cons_succ] at h9
        exact h9
      refine AllReadyH.cons rfl (fun K hK => ?_) ?_
      case refine_1 =>
        go_simp
        have HX := Lib.hid (below_a1 wr (.cells #[.bool false, .slice none 0 0, .int .i64 0] 28))
        have HWn := Lib.hid (HW.out.trans (HX.out.mono HW.out.size))
        refine hK.out _ _ ?_ (fun hHeld => ?_)
        case refine_1 =>
          have D2k := Lib.hid (F2k.out.belowW HWn.out)
          exact ⟨D2k.out.cell 0, D2k.out.cell 1⟩
        clear hK K
        simp only [List.setIfInBounds_toArray, List.set_cons_zero, List.set_cons_succ]
        have h9 := st_1_01 ((wr.alloc (.cells #[.bool false, .slice none 0 0, .int .i64 0] 28))) g0 wr.heap.size HWn (Lib.hid (B0.out.belowW HX.out)) L0 (Lib.hid (Blk.new _ _ _)) (Lib.hid HW.out.size) (Nat.ne_of_lt B0.out.lt)
        rw [HG.out, HA0.out] at h9
        simp only [Act.put, List.setIfInBounds_toArray, List.set_cons_zero, List.set_cons_succ] at h9
        exact h9
      exact AllReadyH.nil
    have st_1_1 : ∀ (wr : World) (g1 : Nat), Hid (Below w2.heap.size w2 wr) → Hid (Blk wr g1 28 #[.bool false, .slice none 0 0, .int .i64 0]) → Hid (w2.heap.size ≤ g1) → G 7 #[true, true, true, true, true, true, true, false, false, false, false, false, true, false, false] ((A0.put (some 26) (.int .u64 (N : Int))).put (some 6) (.pointer (some ⟨g1, 0, none⟩))) wr := by
      intro wr g1 HW B1 L1
      rw [HG.out, HA0.out]
      simp only [Act.put, List.setIfInBounds_toArray, List.set_cons_zero, List.set_cons_succ]
      have Dk := Lib.hid (F2k.out.belowW HW.out)
      refine wpAnyH_ready (rs := [7, 11]) (by kernel_rfl) (by simp) ?_
      refine AllReadyH.cons rfl (fun K hK => ?_) ?_
      case refine_1 =>
        go_simp
        (with_reducible refine (ends_r N k q _ n1 n2 k1 k2 q1 q2).mono ?_)
        rw [HLO.out, HHI.out]
        rintro e wn ⟨A, m, c, B, m', c', rfl, HS, HU, HX⟩
        go_wp2_with fail
        have HWn := Lib.hid (HW.out.trans (HX.out.mono HW.out.size))
        refine hK.out _ _ ?_ (fun hHeld => ?_)
        case refine_1 =>
          have D2k := Lib.hid (F2k.out.belowW HWn.out)
          exact ⟨D2k.out.cell 0, D2k.out.cell 1⟩
        clear hK K
        simp only [List.setIfInBounds_toArray, List.set_cons_zero, List.set_cons_succ]
        refine wpAnyH_take (i := 8) (oi := _) (v := ?_) rfl (by kernel_rfl) (by kernel_rfl) (by kernel_rfl) (fun _ _ _ h => h) (Or.inl ⟨by rfl, ?_⟩) (by assumption) ?_
        case refine_2 =>
          intro w9 hSw
          (try dsimp only at hSw)
          go_simp
          (try with_reducible rfl)
        simp only [Act.put, List.setIfInBounds_toArray, List.set_cons_zero, List.set_cons_succ, List.getElem_toArray, List.getElem_cons_zero, List.getElem_cons_succ]
        refine wpAnyH_take (i := 9) (oi := _) (v := ?_) rfl (by kernel_rfl) (by kernel_rfl) (by kernel_rfl) (fun _ _ _ h => h) (Or.inl ⟨by rfl, ?_⟩) (by assumption) ?_
        case refine_2 =>
          intro w9 hSw
          (try dsimp only at hSw)
          go_simp
          (try with_reducible rfl)
        simp only [Act.put, List.setIfInBounds_toArray, List.set_cons_zero, List.set_cons_succ, List.getElem_toArray, List.getElem_cons_zero, List.getElem_cons_succ]
        refine wpAnyH_take (i := 10) (oi := _) (v := ?_) rfl (by kernel_rfl) (by kernel_rfl) (by kernel_rfl) (fun _ _ _ h => h) (Or.inl ⟨by rfl, ?_⟩) (by assumption) ?_
        case refine_2 =>
          intro w9 hSw
          (try dsimp only at hSw)
          go_simp
          (try with_reducible rfl)
        simp only [Act.put, List.setIfInBounds_toArray, List.set_cons_zero, List.set_cons_succ, List.getElem_toArray, List.getElem_cons_zero, List.getElem_cons_succ]
        have h9 := st_2_1 wn A m c B m' c' g1 HWn (Lib.hid (HS.out)) (Lib.hid (HU.out)) (Lib.hid (B1.out.belowW HX.out)) L1
        rw [HG.out, HA0.out] at h9
        simp only [Act.put, List.setIfInBounds_toArray, List.set_cons_zero, List.set_cons_succ] at h9
        exact h9
      refine AllReadyH.cons rfl (fun K hK => ?_) ?_
      case refine_1 =>
        go_simp
        have HX := Lib.hid (below_a1 wr (.cells #[.bool false, .slice none 0 0, .int .i64 0] 28))
        have HWn := Lib.hid (HW.out.trans (HX.out.mono HW.out.size))
        refine hK.out _ _ ?_ (fun hHeld => ?_)
        case refine_1 =>
          have D2k := Lib.hid (F2k.out.belowW HWn.out)
          exact ⟨D2k.out.cell 0, D2k.out.cell 1⟩
        clear hK K
        simp only [List.setIfInBounds_toArray, List.set_cons_zero, List.set_cons_succ]
        have h9 := st_1_01 ((wr.alloc (.cells #[.bool false, .slice none 0 0, .int .i64 0] 28))) wr.heap.size g1 HWn (Lib.hid (Blk.new _ _ _)) (Lib.hid HW.out.size) (Lib.hid (B1.out.belowW HX.out)) L1 (Nat.ne_of_gt B1.out.lt)
        rw [HG.out, HA0.out] at h9
        simp only [Act.put, List.setIfInBounds_toArray, List.set_cons_zero, List.set_cons_succ] at h9
        exact h9
      exact AllReadyH.nil
    have st_1_n : ∀ (wr : World), Hid (Below w2.heap.size w2 wr) → G 8 #[true, true, true, true, true, true, true, false, false, false, false, false, false, false, false] (A0.put (some 26) (.int .u64 (N : Int))) wr := by
      intro wr HW
      rw [HG.out, HA0.out]
      simp only [Act.put, List.setIfInBounds_toArray, List.set_cons_zero, List.set_cons_succ]
      have Dk := Lib.hid (F2k.out.belowW HW.out)
      refine wpAnyH_ready (rs := [7, 11, 12]) (by kernel_rfl) (by simp) ?_
      refine AllReadyH.cons rfl (fun K hK => ?_) ?_
      case refine_1 =>
        go_simp
        (with_reducible refine (ends_r N k q _ n1 n2 k1 k2 q1 q2).mono ?_)
        rw [HLO.out, HHI.out]
        rintro e wn ⟨A, m, c, B, m', c', rfl, HS, HU, HX⟩
        go_wp2_with fail
        have HWn := Lib.hid (HW.out.trans (HX.out.mono HW.out.size))
        refine hK.out _ _ ?_ (fun hHeld => ?_)
        case refine_1 =>
          have D2k := Lib.hid (F2k.out.belowW HWn.out)
          exact ⟨D2k.out.cell 0, D2k.out.cell 1⟩
        clear hK K
        simp only [List.setIfInBounds_toArray, List.set_cons_zero, List.set_cons_succ]
        refine wpAnyH_take (i := 8) (oi := _) (v := ?_) rfl (by kernel_rfl) (by kernel_rfl) (by kernel_rfl) (fun _ _ _ h => h) (Or.inl ⟨by rfl, ?_⟩) (by assumption) ?_
        case refine_2 =>
          intro w9 hSw
          (try dsimp only at hSw)
          go_simp
          (try with_reducible rfl)
        simp only [Act.put, List.setIfInBounds_toArray, List.set_cons_zero, List.set_cons_succ, List.getElem_toArray, List.getElem_cons_zero, List.getElem_cons_succ]
        refine wpAnyH_take (i := 9) (oi := _) (v := ?_) rfl (by kernel_rfl) (by kernel_rfl) (by kernel_rfl) (fun _ _ _ h => h) (Or.inl ⟨by rfl, ?_⟩) (by assumption) ?_
        case refine_2 =>
          intro w9 hSw
          (try dsimp only at hSw)
          go_simp
          (try with_reducible rfl)
        simp only [Act.put, List.setIfInBounds_toArray, List.set_cons_zero, List.set_cons_succ, List.getElem_toArray, List.getElem_cons_zero, List.getElem_cons_succ]
        refine wpAnyH_take (i := 10) (oi := _) (v := ?_) rfl (by kernel_rfl) (by kernel_rfl) (by kernel_rfl) (fun _ _ _ h => h) (Or.inl ⟨by rfl, ?_⟩) (by assumption) ?_
        case refine_2 =>
          intro w9 hSw
          (try dsimp only at hSw)
          go_simp
          (try with_reducible rfl)
        simp only [Act.put, List.setIfInBounds_toArray, List.set_cons_zero, List.set_cons_succ, List.getElem_toArray, List.getElem_cons_zero, List.getElem_cons_succ]
        have h9 := st_2_n wn A m c B m' c' HWn (Lib.hid (HS.out)) (Lib.hid (HU.out))
        rw [HG.out, HA0.out] at h9
        simp only [Act.put, List.setIfInBounds_toArray, List.set_cons_zero, List.set_cons_succ] at h9
        exact h9
      refine AllReadyH.cons rfl (fun K hK => ?_) ?_
      case refine_1 =>
        go_simp
        have HX := Lib.hid (below_a1 wr (.cells #[.bool false, .slice none 0 0, .int .i64 0] 28))
        have HWn := Lib.hid (HW.out.trans (HX.out.mono HW.out.size))
        refine hK.out _ _ ?_ (fun hHeld => ?_)
        case refine_1 =>
          have D2k := Lib.hid (F2k.out.belowW HWn.out)
          exact ⟨D2k.out.cell 0, D2k.out.cell 1⟩
        clear hK K
        simp only [List.setIfInBounds_toArray, List.set_cons_zero, List.set_cons_succ]
        have h9 := st_1_0 ((wr.alloc (.cells #[.bool false, .slice none 0 0, .int .i64 0] 28))) wr.heap.size HWn (Lib.hid (Blk.new _ _ _)) (Lib.hid HW.out.size)
        rw [HG.out, HA0.out] at h9
        simp only [Act.put, List.setIfInBounds_toArray, List.set_cons_zero, List.set_cons_succ] at h9
        exact h9
      refine AllReadyH.cons rfl (fun K hK => ?_) ?_
      case refine_1 =>
        go_simp
        have HX := Lib.hid (below_a1 wr (.cells #[.bool false, .slice none 0 0, .int .i64 0] 28))
        have HWn := Lib.hid (HW.out.trans (HX.out.mono HW.out.size))
        refine hK.out _ _ ?_ (fun hHeld => ?_)
        case refine_1 =>
          have D2k := Lib.hid (F2k.out.belowW HWn.out)
          exact ⟨D2k.out.cell 0, D2k.out.cell 1⟩
        clear hK K
        simp only [List.setIfInBounds_toArray, List.set_cons_zero, List.set_cons_succ]
        have h9 := st_1_1 ((wr.alloc (.cells #[.bool false, .slice none 0 0, .int .i64 0] 28))) wr.heap.size HWn (Lib.hid (Blk.new _ _ _)) (Lib.hid HW.out.size)
        rw [HG.out, HA0.out] at h9
        simp only [Act.put, List.setIfInBounds_toArray, List.set_cons_zero, List.set_cons_succ] at h9
        exact h9
      exact AllReadyH.nil
    have st_0_01 : ∀ (wr : World) (g0 : Nat) (g1 : Nat), Hid (Below w2.heap.size w2 wr) → Hid (Blk wr g0 28 #[.bool false, .slice none 0 0, .int .i64 0]) → Hid (w2.heap.size ≤ g0) → Hid (Blk wr g1 28 #[.bool false, .slice none 0 0, .int .i64 0]) → Hid (w2.heap.size ≤ g1) → g0 ≠ g1 → G 7 #[true, true, false, true, true, true, true, false, false, false, false, true, true, false, false] ((A0.put (some 5) (.pointer (some ⟨g0, 0, none⟩))).put (some 6) (.pointer (some ⟨g1, 0, none⟩))) wr := by
      intro wr g0 g1 HW B0 L0 B1 L1 n01
      rw [HG.out, HA0.out]
      simp only [Act.put, List.setIfInBounds_toArray, List.set_cons_zero, List.set_cons_succ]
      have Dk := Lib.hid (F2k.out.belowW HW.out)
      refine wpAnyH_ready (rs := [2]) (by kernel_rfl) (by simp) ?_
      refine AllReadyH.cons rfl (fun K hK => ?_) ?_
      case refine_1 =>
        go_simp
        (with_reducible refine (size_r n _ h1 h2).mono ?_)
        rw [HN.out]
        rintro e wn ⟨rfl, hr⟩
        have HX := Lib.hid (show Below wr.heap.size wr wn by rw [← hr]; exact Below.refl _ _)
        clear hr
        go_wp2_with fail
        have HWn := Lib.hid (HW.out.trans (HX.out.mono HW.out.size))
        refine hK.out _ _ ?_ (fun hHeld => ?_)
        case refine_1 =>
          have D2k := Lib.hid (F2k.out.belowW HWn.out)
          exact ⟨D2k.out.cell 0, D2k.out.cell 1⟩
        clear hK K
        simp only [List.setIfInBounds_toArray, List.set_cons_zero, List.set_cons_succ]
        have h9 := st_1_01 wn g0 g1 HWn (Lib.hid (B0.out.belowW HX.out)) L0 (Lib.hid (B1.out.belowW HX.out)) L1 n01
        rw [HG.out, HA0.out] at h9
        simp only [Act.put, List.setIfInBounds_toArray, List.set_cons_zero, List.set_cons_succ] at h9
        exact h9
      exact AllReadyH.nil
    have st_0_0 : ∀ (wr : World) (g0 : Nat), Hid (Below w2.heap.size w2 wr) → Hid (Blk wr g0 28 #[.bool false, .slice none 0 0, .int .i64 0]) → Hid (w2.heap.size ≤ g0) → G 8 #[true, true, false, true, true, true, true, false, false, false, false, true, false, false, false] (A0.put (some 5) (.pointer (some ⟨g0, 0, none⟩))) wr := by
      intro wr g0 HW B0 L0
      rw [HG.out, HA0.out]
      simp only [Act.put, List.setIfInBounds_toArray, List.set_cons_zero, List.set_cons_succ]
      have Dk := Lib.hid (F2k.out.belowW HW.out)
      refine wpAnyH_ready (rs := [2, 12]) (by kernel_rfl) (by simp) ?_
      refine AllReadyH.cons rfl (fun K hK => ?_) ?_
      case refine_1 =>
        go_simp
        (with_reducible refine (size_r n _ h1 h2).mono ?_)
        rw [HN.out]
        rintro e wn ⟨rfl, hr⟩
        have HX := Lib.hid (show Below wr.heap.size wr wn by rw [← hr]; exact Below.refl _ _)
        clear hr
        go_wp2_with fail
        have HWn := Lib.hid (HW.out.trans (HX.out.mono HW.out.size))
        refine hK.out _ _ ?_ (fun hHeld => ?_)
        case refine_1 =>
          have D2k := Lib.hid (F2k.out.belowW HWn.out)
          exact ⟨D2k.out.cell 0, D2k.out.cell 1⟩
        clear hK K
        simp only [List.setIfInBounds_toArray, List.set_cons_zero, List.set_cons_succ]
        have h9 := st_1_0 wn g0 HWn (Lib.hid (B0.out.belowW HX.out)) L0
        rw [HG.out, HA0.out] at h9
        simp only [Act.put, List.setIfInBounds_toArray, List.set_cons_zero, List.set_cons_succ] at h9
        exact h9
      refine AllReadyH.cons rfl (fun K hK => ?_) ?_
      case refine_1 =>
        go_simp
        have HX := Lib.hid (below_a1 wr (.cells #[.bool false, .slice none 0 0, .int .i64 0] 28))
        have HWn := Lib.hid (HW.out.trans (HX.out.mono HW.out.size))
        refine hK.out _ _ ?_ (fun hHeld => ?_)
        case refine_1 =>
          have D2k := Lib.hid (F2k.out.belowW HWn.out)
          exact ⟨D2k.out.cell 0, D2k.out.cell 1⟩
        clear hK K
        simp only [List.setIfInBounds_toArray, List.set_cons_zero, List.set_cons_succ]
        have h9 := st_0_01 ((wr.alloc (.cells #[.bool false, .slice none 0 0, .int .i64 0] 28))) g0 wr.heap.size HWn (Lib.hid (B0.out.belowW HX.out)) L0 (Lib.hid (Blk.new _ _ _)) (Lib.hid HW.out.size) (Nat.ne_of_lt B0.out.lt)
        rw [HG.out, HA0.out] at h9
        simp only [Act.put, List.setIfInBounds_toArray, List.set_cons_zero, List.set_cons_succ] at h9
        exact h9
      exact AllReadyH.nil
    have st_0_1 : ∀ (wr : World) (g1 : Nat), Hid (Below w2.heap.size w2 wr) → Hid (Blk wr g1 28 #[.bool false, .slice none 0 0, .int .i64 0]) → Hid (w2.heap.size ≤ g1) → G 8 #[true, true, false, true, true, true, true, false, false, false, false, false, true, false, false] (A0.put (some 6) (.pointer (some ⟨g1, 0, none⟩))) wr := by
      intro wr g1 HW B1 L1
      rw [HG.out, HA0.out]
      simp only [Act.put, List.setIfInBounds_toArray, List.set_cons_zero, List.set_cons_succ]
      have Dk := Lib.hid (F2k.out.belowW HW.out)
      refine wpAnyH_ready (rs := [2, 11]) (by kernel_rfl) (by simp) ?_
      refine AllReadyH.cons rfl (fun K hK => ?_) ?_
      case refine_1 =>
        go_simp
        (with_reducible refine (size_r n _ h1 h2).mono ?_)
        rw [HN.out]
        rintro e wn ⟨rfl, hr⟩
        have HX := Lib.hid (show Below wr.heap.size wr wn by rw [← hr]; exact Below.refl _ _)
        clear hr
        go_wp2_with fail
        have HWn := Lib.hid (HW.out.trans (HX.out.mono HW.out.size))
        refine hK.out _ _ ?_ (fun hHeld => ?_)
        case refine_1 =>
          have D2k := Lib.hid (F2k.out.belowW HWn.out)
          exact ⟨D2k.out.cell 0, D2k.out.cell 1⟩
        clear hK K
        simp only [List.setIfInBounds_toArray, List.set_cons_zero, List.set_cons_succ]
        have h9 := st_1_1 wn g1 HWn (Lib.hid (B1.out.belowW HX.out)) L1
        rw [HG.out, HA0.out] at h9
        simp only [Act.put, List.setIfInBounds_toArray, List.set_cons_zero, List.set_cons_succ] at h9
        exact h9
      refine AllReadyH.cons rfl (fun K hK => ?_) ?_
      case refine_1 =>
        go_simp
        have HX := Lib.hid (below_a1 wr (.cells #[.bool false, .slice none 0 0, .int .i64 0] 28))
        have HWn := Lib.hid (HW.out.trans (HX.out.mono HW.out.size))
        refine hK.out _ _ ?_ (fun hHeld => ?_)
        case refine_1 =>
          have D2k := Lib.hid (F2k.out.belowW HWn.out)
          exact ⟨D2k.out.cell 0, D2k.out.cell 1⟩
        clear hK K
        simp only [List.setIfInBounds_toArray, List.set_cons_zero, List.set_cons_succ]
        have h9 := st_0_01 ((wr.alloc (.cells #[.bool false, .slice none 0 0, .int .i64 0] 28))) wr.heap.size g1 HWn (Lib.hid (Blk.new _ _ _)) (Lib.hid HW.out.size) (Lib.hid (B1.out.belowW HX.out)) L1 (Nat.ne_of_gt B1.out.lt)
        rw [HG.out, HA0.out] at h9
        simp only [Act.put, List.setIfInBounds_toArray, List.set_cons_zero, List.set_cons_succ] at h9
        exact h9
      exact AllReadyH.nil
    have st_0_n : ∀ (wr : World), Hid (Below w2.heap.size w2 wr) → G 9 #[true, true, false, true, true, true, true, false, false, false, false, false, false, false, false] A0 wr := by
      intro wr HW
      rw [HG.out, HA0.out]
      have Dk := Lib.hid (F2k.out.belowW HW.out)
      refine wpAnyH_ready (rs := [2, 11, 12]) (by kernel_rfl) (by simp) ?_
      refine AllReadyH.cons rfl (fun K hK => ?_) ?_
      case refine_1 =>
        go_simp
        (with_reducible refine (size_r n _ h1 h2).mono ?_)
        rw [HN.out]
        rintro e wn ⟨rfl, hr⟩
        have HX := Lib.hid (show Below wr.heap.size wr wn by rw [← hr]; exact Below.refl _ _)
        clear hr
        go_wp2_with fail
        have HWn := Lib.hid (HW.out.trans (HX.out.mono HW.out.size))
        refine hK.out _ _ ?_ (fun hHeld => ?_)
        case refine_1 =>
          have D2k := Lib.hid (F2k.out.belowW HWn.out)
          exact ⟨D2k.out.cell 0, D2k.out.cell 1⟩
        clear hK K
        simp only [List.setIfInBounds_toArray, List.set_cons_zero, List.set_cons_succ]
        have h9 := st_1_n wn HWn
        rw [HG.out, HA0.out] at h9
        simp only [Act.put, List.setIfInBounds_toArray, List.set_cons_zero, List.set_cons_succ] at h9
        exact h9
      refine AllReadyH.cons rfl (fun K hK => ?_) ?_
      case refine_1 =>
        go_simp
        have HX := Lib.hid (below_a1 wr (.cells #[.bool false, .slice none 0 0, .int .i64 0] 28))
        have HWn := Lib.hid (HW.out.trans (HX.out.mono HW.out.size))
        refine hK.out _ _ ?_ (fun hHeld => ?_)
        case refine_1 =>
          have D2k := Lib.hid (F2k.out.belowW HWn.out)
          exact ⟨D2k.out.cell 0, D2k.out.cell 1⟩
        clear hK K
        simp only [List.setIfInBounds_toArray, List.set_cons_zero, List.set_cons_succ]
        have h9 := st_0_0 ((wr.alloc (.cells #[.bool false, .slice none 0 0, .int .i64 0] 28))) wr.heap.size HWn (Lib.hid (Blk.new _ _ _)) (Lib.hid HW.out.size)
        rw [HG.out, HA0.out] at h9
        simp only [Act.put, List.setIfInBounds_toArray, List.set_cons_zero, List.set_cons_succ] at h9
        exact h9
      refine AllReadyH.cons rfl (fun K hK => ?_) ?_
      case refine_1 =>
        go_simp
        have HX := Lib.hid (below_a1 wr (.cells #[.bool false, .slice none 0 0, .int .i64 0] 28))
        have HWn := Lib.hid (HW.out.trans (HX.out.mono HW.out.size))
        refine hK.out _ _ ?_ (fun hHeld => ?_)
        case refine_1 =>
          have D2k := Lib.hid (F2k.out.belowW HWn.out)
          exact ⟨D2k.out.cell 0, D2k.out.cell 1⟩
        clear hK K
        simp only [List.setIfInBounds_toArray, List.set_cons_zero, List.set_cons_succ]
        have h9 := st_0_1 ((wr.alloc (.cells #[.bool false, .slice none 0 0, .int .i64 0] 28))) wr.heap.size HWn (Lib.hid (Blk.new _ _ _)) (Lib.hid HW.out.size)
        rw [HG.out, HA0.out] at h9
        simp only [Act.put, List.setIfInBounds_toArray, List.set_cons_zero, List.set_cons_succ] at h9
        exact h9
      exact AllReadyH.nil
    have h9 := st_0_n _ HR3
    rw [HG.out, HA0.out] at h9 ⊢
    exact h9
  case rest =>
    obtain ⟨ga, gb, A, m, c, B, m', c', rfl, rfl, FA, FB, FS, FU, HGA, HGB, HQQ⟩ := hcut
    obtain ⟨w4, hw⟩ : ∃ z9 : World, z9 = wc := ⟨_, rfl⟩
    rw [← hw] at FA FB FS FU HQQ ⊢
    clear hw
    have F4k := Lib.hid (F2k.out.belowW HQQ.out)
    have F4r := Lib.hid (F2r.out.belowW HQQ.out)
    have HL4 := Lib.hid (HL2.out.trans (HQQ.out.mono HL2.out.size))
    have pk0 : (w4).cell? ⟨w.heap.size, 0, none⟩ = some (.int .i64 n) := F4k.out.cell 0
    have fk0 : (w4).frozen? ⟨w.heap.size, 0, none⟩ = false := F4k.out.frozen 0
    have pk1 : (w4).cell? ⟨w.heap.size, 1, none⟩ = some (.int .i64 k) := F4k.out.cell 1
    have fk1 : (w4).frozen? ⟨w.heap.size, 1, none⟩ = false := F4k.out.frozen 1
    have pva0 : (w4).cell? ⟨ga, 0, none⟩ = some (.bool lo.neg) := FA.out.cell 0
    have fva0 : (w4).frozen? ⟨ga, 0, none⟩ = false := FA.out.frozen 0
    have pva1 : (w4).cell? ⟨ga, 1, none⟩ = some (.slice A m c) := FA.out.cell 1
    have fva1 : (w4).frozen? ⟨ga, 1, none⟩ = false := FA.out.frozen 1
    have pva2 : (w4).cell? ⟨ga, 2, none⟩ = some (.int .i64 lo.e) := FA.out.cell 2
    have fva2 : (w4).frozen? ⟨ga, 2, none⟩ = false := FA.out.frozen 2
    have pvb0 : (w4).cell? ⟨gb, 0, none⟩ = some (.bool hi.neg) := FB.out.cell 0
    have fvb0 : (w4).frozen? ⟨gb, 0, none⟩ = false := FB.out.frozen 0
    have pvb1 : (w4).cell? ⟨gb, 1, none⟩ = some (.slice B m' c') := FB.out.cell 1
    have fvb1 : (w4).frozen? ⟨gb, 1, none⟩ = false := FB.out.frozen 1
    have pvb2 : (w4).cell? ⟨gb, 2, none⟩ = some (.int .i64 hi.e) := FB.out.cell 2
    have fvb2 : (w4).frozen? ⟨gb, 2, none⟩ = false := FB.out.frozen 2
    clear pk0 fk0 pk1 fk1 pva0 fva0 pva1 fva1 pva2 fva2 pvb0 fvb0 pvb1 fvb1 pvb2 fvb2
    have pr0 : (w4).cell? ⟨w.heap.size + 1, 0, none⟩ = some (.bool false) := F4r.out.cell 0
    have fr0 : (w4).frozen? ⟨w.heap.size + 1, 0, none⟩ = false := F4r.out.frozen 0
    have pr1 : (w4).cell? ⟨w.heap.size + 1, 1, none⟩ = some (.slice none 0 0) := F4r.out.cell 1
    have fr1 : (w4).frozen? ⟨w.heap.size + 1, 1, none⟩ = false := F4r.out.frozen 1
    have pr2 : (w4).cell? ⟨w.heap.size + 1, 2, none⟩ = some (.int .i64 0) := F4r.out.cell 2
    have fr2 : (w4).frozen? ⟨w.heap.size + 1, 2, none⟩ = false := F4r.out.frozen 2
    have pr3 : (w4).cell? ⟨w.heap.size + 1, 3, none⟩ = some (.bool false) := F4r.out.cell 3
    have fr3 : (w4).frozen? ⟨w.heap.size + 1, 3, none⟩ = false := F4r.out.frozen 3
    have pr4 : (w4).cell? ⟨w.heap.size + 1, 4, none⟩ = some (.slice none 0 0) := F4r.out.cell 4
    have fr4 : (w4).frozen? ⟨w.heap.size + 1, 4, none⟩ = false := F4r.out.frozen 4
    have pr5 : (w4).cell? ⟨w.heap.size + 1, 5, none⟩ = some (.int .i64 0) := F4r.out.cell 5
    have fr5 : (w4).frozen? ⟨w.heap.size + 1, 5, none⟩ = false := F4r.out.frozen 5
    have pr6 : (w4).cell? ⟨w.heap.size + 1, 6, none⟩ = some (.bool false) := F4r.out.cell 6
    have fr6 : (w4).frozen? ⟨w.heap.size + 1, 6, none⟩ = false := F4r.out.frozen 6
    have pk0 : (w4).cell? ⟨w.heap.size, 0, none⟩ = some (.int .i64 n) := F4k.out.cell 0
    have fk0 : (w4).frozen? ⟨w.heap.size, 0, none⟩ = false := F4k.out.frozen 0
    have pk1 : (w4).cell? ⟨w.heap.size, 1, none⟩ = some (.int .i64 k) := F4k.out.cell 1
    have fk1 : (w4).frozen? ⟨w.heap.size, 1, none⟩ = false := F4k.out.frozen 1
    have pva0 : (w4).cell? ⟨ga, 0, none⟩ = some (.bool lo.neg) := FA.out.cell 0
    have fva0 : (w4).frozen? ⟨ga, 0, none⟩ = false := FA.out.frozen 0
    have pva1 : (w4).cell? ⟨ga, 1, none⟩ = some (.slice A m c) := FA.out.cell 1
    have fva1 : (w4).frozen? ⟨ga, 1, none⟩ = false := FA.out.frozen 1
    have pva2 : (w4).cell? ⟨ga, 2, none⟩ = some (.int .i64 lo.e) := FA.out.cell 2
    have fva2 : (w4).frozen? ⟨ga, 2, none⟩ = false := FA.out.frozen 2
    have pvb0 : (w4).cell? ⟨gb, 0, none⟩ = some (.bool hi.neg) := FB.out.cell 0
    have fvb0 : (w4).frozen? ⟨gb, 0, none⟩ = false := FB.out.frozen 0
    have pvb1 : (w4).cell? ⟨gb, 1, none⟩ = some (.slice B m' c') := FB.out.cell 1
    have fvb1 : (w4).frozen? ⟨gb, 1, none⟩ = false := FB.out.frozen 1
    have pvb2 : (w4).cell? ⟨gb, 2, none⟩ = some (.int .i64 hi.e) := FB.out.cell 2
    have fvb2 : (w4).frozen? ⟨gb, 2, none⟩ = false := FB.out.frozen 2
    go_wp2_with fail
    rw [store7_put F4r.out]
    have FR9 := Lib.hid (F4r.out.put #[.bool lo.neg, .slice A m c, .int .i64 lo.e, .bool hi.neg, .slice B m' c', .int .i64 hi.e, .bool false])
    have HL9 := Lib.hid (HL4.out.trans (putB_below w4 _ 30 #[.bool lo.neg, .slice A m c, .int .i64 lo.e, .bool hi.neg, .slice B m' c', .int .i64 hi.e, .bool false] (by omega : w.heap.size ≤ w.heap.size + 1)))
    have G9 := putB_grown w4 (w.heap.size + 1) 30 #[.bool lo.neg, .slice A m c, .int .i64 lo.e, .bool hi.neg, .slice B m' c', .int .i64 hi.e, .bool false]
    have S90 := Lib.hid (FS.out.far F4r.out noU7 G9)
    have S91 := Lib.hid (FU.out.far F4r.out noU7 G9)
    clear G9 pr0 fr0 pr1 fr1 pr2 fr2 pr3 fr3 pr4 fr4 pr5 fr5 pr6 fr6 pk0 fk0 pk1 fk1 pva0 fva0 pva1 fva1 pva2 fva2 pvb0 fvb0 pvb1 fvb1 pvb2 fvb2
    obtain ⟨w9, hw⟩ : ∃ z9 : World, z9 = putB w4 (w.heap.size + 1) 30 #[.bool lo.neg, .slice A m c, .int .i64 lo.e, .bool hi.neg, .slice B m' c', .int .i64 hi.e, .bool false] := ⟨_, rfl⟩
    rw [← hw] at FR9 HL9 S90 S91 ⊢
    clear hw
    have pr0 : (w9).cell? ⟨w.heap.size + 1, 0, none⟩ = some (.bool lo.neg) := FR9.out.cell 0
    have fr0 : (w9).frozen? ⟨w.heap.size + 1, 0, none⟩ = false := FR9.out.frozen 0
    have pr1 : (w9).cell? ⟨w.heap.size + 1, 1, none⟩ = some (.slice A m c) := FR9.out.cell 1
    have fr1 : (w9).frozen? ⟨w.heap.size + 1, 1, none⟩ = false := FR9.out.frozen 1
    have pr2 : (w9).cell? ⟨w.heap.size + 1, 2, none⟩ = some (.int .i64 lo.e) := FR9.out.cell 2
    have fr2 : (w9).frozen? ⟨w.heap.size + 1, 2, none⟩ = false := FR9.out.frozen 2
    have pr3 : (w9).cell? ⟨w.heap.size + 1, 3, none⟩ = some (.bool hi.neg) := FR9.out.cell 3
    have fr3 : (w9).frozen? ⟨w.heap.size + 1, 3, none⟩ = false := FR9.out.frozen 3
    have pr4 : (w9).cell? ⟨w.heap.size + 1, 4, none⟩ = some (.slice B m' c') := FR9.out.cell 4
    have fr4 : (w9).frozen? ⟨w.heap.size + 1, 4, none⟩ = false := FR9.out.frozen 4
    have pr5 : (w9).cell? ⟨w.heap.size + 1, 5, none⟩ = some (.int .i64 hi.e) := FR9.out.cell 5
    have fr5 : (w9).frozen? ⟨w.heap.size + 1, 5, none⟩ = false := FR9.out.frozen 5
    have pr6 : (w9).cell? ⟨w.heap.size + 1, 6, none⟩ = some (.bool false) := FR9.out.cell 6
    have fr6 : (w9).frozen? ⟨w.heap.size + 1, 6, none⟩ = false := FR9.out.frozen 6
    refine bodyPost_ret (v := .agg #[.bool lo.neg, .slice A m c, .int .i64 lo.e, .bool hi.neg, .slice B m' c', .int .i64 hi.e, .bool false]) (by simp [results, Tryz.results16, go_sem, pr0, pr1, pr2, pr3, pr4, pr5, pr6]) rfl ?_
    rw [HR.out]
    exact ⟨A, B, m, c, m', c', rfl, S90, S91, HL9⟩

set_option maxHeartbeats 8000000 in
theorem encloseR_neg (n d p : Int) (w : World) (h1 : -9223372036854775808 ≤ n) (h2 : n ≤ 9223372036854775807) (h3 : -9223372036854775808 ≤ d) (h4 : d ≤ 9223372036854775807) (hv : vB n d = true) (hp : 8 ≤ p) (hp2 : p ≤ 512) (hn : n < 0) :
    Calls Tryz.prog 16 #[.agg #[.int .i64 n, .int .i64 d], .int .i64 p] w (IvR (encR n d p) w) := by
  have HV := Lib.hid hv
  obtain ⟨v1, v2, v3, v4, _⟩ := vB_iff.1 hv
  unfold MX at v2 v3 v4
  obtain ⟨q, rfl⟩ : ∃ q : Nat, p = q := ⟨p.toNat, by omega⟩
  obtain ⟨k, rfl⟩ : ∃ k : Nat, d = k := ⟨d.toNat, by omega⟩
  obtain ⟨N, hN⟩ : ∃ N, n.natAbs = N := ⟨_, rfl⟩
  have HN := Lib.hid hN
  have n1 : 1 ≤ N := by omega
  have n2 : N ≤ 1073741824 := by omega
  have k1 : 1 ≤ k := by omega
  have k2 : k ≤ 1073741824 := by omega
  have q1 : 8 ≤ q := by omega
  have q2 : q ≤ 512 := by omega
  have HU := Lib.hid (enc_bound (show N ≠ 0 by omega) (show k ≠ 0 by omega) n2 k2 (show 0 < q by omega) (enc_spec (by omega) (by omega) (by omega)))
  have HE := Lib.hid (show ∀ up, endQ (encT N k q) (encX N k q) up ≠ 0 from fun up => Enc.endPos (enc_spec (by omega) (by omega) (by omega)) up)
  obtain ⟨lo, hlo⟩ : ∃ lo, canon false (encT N k q) (encU N k q) = lo := ⟨_, rfl⟩
  obtain ⟨hi, hhi⟩ : ∃ hi, canon false (endQ (encT N k q) (encX N k q) true) (encU N k q) = hi := ⟨_, rfl⟩
  have HLO := Lib.hid hlo
  have HHI := Lib.hid hhi
  have HR := Lib.hid (show encR n k q = (⟨!hi.neg, hi.k, hi.e⟩, ⟨!lo.neg, lo.k, lo.e⟩, false) by
    rw [encR_eq (vB_iff.1 hv) (by omega) (by omega)]
    unfold encE
    rw [if_neg (by omega), if_neg (by omega), decide_eq_true hn, hN, Int.natAbs_natCast]
    rw [← hlo, ← hhi, canon_other (HE.out true), canon_other (show encT N k q ≠ 0 from HE.out false)]
    rfl)
  have KLO := Lib.hid (show lo.k ≠ 0 by rw [← hlo]; exact canon_k_ne (HE.out false))
  have KHI := Lib.hid (show hi.k ≠ 0 by rw [← hhi]; exact canon_k_ne (HE.out true))
  have dn : decide (n < 0) = true := decide_eq_true hn
  have d1 : decide ((q : Int) < 8) = false := decide_eq_false (by omega)
  have d2 : decide (512 < (q : Int)) = false := decide_eq_false (by omega)
  have d3 : (n == 0) = false := by rw [beq_eq_false_iff_ne]; omega
  have dw : IntKind.u64.wrap (k : Int) = k := by rw [IntKind.wrap_u64]; omega
  clear hv hN hlo hhi HU HE
  go_enter Tryz.func16, Tryz.ntmps16
  go_wp2_with fail
  obtain ⟨w1, hw⟩ : ∃ z9 : World, z9 = ((w.alloc (.cells #[.int .i64 n, .int .i64 k] 23)).alloc (.cells #[.bool false, .slice none 0 0, .int .i64 0, .bool false, .slice none 0 0, .int .i64 0, .bool false] 30)) := ⟨_, rfl⟩
  have HB1 := Lib.hid (show Below w.heap.size w w1 by rw [hw]; exact below_a2 _ _ _)
  have F1k := Lib.hid (show Blk w1 (w.heap.size) 23 #[.int .i64 n, .int .i64 k] by rw [hw]; exact (Blk.new _ _ _).alloc _)
  have F1r := Lib.hid (show Blk w1 (w.heap.size + 1) 30 #[.bool false, .slice none 0 0, .int .i64 0, .bool false, .slice none 0 0, .int .i64 0, .bool false] by rw [hw]; exact Blk.new1 _ _ _ _)
  rw [← hw]
  clear hw
  have pk0 : (w1).cell? ⟨w.heap.size, 0, none⟩ = some (.int .i64 n) := F1k.out.cell 0
  have fk0 : (w1).frozen? ⟨w.heap.size, 0, none⟩ = false := F1k.out.frozen 0
  have pk1 : (w1).cell? ⟨w.heap.size, 1, none⟩ = some (.int .i64 k) := F1k.out.cell 1
  have fk1 : (w1).frozen? ⟨w.heap.size, 1, none⟩ = false := F1k.out.frozen 1
  refine (valid_r n k w1 h1 h2 h3 h4).mono ?_
  rw [HV.out]
  rintro e w2 ⟨rfl, HB2⟩
  have F2k := Lib.hid (F1k.out.belowW HB2.out)
  have F2r := Lib.hid (F1r.out.belowW HB2.out)
  have HL2 := Lib.hid (HB1.out.trans (HB2.out.mono HB1.out.size))
  clear pk0 pk1 fk0 fk1
  have pk0 : (w2).cell? ⟨w.heap.size, 0, none⟩ = some (.int .i64 n) := F2k.out.cell 0
  have fk0 : (w2).frozen? ⟨w.heap.size, 0, none⟩ = false := F2k.out.frozen 0
  have pk1 : (w2).cell? ⟨w.heap.size, 1, none⟩ = some (.int .i64 k) := F2k.out.cell 1
  have fk1 : (w2).frozen? ⟨w.heap.size, 1, none⟩ = false := F2k.out.frozen 1
  go_wp2_with fail
  go_cut [5, 6] (EndsCut w2 lo hi)
  case first =>
    have HR3 := Lib.hid (below_dr w2)
    have R3k := Lib.hid (F2k.out.belowW HR3.out)
    refine wp_region_held_drew (S := fun w' => w'.cell? ⟨w.heap.size, 0, none⟩ = some (.int .i64 n) ∧ w'.cell? ⟨w.heap.size, 1, none⟩ = some (.int .i64 k)) (by kernel_rfl) ?_ (fun hHeld => ?_)
    case refine_1 => exact ⟨R3k.out.cell 0, R3k.out.cell 1⟩
    refine wpAnyH_take (i := 0) (oi := _) (v := ?_) rfl (by kernel_rfl) (by kernel_rfl) (by kernel_rfl) (fun _ _ _ h => h) (Or.inl ⟨by rfl, ?_⟩) (by assumption) ?_
    case refine_2 =>
      intro w9 hSw
      (try dsimp only at hSw)
      go_simp
      (try with_reducible rfl)
    simp only [Act.put, List.setIfInBounds_toArray, List.set_cons_zero, List.set_cons_succ, List.getElem_toArray, List.getElem_cons_zero]
    refine wpAnyH_take (i := 1) (oi := _) (v := ?_) rfl (by kernel_rfl) (by kernel_rfl) (by kernel_rfl) (fun _ _ _ h => h) (Or.inl ⟨by rfl, ?_⟩) (by assumption) ?_
    case refine_2 =>
      intro w9 hSw
      (try dsimp only at hSw)
      go_simp
      (try with_reducible rfl)
    simp only [Act.put, List.setIfInBounds_toArray, List.set_cons_zero, List.set_cons_succ, List.getElem_toArray, List.getElem_cons_zero, List.getElem_cons_succ]
    refine wpAnyH_take (i := 3) (oi := _) (v := ?_) rfl (by kernel_rfl) (by kernel_rfl) (by kernel_rfl) (fun _ _ _ h => h) (Or.inl ⟨by rfl, ?_⟩) (by assumption) ?_
    case refine_2 =>
      intro w9 hSw
      (try dsimp only at hSw)
      go_simp
      (try with_reducible rfl)
    simp only [Act.put, List.setIfInBounds_toArray, List.set_cons_zero, List.set_cons_succ, List.getElem_toArray, List.getElem_cons_zero, List.getElem_cons_succ]
    refine wpAnyH_take (i := 4) (oi := _) (v := ?_) rfl (by kernel_rfl) (by kernel_rfl) (by kernel_rfl) (fun _ _ _ h => h) (Or.inl ⟨by rfl, ?_⟩) (by assumption) ?_
    case refine_2 =>
      intro w9 hSw
      (try dsimp only at hSw)
      go_simp
      (try with_reducible rfl)
    simp only [Act.put, List.setIfInBounds_toArray, List.set_cons_zero, List.set_cons_succ, List.getElem_toArray, List.getElem_cons_zero, List.getElem_cons_succ]
    refine wpAnyH_take (i := 5) (oi := _) (v := ?_) rfl (by kernel_rfl) (by kernel_rfl) (by kernel_rfl) (fun _ _ _ h => h) (Or.inl ⟨by rfl, ?_⟩) (by assumption) ?_
    case refine_2 =>
      intro w9 hSw
      (try dsimp only at hSw)
      go_simp
      (try with_reducible rfl)
    simp only [Act.put, List.setIfInBounds_toArray, List.set_cons_zero, List.set_cons_succ, List.getElem_toArray, List.getElem_cons_zero, List.getElem_cons_succ]
    refine wpAnyH_take (i := 6) (oi := _) (v := ?_) rfl (by kernel_rfl) (by kernel_rfl) (by kernel_rfl) (fun _ _ _ h => h) (Or.inl ⟨by rfl, ?_⟩) (by assumption) ?_
    case refine_2 =>
      intro w9 hSw
      (try dsimp only at hSw)
      go_simp
      (try with_reducible rfl)
    simp only [Act.put, List.setIfInBounds_toArray, List.set_cons_zero, List.set_cons_succ, List.getElem_toArray, List.getElem_cons_zero, List.getElem_cons_succ]
    refine memo_start ?_
    intro G A0 HG HA0
    clear hHeld
    have st_2_01 : ∀ (wr : World) (A : Option Addr) (m : Nat) (c : Nat) (B : Option Addr) (m' : Nat) (c' : Nat) (g0 : Nat) (g1 : Nat), Hid (Below w2.heap.size w2 wr) → Hid (Sl wr A m c (limbs lo.k)) → Hid (Sl wr B m' c' (limbs hi.k)) → Hid (Blk wr g0 28 #[.bool false, .slice none 0 0, .int .i64 0]) → Hid (w2.heap.size ≤ g0) → Hid (Blk wr g1 28 #[.bool false, .slice none 0 0, .int .i64 0]) → Hid (w2.heap.size ≤ g1) → g0 ≠ g1 → G 2 #[true, true, true, true, true, true, true, true, true, true, true, true, true, false, false] (((((((A0.put (some 26) (.int .u64 (N : Int))).put (some 31) (.tuple #[.agg #[.bool lo.neg, .slice A m c, .int .i64 lo.e], .agg #[.bool hi.neg, .slice B m' c', .int .i64 hi.e]])).put (some 23) (.tuple #[.agg #[.bool lo.neg, .slice A m c, .int .i64 lo.e], .agg #[.bool hi.neg, .slice B m' c', .int .i64 hi.e]])).put (some 32) (.agg #[.bool lo.neg, .slice A m c, .int .i64 lo.e])).put (some 33) (.agg #[.bool hi.neg, .slice B m' c', .int .i64 hi.e])).put (some 5) (.pointer (some ⟨g0, 0, none⟩))).put (some 6) (.pointer (some ⟨g1, 0, none⟩))) wr := by
      intro wr A m c B m' c' g0 g1 HW Fclo Fchi B0 L0 B1 L1 n01
      rw [HG.out, HA0.out]
      clear HG HA0
      simp only [Act.put, List.setIfInBounds_toArray, List.set_cons_zero, List.set_cons_succ]
      have Dk := Lib.hid (F2k.out.belowW HW.out)
      have z0 : wr.cell? ⟨g0, 0, none⟩ = some (.bool false) := B0.out.cell 0
      have y0 : wr.frozen? ⟨g0, 0, none⟩ = false := B0.out.frozen 0
      have z1 : wr.cell? ⟨g0, 1, none⟩ = some (.slice none 0 0) := B0.out.cell 1
      have y1 : wr.frozen? ⟨g0, 1, none⟩ = false := B0.out.frozen 1
      have z2 : wr.cell? ⟨g0, 2, none⟩ = some (.int .i64 0) := B0.out.cell 2
      have y2 : wr.frozen? ⟨g0, 2, none⟩ = false := B0.out.frozen 2
      refine wpAnyH_ready (rs := [13]) (by kernel_rfl) (by simp) ?_
      refine AllReadyH.cons rfl (fun K hK => ?_) AllReadyH.nil
      go_simp
      rw [store3_put B0.out]
      have GR := putB_grown wr g0 28 #[.bool lo.neg, .slice A m c, .int .i64 lo.e]
      obtain ⟨v0, hw⟩ : ∃ z9 : World, z9 = putB wr g0 28 #[.bool lo.neg, .slice A m c, .int .i64 lo.e] := ⟨_, rfl⟩
      have HV0 := Lib.hid (show Below w2.heap.size w2 v0 by rw [hw]; exact HW.out.trans (putB_below _ _ _ _ L0.out))
      have BB0 := Lib.hid (show Blk v0 g0 28 #[.bool lo.neg, .slice A m c, .int .i64 lo.e] by rw [hw]; exact B0.out.put _)
      have B1_0 := Lib.hid (show Blk v0 g1 28 #[.bool false, .slice none 0 0, .int .i64 0] by rw [hw]; exact B1.out.far (Ne.symm n01) _)
      have F0lo := Lib.hid (show Sl v0 A m c (limbs lo.k) by rw [hw]; exact Fclo.out.far B0.out noU3 GR)
      have F0hi := Lib.hid (show Sl v0 B m' c' (limbs hi.k) by rw [hw]; exact Fchi.out.far B0.out noU3 GR)
      rw [← hw]
      clear hw GR z0 y0 z1 y1 z2 y2
      have D0k := Lib.hid (F2k.out.belowW HV0.out)
      refine hK.out _ _ ?_ (fun hHeld => ?_)
      case refine_1 => exact ⟨D0k.out.cell 0, D0k.out.cell 1⟩
      clear hK K
      simp only [List.setIfInBounds_toArray, List.set_cons_zero, List.set_cons_succ]
      have z0 : v0.cell? ⟨g1, 0, none⟩ = some (.bool false) := B1_0.out.cell 0
      have y0 : v0.frozen? ⟨g1, 0, none⟩ = false := B1_0.out.frozen 0
      have z1 : v0.cell? ⟨g1, 1, none⟩ = some (.slice none 0 0) := B1_0.out.cell 1
      have y1 : v0.frozen? ⟨g1, 1, none⟩ = false := B1_0.out.frozen 1
      have z2 : v0.cell? ⟨g1, 2, none⟩ = some (.int .i64 0) := B1_0.out.cell 2
      have y2 : v0.frozen? ⟨g1, 2, none⟩ = false := B1_0.out.frozen 2
      refine wpAnyH_ready (rs := [14]) (by kernel_rfl) (by simp) ?_
      refine AllReadyH.cons rfl (fun K hK => ?_) AllReadyH.nil
      go_simp
      rw [store3_put B1_0.out]
      have GR := putB_grown v0 g1 28 #[.bool hi.neg, .slice B m' c', .int .i64 hi.e]
      obtain ⟨v1, hw⟩ : ∃ z9 : World, z9 = putB v0 g1 28 #[.bool hi.neg, .slice B m' c', .int .i64 hi.e] := ⟨_, rfl⟩
      have HV1 := Lib.hid (show Below w2.heap.size w2 v1 by rw [hw]; exact HV0.out.trans (putB_below _ _ _ _ L1.out))
      have BB1 := Lib.hid (show Blk v1 g1 28 #[.bool hi.neg, .slice B m' c', .int .i64 hi.e] by rw [hw]; exact B1_0.out.put _)
      have B0_1 := Lib.hid (show Blk v1 g0 28 #[.bool lo.neg, .slice A m c, .int .i64 lo.e] by rw [hw]; exact BB0.out.far n01 _)
      have F1lo := Lib.hid (show Sl v1 A m c (limbs lo.k) by rw [hw]; exact F0lo.out.far B1_0.out noU3 GR)
      have F1hi := Lib.hid (show Sl v1 B m' c' (limbs hi.k) by rw [hw]; exact F0hi.out.far B1_0.out noU3 GR)
      rw [← hw]
      clear hw GR z0 y0 z1 y1 z2 y2
      have D1k := Lib.hid (F2k.out.belowW HV1.out)
      refine hK.out _ _ ?_ (fun hHeld => ?_)
      case refine_1 => exact ⟨D1k.out.cell 0, D1k.out.cell 1⟩
      clear hK K
      simp only [List.setIfInBounds_toArray, List.set_cons_zero, List.set_cons_succ]
      refine wpAnyH_done (by kernel_rfl) ?_ _
      go_wp2_with fail
      go_meet
      exact ⟨g0, g1, A, m, c, B, m', c', rfl, rfl, B0_1, BB1, F1lo, F1hi, L0, L1, HV1⟩
    have st_2_0 : ∀ (wr : World) (A : Option Addr) (m : Nat) (c : Nat) (B : Option Addr) (m' : Nat) (c' : Nat) (g0 : Nat), Hid (Below w2.heap.size w2 wr) → Hid (Sl wr A m c (limbs lo.k)) → Hid (Sl wr B m' c' (limbs hi.k)) → Hid (Blk wr g0 28 #[.bool false, .slice none 0 0, .int .i64 0]) → Hid (w2.heap.size ≤ g0) → G 3 #[true, true, true, true, true, true, true, true, true, true, true, true, false, false, false] ((((((A0.put (some 26) (.int .u64 (N : Int))).put (some 31) (.tuple #[.agg #[.bool lo.neg, .slice A m c, .int .i64 lo.e], .agg #[.bool hi.neg, .slice B m' c', .int .i64 hi.e]])).put (some 23) (.tuple #[.agg #[.bool lo.neg, .slice A m c, .int .i64 lo.e], .agg #[.bool hi.neg, .slice B m' c', .int .i64 hi.e]])).put (some 32) (.agg #[.bool lo.neg, .slice A m c, .int .i64 lo.e])).put (some 33) (.agg #[.bool hi.neg, .slice B m' c', .int .i64 hi.e])).put (some 5) (.pointer (some ⟨g0, 0, none⟩))) wr := by
      intro wr A m c B m' c' g0 HW Fclo Fchi B0 L0
      rw [HG.out, HA0.out]
      simp only [Act.put, List.setIfInBounds_toArray, List.set_cons_zero, List.set_cons_succ]
      have Dk := Lib.hid (F2k.out.belowW HW.out)
      refine wpAnyH_ready (rs := [12]) (by kernel_rfl) (by simp) ?_
      refine AllReadyH.cons rfl (fun K hK => ?_) ?_
      case refine_1 =>
        go_simp
        have HX := Lib.hid (below_a1 wr (.cells #[.bool false, .slice none 0 0, .int .i64 0] 28))
        have HWn := Lib.hid (HW.out.trans (HX.out.mono HW.out.size))
        refine hK.out _ _ ?_ (fun hHeld => ?_)
        case refine_1 =>
          have D2k := Lib.hid (F2k.out.belowW HWn.out)
          exact ⟨D2k.out.cell 0, D2k.out.cell 1⟩
        clear hK K
        simp only [List.setIfInBounds_toArray, List.set_cons_zero, List.set_cons_succ]
        have h9 := st_2_01 ((wr.alloc (.cells #[.bool false, .slice none 0 0, .int .i64 0] 28))) A m c B m' c' g0 wr.heap.size HWn (Lib.hid (Fclo.out.belowW HX.out)) (Lib.hid (Fchi.out.belowW HX.out)) (Lib.hid (B0.out.belowW HX.out)) L0 (Lib.hid (Blk.new _ _ _)) (Lib.hid HW.out.size) (Nat.ne_of_lt B0.out.lt)
        rw [HG.out, HA0.out] at h9
        simp only [Act.put, List.setIfInBounds_toArray, List.set_cons_zero, List.set_cons_succ] at h9
        exact h9
      exact AllReadyH.nil
    have st_2_1 : ∀ (wr : World) (A : Option Addr) (m : Nat) (c : Nat) (B : Option Addr) (m' : Nat) (c' : Nat) (g1 : Nat), Hid (Below w2.heap.size w2 wr) → Hid (Sl wr A m c (limbs lo.k)) → Hid (Sl wr B m' c' (limbs hi.k)) → Hid (Blk wr g1 28 #[.bool false, .slice none 0 0, .int .i64 0]) → Hid (w2.heap.size ≤ g1) → G 3 #[true, true, true, true, true, true, true, true, true, true, true, false, true, false, false] ((((((A0.put (some 26) (.int .u64 (N : Int))).put (some 31) (.tuple #[.agg #[.bool lo.neg, .slice A m c, .int .i64 lo.e], .agg #[.bool hi.neg, .slice B m' c', .int .i64 hi.e]])).put (some 23) (.tuple #[.agg #[.bool lo.neg, .slice A m c, .int .i64 lo.e], .agg #[.bool hi.neg, .slice B m' c', .int .i64 hi.e]])).put (some 32) (.agg #[.bool lo.neg, .slice A m c, .int .i64 lo.e])).put (some 33) (.agg #[.bool hi.neg, .slice B m' c', .int .i64 hi.e])).put (some 6) (.pointer (some ⟨g1, 0, none⟩))) wr := by
      intro wr A m c B m' c' g1 HW Fclo Fchi B1 L1
      rw [HG.out, HA0.out]
      simp only [Act.put, List.setIfInBounds_toArray, List.set_cons_zero, List.set_cons_succ]
      have Dk := Lib.hid (F2k.out.belowW HW.out)
      refine wpAnyH_ready (rs := [11]) (by kernel_rfl) (by simp) ?_
      refine AllReadyH.cons rfl (fun K hK => ?_) ?_
      case refine_1 =>
        go_simp
        have HX := Lib.hid (below_a1 wr (.cells #[.bool false, .slice none 0 0, .int .i64 0] 28))
        have HWn := Lib.hid (HW.out.trans (HX.out.mono HW.out.size))
        refine hK.out _ _ ?_ (fun hHeld => ?_)
        case refine_1 =>
          have D2k := Lib.hid (F2k.out.belowW HWn.out)
          exact ⟨D2k.out.cell 0, D2k.out.cell 1⟩
        clear hK K
        simp only [List.setIfInBounds_toArray, List.set_cons_zero, List.set_cons_succ]
        have h9 := st_2_01 ((wr.alloc (.cells #[.bool false, .slice none 0 0, .int .i64 0] 28))) A m c B m' c' wr.heap.size g1 HWn (Lib.hid (Fclo.out.belowW HX.out)) (Lib.hid (Fchi.out.belowW HX.out)) (Lib.hid (Blk.new _ _ _)) (Lib.hid HW.out.size) (Lib.hid (B1.out.belowW HX.out)) L1 (Nat.ne_of_gt B1.out.lt)
        rw [HG.out, HA0.out] at h9
        simp only [Act.put, List.setIfInBounds_toArray, List.set_cons_zero, List.set_cons_succ] at h9
        exact h9
      exact AllReadyH.nil
    have st_2_n : ∀ (wr : World) (A : Option Addr) (m : Nat) (c : Nat) (B : Option Addr) (m' : Nat) (c' : Nat), Hid (Below w2.heap.size w2 wr) → Hid (Sl wr A m c (limbs lo.k)) → Hid (Sl wr B m' c' (limbs hi.k)) → G 4 #[true, true, true, true, true, true, true, true, true, true, true, false, false, false, false] (((((A0.put (some 26) (.int .u64 (N : Int))).put (some 31) (.tuple #[.agg #[.bool lo.neg, .slice A m c, .int .i64 lo.e], .agg #[.bool hi.neg, .slice B m' c', .int .i64 hi.e]])).put (some 23) (.tuple #[.agg #[.bool lo.neg, .slice A m c, .int .i64 lo.e], .agg #[.bool hi.neg, .slice B m' c', .int .i64 hi.e]])).put (some 32) (.agg #[.bool lo.neg, .slice A m c, .int .i64 lo.e])).put (some 33) (.agg #[.bool hi.neg, .slice B m' c', .int .i64 hi.e])) wr := by
      intro wr A m c B m' c' HW Fclo Fchi
      rw [HG.out, HA0.out]
      simp only [Act.put, List.setIfInBounds_toArray, List.set_cons_zero, List.set_cons_succ]
      have Dk := Lib.hid (F2k.out.belowW HW.out)
      refine wpAnyH_ready (rs := [11, 12]) (by kernel_rfl) (by simp) ?_
      refine AllReadyH.cons rfl (fun K hK => ?_) ?_
      case refine_1 =>
        go_simp
        have HX := Lib.hid (below_a1 wr (.cells #[.bool false, .slice none 0 0, .int .i64 0] 28))
        have HWn := Lib.hid (HW.out.trans (HX.out.mono HW.out.size))
        refine hK.out _ _ ?_ (fun hHeld => ?_)
        case refine_1 =>
          have D2k := Lib.hid (F2k.out.belowW HWn.out)
          exact ⟨D2k.out.cell 0, D2k.out.cell 1⟩
        clear hK K
        simp only [List.setIfInBounds_toArray, List.set_cons_zero, List.set_cons_succ]
        have h9 := st_2_0 ((wr.alloc (.cells #[.bool false, .slice none 0 0, .int .i64 0] 28))) A m c B m' c' wr.heap.size HWn (Lib.hid (Fclo.out.belowW HX.out)) (Lib.hid (Fchi.out.belowW HX.out)) (Lib.hid (Blk.new _ _ _)) (Lib.hid HW.out.size)
        rw [HG.out, HA0.out] at h9
        simp only [Act.put, List.setIfInBounds_toArray, List.set_cons_zero, List.set_cons_succ] at h9
        exact h9
      refine AllReadyH.cons rfl (fun K hK => ?_) ?_
      case refine_1 =>
        go_simp
        have HX := Lib.hid (below_a1 wr (.cells #[.bool false, .slice none 0 0, .int .i64 0] 28))
        have HWn := Lib.hid (HW.out.trans (HX.out.mono HW.out.size))
        refine hK.out _ _ ?_ (fun hHeld => ?_)
        case refine_1 =>
          have D2k := Lib.hid (F2k.out.belowW HWn.out)
          exact ⟨D2k.out.cell 0, D2k.out.cell 1⟩
        clear hK K
        simp only [List.setIfInBounds_toArray, List.set_cons_zero, List.set_cons_succ]
        have h9 := st_2_1 ((wr.alloc (.cells #[.bool false, .slice none 0 0, .int .i64 0] 28))) A m c B m' c' wr.heap.size HWn (Lib.hid (Fclo.out.belowW HX.out)) (Lib.hid (Fchi.out.belowW HX.out)) (Lib.hid (Blk.new _ _ _)) (Lib.hid HW.out.size)
        rw [HG.out, HA0.out] at h9
        simp only [Act.put, List.setIfInBounds_toArray, List.set_cons_zero, List.set_cons_succ] at h9
        exact h9
      exact AllReadyH.nil
    have st_1_01 : ∀ (wr : World) (g0 : Nat) (g1 : Nat), Hid (Below w2.heap.size w2 wr) → Hid (Blk wr g0 28 #[.bool false, .slice none 0 0, .int .i64 0]) → Hid (w2.heap.size ≤ g0) → Hid (Blk wr g1 28 #[.bool false, .slice none 0 0, .int .i64 0]) → Hid (w2.heap.size ≤ g1) → g0 ≠ g1 → G 6 #[true, true, true, true, true, true, true, false, false, false, false, true, true, false, false] (((A0.put (some 26) (.int .u64 (N : Int))).put (some 5) (.pointer (some ⟨g0, 0, none⟩))).put (some 6) (.pointer (some ⟨g1, 0, none⟩))) wr := by
      intro wr g0 g1 HW B0 L0 B1 L1 n01
      rw [HG.out, HA0.out]
      simp only [Act.put, List.setIfInBounds_toArray, List.set_cons_zero, List.set_cons_succ]
      have Dk := Lib.hid (F2k.out.belowW HW.out)
      refine wpAnyH_ready (rs := [7]) (by kernel_rfl) (by simp) ?_
      refine AllReadyH.cons rfl (fun K hK => ?_) ?_
      case refine_1 =>
        go_simp
        (with_reducible refine (ends_r N k q _ n1 n2 k1 k2 q1 q2).mono ?_)
        rw [HLO.out, HHI.out]
        rintro e wn ⟨A, m, c, B, m', c', rfl, HS, HU, HX⟩
        go_wp2_with fail
        have HWn := Lib.hid (HW.out.trans (HX.out.mono HW.out.size))
        refine hK.out _ _ ?_ (fun hHeld => ?_)
        case refine_1 =>
          have D2k := Lib.hid (F2k.out.belowW HWn.out)
          exact ⟨D2k.out.cell 0, D2k.out.cell 1⟩
        clear hK K
        simp only [List.setIfInBounds_toArray, List.set_cons_zero, List.set_cons_succ]
        refine wpAnyH_take (i := 8) (oi := _) (v := ?_) rfl (by kernel_rfl) (by kernel_rfl) (by kernel_rfl) (fun _ _ _ h => h) (Or.inl ⟨by rfl, ?_⟩) (by assumption) ?_
        case refine_2 =>
          intro w9 hSw
          (try dsimp only at hSw)
          go_simp
          (try with_reducible rfl)
        simp only [Act.put, List.setIfInBounds_toArray, List.set_cons_zero, List.set_cons_succ, List.getElem_toArray, List.getElem_cons_zero, List.getElem_cons_succ]
        refine wpAnyH_take (i := 9) (oi := _) (v := ?_) rfl (by kernel_rfl) (by kernel_rfl) (by kernel_rfl) (fun _ _ _ h => h) (Or.inl ⟨by rfl, ?_⟩) (by assumption) ?_
        case refine_2 =>
          intro w9 hSw
          (try dsimp only at hSw)
          go_simp
          (try with_reducible rfl)
        simp only [Act.put, List.setIfInBounds_toArray, List.set_cons_zero, List.set_cons_succ, List.getElem_toArray, List.getElem_cons_zero, List.getElem_cons_succ]
        refine wpAnyH_take (i := 10) (oi := _) (v := ?_) rfl (by kernel_rfl) (by kernel_rfl) (by kernel_rfl) (fun _ _ _ h => h) (Or.inl ⟨by rfl, ?_⟩) (by assumption) ?_
        case refine_2 =>
          intro w9 hSw
          (try dsimp only at hSw)
          go_simp
          (try with_reducible rfl)
        simp only [Act.put, List.setIfInBounds_toArray, List.set_cons_zero, List.set_cons_succ, List.getElem_toArray, List.getElem_cons_zero, List.getElem_cons_succ]
        have h9 := st_2_01 wn A m c B m' c' g0 g1 HWn (Lib.hid (HS.out)) (Lib.hid (HU.out)) (Lib.hid (B0.out.belowW HX.out)) L0 (Lib.hid (B1.out.belowW HX.out)) L1 n01
        rw [HG.out, HA0.out] at h9
        simp only [Act.put, List.setIfInBounds_toArray, List.set_cons_zero, List.set_cons_succ] at h9
        exact h9
      exact AllReadyH.nil
    have st_1_0 : ∀ (wr : World) (g0 : Nat), Hid (Below w2.heap.size w2 wr) → Hid (Blk wr g0 28 #[.bool false, .slice none 0 0, .int .i64 0]) → Hid (w2.heap.size ≤ g0) → G 7 #[true, true, true, true, true, true, true, false, false, false, false, true, false, false, false] ((A0.put (some 26) (.int .u64 (N : Int))).put (some 5) (.pointer (some ⟨g0, 0, none⟩))) wr := by
      intro wr g0 HW B0 L0
      rw [HG.out, HA0.out]
      simp only [Act.put, List.setIfInBounds_toArray, List.set_cons_zero, List.set_cons_succ]
      have Dk := Lib.hid (F2k.out.belowW HW.out)
      refine wpAnyH_ready (rs := [7, 12]) (by kernel_rfl) (by simp) ?_
      refine AllReadyH.cons rfl (fun K hK => ?_) ?_
      case refine_1 =>
        go_simp
        (with_reducible refine (ends_r N k q _ n1 n2 k1 k2 q1 q2).mono ?_)
        rw [HLO.out, HHI.out]
        rintro e wn ⟨A, m, c, B, m', c', rfl, HS, HU, HX⟩
        go_wp2_with fail
        have HWn := Lib.hid (HW.out.trans (HX.out.mono HW.out.size))
        refine hK.out _ _ ?_ (fun hHeld => ?_)
        case refine_1 =>
          have D2k := Lib.hid (F2k.out.belowW HWn.out)
          exact ⟨D2k.out.cell 0, D2k.out.cell 1⟩
        clear hK K
        simp only [List.setIfInBounds_toArray, List.set_cons_zero, List.set_cons_succ]
        refine wpAnyH_take (i := 8) (oi := _) (v := ?_) rfl (by kernel_rfl) (by kernel_rfl) (by kernel_rfl) (fun _ _ _ h => h) (Or.inl ⟨by rfl, ?_⟩) (by assumption) ?_
        case refine_2 =>
          intro w9 hSw
          (try dsimp only at hSw)
          go_simp
          (try with_reducible rfl)
        simp only [Act.put, List.setIfInBounds_toArray, List.set_cons_zero, List.set_cons_succ, List.getElem_toArray, List.getElem_cons_zero, List.getElem_cons_succ]
        refine wpAnyH_take (i := 9) (oi := _) (v := ?_) rfl (by kernel_rfl) (by kernel_rfl) (by kernel_rfl) (fun _ _ _ h => h) (Or.inl ⟨by rfl, ?_⟩) (by assumption) ?_
        case refine_2 =>
          intro w9 hSw
          (try dsimp only at hSw)
          go_simp
          (try with_reducible rfl)
        simp only [Act.put, List.setIfInBounds_toArray, List.set_cons_zero, List.set_cons_succ, List.getElem_toArray, List.getElem_cons_zero, List.getElem_cons_succ]
        refine wpAnyH_take (i := 10) (oi := _) (v := ?_) rfl (by kernel_rfl) (by kernel_rfl) (by kernel_rfl) (fun _ _ _ h => h) (Or.inl ⟨by rfl, ?_⟩) (by assumption) ?_
        case refine_2 =>
          intro w9 hSw
          (try dsimp only at hSw)
          go_simp
          (try with_reducible rfl)
        simp only [Act.put, List.setIfInBounds_toArray, List.set_cons_zero, List.set_cons_succ, List.getElem_toArray, List.getElem_cons_zero, List.getElem_cons_succ]
        have h9 := st_2_0 wn A m c B m' c' g0 HWn (Lib.hid (HS.out)) (Lib.hid (HU.out)) (Lib.hid (B0.out.belowW HX.out)) L0
        rw [HG.out, HA0.out] at h9
        simp only [Act.put, List.setIfInBounds_toArray, List.set_cons_zero, List.set_cons_succ] at h9
        exact h9
      refine AllReadyH.cons rfl (fun K hK => ?_) ?_
      case refine_1 =>
        go_simp
        have HX := Lib.hid (below_a1 wr (.cells #[.bool false, .slice none 0 0, .int .i64 0] 28))
        have HWn := Lib.hid (HW.out.trans (HX.out.mono HW.out.size))
        refine hK.out _ _ ?_ (fun hHeld => ?_)
        case refine_1 =>
          have D2k := Lib.hid (F2k.out.belowW HWn.out)
          exact ⟨D2k.out.cell 0, D2k.out.cell 1⟩
        clear hK K
        simp only [List.setIfInBounds_toArray, List.set_cons_zero, List.set_cons_succ]
        have h9 := st_1_01 ((wr.alloc (.cells #[.bool false, .slice none 0 0, .int .i64 0] 28))) g0 wr.heap.size HWn (Lib.hid (B0.out.belowW HX.out)) L0 (Lib.hid (Blk.new _ _ _)) (Lib.hid HW.out.size) (Nat.ne_of_lt B0.out.lt)
        rw [HG.out, HA0.out] at h9
        simp only [Act.put, List.setIfInBounds_toArray, List.set_cons_zero, List.set_cons_succ] at h9
        exact h9
      exact AllReadyH.nil
    have st_1_1 : ∀ (wr : World) (g1 : Nat), Hid (Below w2.heap.size w2 wr) → Hid (Blk wr g1 28 #[.bool false, .slice none 0 0, .int .i64 0]) → Hid (w2.heap.size ≤ g1) → G 7 #[true, true, true, true, true, true, true, false, false, false, false, false, true, false, false] ((A0.put (some 26) (.int .u64 (N : Int))).put (some 6) (.pointer (some ⟨g1, 0, none⟩))) wr := by
      intro wr g1 HW B1 L1
      rw [HG.out, HA0.out]
      simp only [Act.put, List.setIfInBounds_toArray, List.set_cons_zero, List.set_cons_succ]
      have Dk := Lib.hid (F2k.out.belowW HW.out)
      refine wpAnyH_ready (rs := [7, 11]) (by kernel_rfl) (by simp) ?_
      refine AllReadyH.cons rfl (fun K hK => ?_) ?_
      case refine_1 =>
        go_simp
        (with_reducible refine (ends_r N k q _ n1 n2 k1 k2 q1 q2).mono ?_)
        rw [HLO.out, HHI.out]
        rintro e wn ⟨A, m, c, B, m', c', rfl, HS, HU, HX⟩
        go_wp2_with fail
        have HWn := Lib.hid (HW.out.trans (HX.out.mono HW.out.size))
        refine hK.out _ _ ?_ (fun hHeld => ?_)
        case refine_1 =>
          have D2k := Lib.hid (F2k.out.belowW HWn.out)
          exact ⟨D2k.out.cell 0, D2k.out.cell 1⟩
        clear hK K
        simp only [List.setIfInBounds_toArray, List.set_cons_zero, List.set_cons_succ]
        refine wpAnyH_take (i := 8) (oi := _) (v := ?_) rfl (by kernel_rfl) (by kernel_rfl) (by kernel_rfl) (fun _ _ _ h => h) (Or.inl ⟨by rfl, ?_⟩) (by assumption) ?_
        case refine_2 =>
          intro w9 hSw
          (try dsimp only at hSw)
          go_simp
          (try with_reducible rfl)
        simp only [Act.put, List.setIfInBounds_toArray, List.set_cons_zero, List.set_cons_succ, List.getElem_toArray, List.getElem_cons_zero, List.getElem_cons_succ]
        refine wpAnyH_take (i := 9) (oi := _) (v := ?_) rfl (by kernel_rfl) (by kernel_rfl) (by kernel_rfl) (fun _ _ _ h => h) (Or.inl ⟨by rfl, ?_⟩) (by assumption) ?_
        case refine_2 =>
          intro w9 hSw
          (try dsimp only at hSw)
          go_simp
          (try with_reducible rfl)
        simp only [Act.put, List.setIfInBounds_toArray, List.set_cons_zero, List.set_cons_succ, List.getElem_toArray, List.getElem_cons_zero, List.getElem_cons_succ]
        refine wpAnyH_take (i := 10) (oi := _) (v := ?_) rfl (by kernel_rfl) (by kernel_rfl) (by kernel_rfl) (fun _ _ _ h => h) (Or.inl ⟨by rfl, ?_⟩) (by assumption) ?_
        case refine_2 =>
          intro w9 hSw
          (try dsimp only at hSw)
          go_simp
          (try with_reducible rfl)
        simp only [Act.put, List.setIfInBounds_toArray, List.set_cons_zero, List.set_cons_succ, List.getElem_toArray, List.getElem_cons_zero, List.getElem_cons_succ]
        have h9 := st_2_1 wn A m c B m' c' g1 HWn (Lib.hid (HS.out)) (Lib.hid (HU.out)) (Lib.hid (B1.out.belowW HX.out)) L1
        rw [HG.out, HA0.out] at h9
        simp only [Act.put, List.setIfInBounds_toArray, List.set_cons_zero, List.set_cons_succ] at h9
        exact h9
      refine AllReadyH.cons rfl (fun K hK => ?_) ?_
      case refine_1 =>
        go_simp
        have HX := Lib.hid (below_a1 wr (.cells #[.bool false, .slice none 0 0, .int .i64 0] 28))
        have HWn := Lib.hid (HW.out.trans (HX.out.mono HW.out.size))
        refine hK.out _ _ ?_ (fun hHeld => ?_)
        case refine_1 =>
          have D2k := Lib.hid (F2k.out.belowW HWn.out)
          exact ⟨D2k.out.cell 0, D2k.out.cell 1⟩
        clear hK K
        simp only [List.setIfInBounds_toArray, List.set_cons_zero, List.set_cons_succ]
        have h9 := st_1_01 ((wr.alloc (.cells #[.bool false, .slice none 0 0, .int .i64 0] 28))) wr.heap.size g1 HWn (Lib.hid (Blk.new _ _ _)) (Lib.hid HW.out.size) (Lib.hid (B1.out.belowW HX.out)) L1 (Nat.ne_of_gt B1.out.lt)
        rw [HG.out, HA0.out] at h9
        simp only [Act.put, List.setIfInBounds_toArray, List.set_cons_zero, List.set_cons_succ] at h9
        exact h9
      exact AllReadyH.nil
    have st_1_n : ∀ (wr : World), Hid (Below w2.heap.size w2 wr) → G 8 #[true, true, true, true, true, true, true, false, false, false, false, false, false, false, false] (A0.put (some 26) (.int .u64 (N : Int))) wr := by
      intro wr HW
      rw [HG.out, HA0.out]
      simp only [Act.put, List.setIfInBounds_toArray, List.set_cons_zero, List.set_cons_succ]
      have Dk := Lib.hid (F2k.out.belowW HW.out)
      refine wpAnyH_ready (rs := [7, 11, 12]) (by kernel_rfl) (by simp) ?_
      refine AllReadyH.cons rfl (fun K hK => ?_) ?_
      case refine_1 =>
        go_simp
        (with_reducible refine (ends_r N k q _ n1 n2 k1 k2 q1 q2).mono ?_)
        rw [HLO.out, HHI.out]
        rintro e wn ⟨A, m, c, B, m', c', rfl, HS, HU, HX⟩
        go_wp2_with fail
        have HWn := Lib.hid (HW.out.trans (HX.out.mono HW.out.size))
        refine hK.out _ _ ?_ (fun hHeld => ?_)
        case refine_1 =>
          have D2k := Lib.hid (F2k.out.belowW HWn.out)
          exact ⟨D2k.out.cell 0, D2k.out.cell 1⟩
        clear hK K
        simp only [List.setIfInBounds_toArray, List.set_cons_zero, List.set_cons_succ]
        refine wpAnyH_take (i := 8) (oi := _) (v := ?_) rfl (by kernel_rfl) (by kernel_rfl) (by kernel_rfl) (fun _ _ _ h => h) (Or.inl ⟨by rfl, ?_⟩) (by assumption) ?_
        case refine_2 =>
          intro w9 hSw
          (try dsimp only at hSw)
          go_simp
          (try with_reducible rfl)
        simp only [Act.put, List.setIfInBounds_toArray, List.set_cons_zero, List.set_cons_succ, List.getElem_toArray, List.getElem_cons_zero, List.getElem_cons_succ]
        refine wpAnyH_take (i := 9) (oi := _) (v := ?_) rfl (by kernel_rfl) (by kernel_rfl) (by kernel_rfl) (fun _ _ _ h => h) (Or.inl ⟨by rfl, ?_⟩) (by assumption) ?_
        case refine_2 =>
          intro w9 hSw
          (try dsimp only at hSw)
          go_simp
          (try with_reducible rfl)
        simp only [Act.put, List.setIfInBounds_toArray, List.set_cons_zero, List.set_cons_succ, List.getElem_toArray, List.getElem_cons_zero, List.getElem_cons_succ]
        refine wpAnyH_take (i := 10) (oi := _) (v := ?_) rfl (by kernel_rfl) (by kernel_rfl) (by kernel_rfl) (fun _ _ _ h => h) (Or.inl ⟨by rfl, ?_⟩) (by assumption) ?_
        case refine_2 =>
          intro w9 hSw
          (try dsimp only at hSw)
          go_simp
          (try with_reducible rfl)
        simp only [Act.put, List.setIfInBounds_toArray, List.set_cons_zero, List.set_cons_succ, List.getElem_toArray, List.getElem_cons_zero, List.getElem_cons_succ]
        have h9 := st_2_n wn A m c B m' c' HWn (Lib.hid (HS.out)) (Lib.hid (HU.out))
        rw [HG.out, HA0.out] at h9
        simp only [Act.put, List.setIfInBounds_toArray, List.set_cons_zero, List.set_cons_succ] at h9
        exact h9
      refine AllReadyH.cons rfl (fun K hK => ?_) ?_
      case refine_1 =>
        go_simp
        have HX := Lib.hid (below_a1 wr (.cells #[.bool false, .slice none 0 0, .int .i64 0] 28))
        have HWn := Lib.hid (HW.out.trans (HX.out.mono HW.out.size))
        refine hK.out _ _ ?_ (fun hHeld => ?_)
        case refine_1 =>
          have D2k := Lib.hid (F2k.out.belowW HWn.out)
          exact ⟨D2k.out.cell 0, D2k.out.cell 1⟩
        clear hK K
        simp only [List.setIfInBounds_toArray, List.set_cons_zero, List.set_cons_succ]
        have h9 := st_1_0 ((wr.alloc (.cells #[.bool false, .slice none 0 0, .int .i64 0] 28))) wr.heap.size HWn (Lib.hid (Blk.new _ _ _)) (Lib.hid HW.out.size)
        rw [HG.out, HA0.out] at h9
        simp only [Act.put, List.setIfInBounds_toArray, List.set_cons_zero, List.set_cons_succ] at h9
        exact h9
      refine AllReadyH.cons rfl (fun K hK => ?_) ?_
      case refine_1 =>
        go_simp
        have HX := Lib.hid (below_a1 wr (.cells #[.bool false, .slice none 0 0, .int .i64 0] 28))
        have HWn := Lib.hid (HW.out.trans (HX.out.mono HW.out.size))
        refine hK.out _ _ ?_ (fun hHeld => ?_)
        case refine_1 =>
          have D2k := Lib.hid (F2k.out.belowW HWn.out)
          exact ⟨D2k.out.cell 0, D2k.out.cell 1⟩
        clear hK K
        simp only [List.setIfInBounds_toArray, List.set_cons_zero, List.set_cons_succ]
        have h9 := st_1_1 ((wr.alloc (.cells #[.bool false, .slice none 0 0, .int .i64 0] 28))) wr.heap.size HWn (Lib.hid (Blk.new _ _ _)) (Lib.hid HW.out.size)
        rw [HG.out, HA0.out] at h9
        simp only [Act.put, List.setIfInBounds_toArray, List.set_cons_zero, List.set_cons_succ] at h9
        exact h9
      exact AllReadyH.nil
    have st_0_01 : ∀ (wr : World) (g0 : Nat) (g1 : Nat), Hid (Below w2.heap.size w2 wr) → Hid (Blk wr g0 28 #[.bool false, .slice none 0 0, .int .i64 0]) → Hid (w2.heap.size ≤ g0) → Hid (Blk wr g1 28 #[.bool false, .slice none 0 0, .int .i64 0]) → Hid (w2.heap.size ≤ g1) → g0 ≠ g1 → G 7 #[true, true, false, true, true, true, true, false, false, false, false, true, true, false, false] ((A0.put (some 5) (.pointer (some ⟨g0, 0, none⟩))).put (some 6) (.pointer (some ⟨g1, 0, none⟩))) wr := by
      intro wr g0 g1 HW B0 L0 B1 L1 n01
      rw [HG.out, HA0.out]
      simp only [Act.put, List.setIfInBounds_toArray, List.set_cons_zero, List.set_cons_succ]
      have Dk := Lib.hid (F2k.out.belowW HW.out)
      refine wpAnyH_ready (rs := [2]) (by kernel_rfl) (by simp) ?_
      refine AllReadyH.cons rfl (fun K hK => ?_) ?_
      case refine_1 =>
        go_simp
        (with_reducible refine (size_r n _ h1 h2).mono ?_)
        rw [HN.out]
        rintro e wn ⟨rfl, hr⟩
        have HX := Lib.hid (show Below wr.heap.size wr wn by rw [← hr]; exact Below.refl _ _)
        clear hr
        go_wp2_with fail
        have HWn := Lib.hid (HW.out.trans (HX.out.mono HW.out.size))
        refine hK.out _ _ ?_ (fun hHeld => ?_)
        case refine_1 =>
          have D2k := Lib.hid (F2k.out.belowW HWn.out)
          exact ⟨D2k.out.cell 0, D2k.out.cell 1⟩
        clear hK K
        simp only [List.setIfInBounds_toArray, List.set_cons_zero, List.set_cons_succ]
        have h9 := st_1_01 wn g0 g1 HWn (Lib.hid (B0.out.belowW HX.out)) L0 (Lib.hid (B1.out.belowW HX.out)) L1 n01
        rw [HG.out, HA0.out] at h9
        simp only [Act.put, List.setIfInBounds_toArray, List.set_cons_zero, List.set_cons_succ] at h9
        exact h9
      exact AllReadyH.nil
    have st_0_0 : ∀ (wr : World) (g0 : Nat), Hid (Below w2.heap.size w2 wr) → Hid (Blk wr g0 28 #[.bool false, .slice none 0 0, .int .i64 0]) → Hid (w2.heap.size ≤ g0) → G 8 #[true, true, false, true, true, true, true, false, false, false, false, true, false, false, false] (A0.put (some 5) (.pointer (some ⟨g0, 0, none⟩))) wr := by
      intro wr g0 HW B0 L0
      rw [HG.out, HA0.out]
      simp only [Act.put, List.setIfInBounds_toArray, List.set_cons_zero, List.set_cons_succ]
      have Dk := Lib.hid (F2k.out.belowW HW.out)
      refine wpAnyH_ready (rs := [2, 12]) (by kernel_rfl) (by simp) ?_
      refine AllReadyH.cons rfl (fun K hK => ?_) ?_
      case refine_1 =>
        go_simp
        (with_reducible refine (size_r n _ h1 h2).mono ?_)
        rw [HN.out]
        rintro e wn ⟨rfl, hr⟩
        have HX := Lib.hid (show Below wr.heap.size wr wn by rw [← hr]; exact Below.refl _ _)
        clear hr
        go_wp2_with fail
        have HWn := Lib.hid (HW.out.trans (HX.out.mono HW.out.size))
        refine hK.out _ _ ?_ (fun hHeld => ?_)
        case refine_1 =>
          have D2k := Lib.hid (F2k.out.belowW HWn.out)
          exact ⟨D2k.out.cell 0, D2k.out.cell 1⟩
        clear hK K
        simp only [List.setIfInBounds_toArray, List.set_cons_zero, List.set_cons_succ]
        have h9 := st_1_0 wn g0 HWn (Lib.hid (B0.out.belowW HX.out)) L0
        rw [HG.out, HA0.out] at h9
        simp only [Act.put, List.setIfInBounds_toArray, List.set_cons_zero, List.set_cons_succ] at h9
        exact h9
      refine AllReadyH.cons rfl (fun K hK => ?_) ?_
      case refine_1 =>
        go_simp
        have HX := Lib.hid (below_a1 wr (.cells #[.bool false, .slice none 0 0, .int .i64 0] 28))
        have HWn := Lib.hid (HW.out.trans (HX.out.mono HW.out.size))
        refine hK.out _ _ ?_ (fun hHeld => ?_)
        case refine_1 =>
          have D2k := Lib.hid (F2k.out.belowW HWn.out)
          exact ⟨D2k.out.cell 0, D2k.out.cell 1⟩
        clear hK K
        simp only [List.setIfInBounds_toArray, List.set_cons_zero, List.set_cons_succ]
        have h9 := st_0_01 ((wr.alloc (.cells #[.bool false, .slice none 0 0, .int .i64 0] 28))) g0 wr.heap.size HWn (Lib.hid (B0.out.belowW HX.out)) L0 (Lib.hid (Blk.new _ _ _)) (Lib.hid HW.out.size) (Nat.ne_of_lt B0.out.lt)
        rw [HG.out, HA0.out] at h9
        simp only [Act.put, List.setIfInBounds_toArray, List.set_cons_zero, List.set_cons_succ] at h9
        exact h9
      exact AllReadyH.nil
    have st_0_1 : ∀ (wr : World) (g1 : Nat), Hid (Below w2.heap.size w2 wr) → Hid (Blk wr g1 28 #[.bool false, .slice none 0 0, .int .i64 0]) → Hid (w2.heap.size ≤ g1) → G 8 #[true, true, false, true, true, true, true, false, false, false, false, false, true, false, false] (A0.put (some 6) (.pointer (some ⟨g1, 0, none⟩))) wr := by
      intro wr g1 HW B1 L1
      rw [HG.out, HA0.out]
      simp only [Act.put, List.setIfInBounds_toArray, List.set_cons_zero, List.set_cons_succ]
      have Dk := Lib.hid (F2k.out.belowW HW.out)
      refine wpAnyH_ready (rs := [2, 11]) (by kernel_rfl) (by simp) ?_
      refine AllReadyH.cons rfl (fun K hK => ?_) ?_
      case refine_1 =>
        go_simp
        (with_reducible refine (size_r n _ h1 h2).mono ?_)
        rw [HN.out]
        rintro e wn ⟨rfl, hr⟩
        have HX := Lib.hid (show Below wr.heap.size wr wn by rw [← hr]; exact Below.refl _ _)
        clear hr
        go_wp2_with fail
        have HWn := Lib.hid (HW.out.trans (HX.out.mono HW.out.size))
        refine hK.out _ _ ?_ (fun hHeld => ?_)
        case refine_1 =>
          have D2k := Lib.hid (F2k.out.belowW HWn.out)
          exact ⟨D2k.out.cell 0, D2k.out.cell 1⟩
        clear hK K
        simp only [List.setIfInBounds_toArray, List.set_cons_zero, List.set_cons_succ]
        have h9 := st_1_1 wn g1 HWn (Lib.hid (B1.out.belowW HX.out)) L1
        rw [HG.out, HA0.out] at h9
        simp only [Act.put, List.setIfInBounds_toArray, List.set_cons_zero, List.set_cons_succ] at h9
        exact h9
      refine AllReadyH.cons rfl (fun K hK => ?_) ?_
      case refine_1 =>
        go_simp
        have HX := Lib.hid (below_a1 wr (.cells #[.bool false, .slice none 0 0, .int .i64 0] 28))
        have HWn := Lib.hid (HW.out.trans (HX.out.mono HW.out.size))
        refine hK.out _ _ ?_ (fun hHeld => ?_)
        case refine_1 =>
          have D2k := Lib.hid (F2k.out.belowW HWn.out)
          exact ⟨D2k.out.cell 0, D2k.out.cell 1⟩
        clear hK K
        simp only [List.setIfInBounds_toArray, List.set_cons_zero, List.set_cons_succ]
        have h9 := st_0_01 ((wr.alloc (.cells #[.bool false, .slice none 0 0, .int .i64 0] 28))) wr.heap.size g1 HWn (Lib.hid (Blk.new _ _ _)) (Lib.hid HW.out.size) (Lib.hid (B1.out.belowW HX.out)) L1 (Nat.ne_of_gt B1.out.lt)
        rw [HG.out, HA0.out] at h9
        simp only [Act.put, List.setIfInBounds_toArray, List.set_cons_zero, List.set_cons_succ] at h9
        exact h9
      exact AllReadyH.nil
    have st_0_n : ∀ (wr : World), Hid (Below w2.heap.size w2 wr) → G 9 #[true, true, false, true, true, true, true, false, false, false, false, false, false, false, false] A0 wr := by
      intro wr HW
      rw [HG.out, HA0.out]
      have Dk := Lib.hid (F2k.out.belowW HW.out)
      refine wpAnyH_ready (rs := [2, 11, 12]) (by kernel_rfl) (by simp) ?_
      refine AllReadyH.cons rfl (fun K hK => ?_) ?_
      case refine_1 =>
        go_simp
        (with_reducible refine (size_r n _ h1 h2).mono ?_)
        rw [HN.out]
        rintro e wn ⟨rfl, hr⟩
        have HX := Lib.hid (show Below wr.heap.size wr wn by rw [← hr]; exact Below.refl _ _)
        clear hr
        go_wp2_with fail
        have HWn := Lib.hid (HW.out.trans (HX.out.mono HW.out.size))
        refine hK.out _ _ ?_ (fun hHeld => ?_)
        case refine_1 =>
          have D2k := Lib.hid (F2k.out.belowW HWn.out)
          exact ⟨D2k.out.cell 0, D2k.out.cell 1⟩
        clear hK K
        simp only [List.setIfInBounds_toArray, List.set_cons_zero, List.set_cons_succ]
        have h9 := st_1_n wn HWn
        rw [HG.out, HA0.out] at h9
        simp only [Act.put, List.setIfInBounds_toArray, List.set_cons_zero, List.set_cons_succ] at h9
        exact h9
      refine AllReadyH.cons rfl (fun K hK => ?_) ?_
      case refine_1 =>
        go_simp
        have HX := Lib.hid (below_a1 wr (.cells #[.bool false, .slice none 0 0, .int .i64 0] 28))
        have HWn := Lib.hid (HW.out.trans (HX.out.mono HW.out.size))
        refine hK.out _ _ ?_ (fun hHeld => ?_)
        case refine_1 =>
          have D2k := Lib.hid (F2k.out.belowW HWn.out)
          exact ⟨D2k.out.cell 0, D2k.out.cell 1⟩
        clear hK K
        simp only [List.setIfInBounds_toArray, List.set_cons_zero, List.set_cons_succ]
        have h9 := st_0_0 ((wr.alloc (.cells #[.bool false, .slice none 0 0, .int .i64 0] 28))) wr.heap.size HWn (Lib.hid (Blk.new _ _ _)) (Lib.hid HW.out.size)
        rw [HG.out, HA0.out] at h9
        simp only [Act.put, List.setIfInBounds_toArray, List.set_cons_zero, List.set_cons_succ] at h9
        exact h9
      refine AllReadyH.cons rfl (fun K hK => ?_) ?_
      case refine_1 =>
        go_simp
        have HX := Lib.hid (below_a1 wr (.cells #[.bool false, .slice none 0 0, .int .i64 0] 28))
        have HWn := Lib.hid (HW.out.trans (HX.out.mono HW.out.size))
        refine hK.out _ _ ?_ (fun hHeld => ?_)
        case refine_1 =>
          have D2k := Lib.hid (F2k.out.belowW HWn.out)
          exact ⟨D2k.out.cell 0, D2k.out.cell 1⟩
        clear hK K
        simp only [List.setIfInBounds_toArray, List.set_cons_zero, List.set_cons_succ]
        have h9 := st_0_1 ((wr.alloc (.cells #[.bool false, .slice none 0 0, .int .i64 0] 28))) wr.heap.size HWn (Lib.hid (Blk.new _ _ _)) (Lib.hid HW.out.size)
        rw [HG.out, HA0.out] at h9
        simp only [Act.put, List.setIfInBounds_toArray, List.set_cons_zero, List.set_cons_succ] at h9
        exact h9
      exact AllReadyH.nil
    have h9 := st_0_n _ HR3
    rw [HG.out, HA0.out] at h9 ⊢
    exact h9
  case rest =>
    obtain ⟨ga, gb, A, m, c, B, m', c', rfl, rfl, FA, FB, FS, FU, HGA, HGB, HQQ⟩ := hcut
    obtain ⟨w4, hw⟩ : ∃ z9 : World, z9 = wc := ⟨_, rfl⟩
    rw [← hw] at FA FB FS FU HQQ ⊢
    clear hw
    have F4k := Lib.hid (F2k.out.belowW HQQ.out)
    have F4r := Lib.hid (F2r.out.belowW HQQ.out)
    have HL4 := Lib.hid (HL2.out.trans (HQQ.out.mono HL2.out.size))
    have pk0 : (w4).cell? ⟨w.heap.size, 0, none⟩ = some (.int .i64 n) := F4k.out.cell 0
    have fk0 : (w4).frozen? ⟨w.heap.size, 0, none⟩ = false := F4k.out.frozen 0
    have pk1 : (w4).cell? ⟨w.heap.size, 1, none⟩ = some (.int .i64 k) := F4k.out.cell 1
    have fk1 : (w4).frozen? ⟨w.heap.size, 1, none⟩ = false := F4k.out.frozen 1
    go_wp2_with fail
    clear pk0 fk0 pk1 fk1
    have hnga : ga ≠ w.heap.size + 1 := by have h1 := HGA.out; have h2 := F2r.out.lt; omega
    have hngb : gb ≠ w.heap.size + 1 := by have h1 := HGB.out; have h2 := F2r.out.lt; omega
    have HR5 := Lib.hid (below_dr w4)
    have R5k := Lib.hid (F4k.out.belowW HR5.out)
    have R5r := Lib.hid (F4r.out.belowW HR5.out)
    have R5va := Lib.hid (FA.out.belowW HR5.out)
    have R5vb := Lib.hid (FB.out.belowW HR5.out)
    have R5sa := Lib.hid (FS.out.belowW HR5.out)
    have R5sb := Lib.hid (FU.out.belowW HR5.out)
    have c5va0 : w4.drew.cell? ⟨ga, 0, none⟩ = some (.bool lo.neg) := R5va.out.cell 0
    have c5va1 : w4.drew.cell? ⟨ga, 1, none⟩ = some (.slice A m c) := R5va.out.cell 1
    have c5va2 : w4.drew.cell? ⟨ga, 2, none⟩ = some (.int .i64 lo.e) := R5va.out.cell 2
    have c5vb0 : w4.drew.cell? ⟨gb, 0, none⟩ = some (.bool hi.neg) := R5vb.out.cell 0
    have c5vb1 : w4.drew.cell? ⟨gb, 1, none⟩ = some (.slice B m' c') := R5vb.out.cell 1
    have c5vb2 : w4.drew.cell? ⟨gb, 2, none⟩ = some (.int .i64 hi.e) := R5vb.out.cell 2
    go_region_held3 (fun w' => w'.cell? ⟨ga, 0, none⟩ = some (.bool lo.neg) ∧ w'.cell? ⟨ga, 1, none⟩ = some (.slice A m c) ∧ w'.cell? ⟨ga, 2, none⟩ = some (.int .i64 lo.e) ∧ w'.cell? ⟨gb, 0, none⟩ = some (.bool hi.neg) ∧ w'.cell? ⟨gb, 1, none⟩ = some (.slice B m' c') ∧ w'.cell? ⟨gb, 2, none⟩ = some (.int .i64 hi.e)) ((with_reducible refine ⟨?_, ?_, ?_, ?_, ?_, ?_⟩) <;> (with_reducible assumption)) (first
      | (go_at_call_of 52 (Value.agg #[.bool hi.neg, .slice B m' c', .int .i64 hi.e])
         (with_reducible refine (negative_r hi B m' c' _ R5sb.out KHI.out).mono ?_)
         rintro e w6 ⟨P1, p1, p2, rfl, HP, HC6⟩
         have R6k := Lib.hid (R5k.out.belowW HC6.out)
         have R6r := Lib.hid (R5r.out.belowW HC6.out)
         have R6va := Lib.hid (R5va.out.belowW HC6.out)
         have R6vb := Lib.hid (R5vb.out.belowW HC6.out)
         have R6sa := Lib.hid (R5sa.out.belowW HC6.out)
         have R6sb := Lib.hid (R5sb.out.belowW HC6.out)
         have HR6 := Lib.hid (HR5.out.trans (HC6.out.mono HR5.out.size))
         have R6p := Lib.hid (HP.out)
         have c6va0 : w6.cell? ⟨ga, 0, none⟩ = some (.bool lo.neg) := R6va.out.cell 0
         have c6va1 : w6.cell? ⟨ga, 1, none⟩ = some (.slice A m c) := R6va.out.cell 1
         have c6va2 : w6.cell? ⟨ga, 2, none⟩ = some (.int .i64 lo.e) := R6va.out.cell 2
         have c6vb0 : w6.cell? ⟨gb, 0, none⟩ = some (.bool hi.neg) := R6vb.out.cell 0
         have c6vb1 : w6.cell? ⟨gb, 1, none⟩ = some (.slice B m' c') := R6vb.out.cell 1
         have c6vb2 : w6.cell? ⟨gb, 2, none⟩ = some (.int .i64 hi.e) := R6vb.out.cell 2)
      | (go_at_call_of 52 (Value.agg #[.bool lo.neg, .slice A m c, .int .i64 lo.e])
         (with_reducible refine (negative_r lo A m c _ R6sa.out KLO.out).mono ?_)
         rintro e w7 ⟨U1, u1, u2, rfl, HU, HC7⟩
         have R7k := Lib.hid (R6k.out.belowW HC7.out)
         have R7r := Lib.hid (R6r.out.belowW HC7.out)
         have R7va := Lib.hid (R6va.out.belowW HC7.out)
         have R7vb := Lib.hid (R6vb.out.belowW HC7.out)
         have R7sa := Lib.hid (R6sa.out.belowW HC7.out)
         have R7sb := Lib.hid (R6sb.out.belowW HC7.out)
         have R7p := Lib.hid (R6p.out.belowW HC7.out)
         have HR7 := Lib.hid (HR6.out.trans (HC7.out.mono HR6.out.size))
         have R7u := Lib.hid (HU.out)
         have c7va0 : w7.cell? ⟨ga, 0, none⟩ = some (.bool lo.neg) := R7va.out.cell 0
         have c7va1 : w7.cell? ⟨ga, 1, none⟩ = some (.slice A m c) := R7va.out.cell 1
         have c7va2 : w7.cell? ⟨ga, 2, none⟩ = some (.int .i64 lo.e) := R7va.out.cell 2
         have c7vb0 : w7.cell? ⟨gb, 0, none⟩ = some (.bool hi.neg) := R7vb.out.cell 0
         have c7vb1 : w7.cell? ⟨gb, 1, none⟩ = some (.slice B m' c') := R7vb.out.cell 1
         have c7vb2 : w7.cell? ⟨gb, 2, none⟩ = some (.int .i64 hi.e) := R7vb.out.cell 2
         have pr0 : w7.cell? ⟨w.heap.size + 1, 0, none⟩ = some (.bool false) := R7r.out.cell 0
         have fr0 : w7.frozen? ⟨w.heap.size + 1, 0, none⟩ = false := R7r.out.frozen 0
         have pr1 : w7.cell? ⟨w.heap.size + 1, 1, none⟩ = some (.slice none 0 0) := R7r.out.cell 1
         have fr1 : w7.frozen? ⟨w.heap.size + 1, 1, none⟩ = false := R7r.out.frozen 1
         have pr2 : w7.cell? ⟨w.heap.size + 1, 2, none⟩ = some (.int .i64 0) := R7r.out.cell 2
         have fr2 : w7.frozen? ⟨w.heap.size + 1, 2, none⟩ = false := R7r.out.frozen 2
         have pr3 : w7.cell? ⟨w.heap.size + 1, 3, none⟩ = some (.bool false) := R7r.out.cell 3
         have fr3 : w7.frozen? ⟨w.heap.size + 1, 3, none⟩ = false := R7r.out.frozen 3
         have pr4 : w7.cell? ⟨w.heap.size + 1, 4, none⟩ = some (.slice none 0 0) := R7r.out.cell 4
         have fr4 : w7.frozen? ⟨w.heap.size + 1, 4, none⟩ = false := R7r.out.frozen 4
         have pr5 : w7.cell? ⟨w.heap.size + 1, 5, none⟩ = some (.int .i64 0) := R7r.out.cell 5
         have fr5 : w7.frozen? ⟨w.heap.size + 1, 5, none⟩ = false := R7r.out.frozen 5
         have pr6 : w7.cell? ⟨w.heap.size + 1, 6, none⟩ = some (.bool false) := R7r.out.cell 6
         have fr6 : w7.frozen? ⟨w.heap.size + 1, 6, none⟩ = false := R7r.out.frozen 6
         have sva0 := store7_far R7r.out (show w7.cell? ⟨ga, 0, none⟩ = some (.bool lo.neg) from R7va.out.cell 0) hnga (.bool !hi.neg) (.slice P1 p1 p2) (.int .i64 hi.e) (.bool !lo.neg) (.slice U1 u1 u2) (.int .i64 lo.e) (.bool false)
         have sva1 := store7_far R7r.out (show w7.cell? ⟨ga, 1, none⟩ = some (.slice A m c) from R7va.out.cell 1) hnga (.bool !hi.neg) (.slice P1 p1 p2) (.int .i64 hi.e) (.bool !lo.neg) (.slice U1 u1 u2) (.int .i64 lo.e) (.bool false)
         have sva2 := store7_far R7r.out (show w7.cell? ⟨ga, 2, none⟩ = some (.int .i64 lo.e) from R7va.out.cell 2) hnga (.bool !hi.neg) (.slice P1 p1 p2) (.int .i64 hi.e) (.bool !lo.neg) (.slice U1 u1 u2) (.int .i64 lo.e) (.bool false)
         have svb0 := store7_far R7r.out (show w7.cell? ⟨gb, 0, none⟩ = some (.bool hi.neg) from R7vb.out.cell 0) hngb (.bool !hi.neg) (.slice P1 p1 p2) (.int .i64 hi.e) (.bool !lo.neg) (.slice U1 u1 u2) (.int .i64 lo.e) (.bool false)
         have svb1 := store7_far R7r.out (show w7.cell? ⟨gb, 1, none⟩ = some (.slice B m' c') from R7vb.out.cell 1) hngb (.bool !hi.neg) (.slice P1 p1 p2) (.int .i64 hi.e) (.bool !lo.neg) (.slice U1 u1 u2) (.int .i64 lo.e) (.bool false)
         have svb2 := store7_far R7r.out (show w7.cell? ⟨gb, 2, none⟩ = some (.int .i64 hi.e) from R7vb.out.cell 2) hngb (.bool !hi.neg) (.slice P1 p1 p2) (.int .i64 hi.e) (.bool !lo.neg) (.slice U1 u1 u2) (.int .i64 lo.e) (.bool false)))
    have HL7 := Lib.hid (HL4.out.trans (HR7.out.mono HL4.out.size))
    go_wp2_with fail
    rw [store7_put R7r.out]
    have FR9 := Lib.hid (R7r.out.put #[.bool !hi.neg, .slice P1 p1 p2, .int .i64 hi.e, .bool !lo.neg, .slice U1 u1 u2, .int .i64 lo.e, .bool false])
    have HL9 := Lib.hid (HL7.out.trans (putB_below w7 _ 30 #[.bool !hi.neg, .slice P1 p1 p2, .int .i64 hi.e, .bool !lo.neg, .slice U1 u1 u2, .int .i64 lo.e, .bool false] (by omega : w.heap.size ≤ w.heap.size + 1)))
    have G9 := putB_grown w7 (w.heap.size + 1) 30 #[.bool !hi.neg, .slice P1 p1 p2, .int .i64 hi.e, .bool !lo.neg, .slice U1 u1 u2, .int .i64 lo.e, .bool false]
    have S90 := Lib.hid (R7p.out.far R7r.out noU7 G9)
    have S91 := Lib.hid (R7u.out.far R7r.out noU7 G9)
    clear G9 pr0 fr0 pr1 fr1 pr2 fr2 pr3 fr3 pr4 fr4 pr5 fr5 pr6 fr6
    obtain ⟨w9, hw⟩ : ∃ z9 : World, z9 = putB w7 (w.heap.size + 1) 30 #[.bool !hi.neg, .slice P1 p1 p2, .int .i64 hi.e, .bool !lo.neg, .slice U1 u1 u2, .int .i64 lo.e, .bool false] := ⟨_, rfl⟩
    rw [← hw] at FR9 HL9 S90 S91 ⊢
    clear hw
    have pr0 : (w9).cell? ⟨w.heap.size + 1, 0, none⟩ = some (.bool !hi.neg) := FR9.out.cell 0
    have fr0 : (w9).frozen? ⟨w.heap.size + 1, 0, none⟩ = false := FR9.out.frozen 0
    have pr1 : (w9).cell? ⟨w.heap.size + 1, 1, none⟩ = some (.slice P1 p1 p2) := FR9.out.cell 1
    have fr1 : (w9).frozen? ⟨w.heap.size + 1, 1, none⟩ = false := FR9.out.frozen 1
    have pr2 : (w9).cell? ⟨w.heap.size + 1, 2, none⟩ = some (.int .i64 hi.e) := FR9.out.cell 2
    have fr2 : (w9).frozen? ⟨w.heap.size + 1, 2, none⟩ = false := FR9.out.frozen 2
    have pr3 : (w9).cell? ⟨w.heap.size + 1, 3, none⟩ = some (.bool !lo.neg) := FR9.out.cell 3
    have fr3 : (w9).frozen? ⟨w.heap.size + 1, 3, none⟩ = false := FR9.out.frozen 3
    have pr4 : (w9).cell? ⟨w.heap.size + 1, 4, none⟩ = some (.slice U1 u1 u2) := FR9.out.cell 4
    have fr4 : (w9).frozen? ⟨w.heap.size + 1, 4, none⟩ = false := FR9.out.frozen 4
    have pr5 : (w9).cell? ⟨w.heap.size + 1, 5, none⟩ = some (.int .i64 lo.e) := FR9.out.cell 5
    have fr5 : (w9).frozen? ⟨w.heap.size + 1, 5, none⟩ = false := FR9.out.frozen 5
    have pr6 : (w9).cell? ⟨w.heap.size + 1, 6, none⟩ = some (.bool false) := FR9.out.cell 6
    have fr6 : (w9).frozen? ⟨w.heap.size + 1, 6, none⟩ = false := FR9.out.frozen 6
    refine bodyPost_ret (v := .agg #[.bool !hi.neg, .slice P1 p1 p2, .int .i64 hi.e, .bool !lo.neg, .slice U1 u1 u2, .int .i64 lo.e, .bool false]) (by simp [results, Tryz.results16, go_sem, pr0, pr1, pr2, pr3, pr4, pr5, pr6]) rfl ?_
    rw [HR.out]
    exact ⟨P1, U1, p1, p2, u1, u2, rfl, S90, S91, HL9⟩
theorem encloseR_any (n d p : Int) (w : World) (h1 : -9223372036854775808 ≤ n) (h2 : n ≤ 9223372036854775807) (h3 : -9223372036854775808 ≤ d) (h4 : d ≤ 9223372036854775807) :
    Calls Tryz.prog 16 #[.agg #[.int .i64 n, .int .i64 d], .int .i64 p] w (IvR (encR n d p) w) := by
  cases hv : vB n d with
  | false => exact encloseR_no n d p w h1 h2 h3 h4 hv
  | true =>
    by_cases hp : p < 8
    · exact encloseR_low n d p w h1 h2 h3 h4 hv hp
    by_cases hp2 : 512 < p
    · exact encloseR_high n d p w h1 h2 h3 h4 hv hp2
    rcases Int.lt_trichotomy n 0 with hn | hn | hn
    · exact encloseR_neg n d p w h1 h2 h3 h4 hv (by omega) (by omega) hn
    · exact encloseR_zero n d p w h1 h2 h3 h4 hv (by omega) (by omega) hn
    · exact encloseR_pos n d p w h1 h2 h3 h4 hv (by omega) (by omega) hn
end Go.Proofs.YtnogfceojmnjiaaGreatDoor
namespace Go.Proofs.YtnogfceojmnjiaaGreatDoor
open Go.RowKit Go.Fl Go.Fl.Nm Go.Fl.Dy Go.Fl.Rt
theorem sameB_refl (x : D) : sameB x.neg x.neg (limbs x.k) (limbs x.k) x.e x.e = true := by unfold sameB; simp
set_option maxHeartbeats 2000000 in
theorem equal_same (x y : D) (s : Bool) (A B A' B' : Option Addr) (n c m d n' c' m' d' : Nat) (w : World) (h1 : Sl w A n c (limbs x.k)) (h2 : Sl w B m d (limbs y.k)) (h3 : Sl w A' n' c' (limbs x.k)) (h4 : Sl w B' m' d' (limbs y.k)) :
    Calls Tryz.prog 14 #[.agg #[.bool x.neg, .slice A n c, .int .i64 x.e, .bool y.neg, .slice B m d, .int .i64 y.e, .bool s], .agg #[.bool x.neg, .slice A' n' c', .int .i64 x.e, .bool y.neg, .slice B' m' d', .int .i64 y.e, .bool s]] w (Ret (.bool true) w) := by
  have H1 := Lib.hid h1
  have H2 := Lib.hid h2
  have H3 := Lib.hid h3
  have H4 := Lib.hid h4
  have SX := Lib.hid (sameB_refl x)
  have SY := Lib.hid (sameB_refl y)
  clear h1 h2 h3 h4
  go_enter Tryz.func14, Tryz.ntmps14
  go_wp2_with fail
  obtain ⟨w1, hw⟩ : ∃ z9 : World, z9 = ((w.alloc (.cells #[.bool x.neg, .slice A n c, .int .i64 x.e, .bool y.neg, .slice B m d, .int .i64 y.e, .bool s] 30)).alloc (.cells #[.bool x.neg, .slice A' n' c', .int .i64 x.e, .bool y.neg, .slice B' m' d', .int .i64 y.e, .bool s] 30)) := ⟨_, rfl⟩
  have HB1 := Lib.hid (show Below w.heap.size w w1 by rw [hw]; exact below_a2 _ _ _)
  have F1a := Lib.hid (H1.out.belowW HB1.out)
  have F1b := Lib.hid (H2.out.belowW HB1.out)
  have F1c := Lib.hid (H3.out.belowW HB1.out)
  have F1d := Lib.hid (H4.out.belowW HB1.out)
  have F1u := Lib.hid (show Blk w1 (w.heap.size) 30 #[.bool x.neg, .slice A n c, .int .i64 x.e, .bool y.neg, .slice B m d, .int .i64 y.e, .bool s] by rw [hw]; exact (Blk.new _ _ _).alloc _)
  have F1v := Lib.hid (show Blk w1 (w.heap.size + 1) 30 #[.bool x.neg, .slice A' n' c', .int .i64 x.e, .bool y.neg, .slice B' m' d', .int .i64 y.e, .bool s] by rw [hw]; exact Blk.new1 _ _ _ _)
  rw [← hw]
  clear hw
  have pu0 : (w1).cell? ⟨w.heap.size, 0, none⟩ = some (.bool x.neg) := F1u.out.cell 0
  have fu0 : (w1).frozen? ⟨w.heap.size, 0, none⟩ = false := F1u.out.frozen 0
  have pu1 : (w1).cell? ⟨w.heap.size, 1, none⟩ = some (.slice A n c) := F1u.out.cell 1
  have fu1 : (w1).frozen? ⟨w.heap.size, 1, none⟩ = false := F1u.out.frozen 1
  have pu2 : (w1).cell? ⟨w.heap.size, 2, none⟩ = some (.int .i64 x.e) := F1u.out.cell 2
  have fu2 : (w1).frozen? ⟨w.heap.size, 2, none⟩ = false := F1u.out.frozen 2
  have pu3 : (w1).cell? ⟨w.heap.size, 3, none⟩ = some (.bool y.neg) := F1u.out.cell 3
  have fu3 : (w1).frozen? ⟨w.heap.size, 3, none⟩ = false := F1u.out.frozen 3
  have pu4 : (w1).cell? ⟨w.heap.size, 4, none⟩ = some (.slice B m d) := F1u.out.cell 4
  have fu4 : (w1).frozen? ⟨w.heap.size, 4, none⟩ = false := F1u.out.frozen 4
  have pu5 : (w1).cell? ⟨w.heap.size, 5, none⟩ = some (.int .i64 y.e) := F1u.out.cell 5
  have fu5 : (w1).frozen? ⟨w.heap.size, 5, none⟩ = false := F1u.out.frozen 5
  have pu6 : (w1).cell? ⟨w.heap.size, 6, none⟩ = some (.bool s) := F1u.out.cell 6
  have fu6 : (w1).frozen? ⟨w.heap.size, 6, none⟩ = false := F1u.out.frozen 6
  have pv0 : (w1).cell? ⟨w.heap.size + 1, 0, none⟩ = some (.bool x.neg) := F1v.out.cell 0
  have fv0 : (w1).frozen? ⟨w.heap.size + 1, 0, none⟩ = false := F1v.out.frozen 0
  have pv1 : (w1).cell? ⟨w.heap.size + 1, 1, none⟩ = some (.slice A' n' c') := F1v.out.cell 1
  have fv1 : (w1).frozen? ⟨w.heap.size + 1, 1, none⟩ = false := F1v.out.frozen 1
  have pv2 : (w1).cell? ⟨w.heap.size + 1, 2, none⟩ = some (.int .i64 x.e) := F1v.out.cell 2
  have fv2 : (w1).frozen? ⟨w.heap.size + 1, 2, none⟩ = false := F1v.out.frozen 2
  have pv3 : (w1).cell? ⟨w.heap.size + 1, 3, none⟩ = some (.bool y.neg) := F1v.out.cell 3
  have fv3 : (w1).frozen? ⟨w.heap.size + 1, 3, none⟩ = false := F1v.out.frozen 3
  have pv4 : (w1).cell? ⟨w.heap.size + 1, 4, none⟩ = some (.slice B' m' d') := F1v.out.cell 4
  have fv4 : (w1).frozen? ⟨w.heap.size + 1, 4, none⟩ = false := F1v.out.frozen 4
  have pv5 : (w1).cell? ⟨w.heap.size + 1, 5, none⟩ = some (.int .i64 y.e) := F1v.out.cell 5
  have fv5 : (w1).frozen? ⟨w.heap.size + 1, 5, none⟩ = false := F1v.out.frozen 5
  have pv6 : (w1).cell? ⟨w.heap.size + 1, 6, none⟩ = some (.bool s) := F1v.out.cell 6
  have fv6 : (w1).frozen? ⟨w.heap.size + 1, 6, none⟩ = false := F1v.out.frozen 6
  go_wp2_with fail
  refine (same_any x.neg x.neg A A' n c n' c' (limbs x.k) (limbs x.k) x.e x.e w1 F1a.out F1c.out).mono ?_
  rw [SX.out]
  rintro e w2 ⟨rfl, HB2⟩
  have F2a := Lib.hid (F1a.out.belowW HB2.out)
  have F2b := Lib.hid (F1b.out.belowW HB2.out)
  have F2c := Lib.hid (F1c.out.belowW HB2.out)
  have F2d := Lib.hid (F1d.out.belowW HB2.out)
  have F2u := Lib.hid (F1u.out.belowW HB2.out)
  have F2v := Lib.hid (F1v.out.belowW HB2.out)
  have HL2 := Lib.hid (HB1.out.trans (HB2.out.mono HB1.out.size))
  clear pu0 fu0 pu1 fu1 pu2 fu2 pu3 fu3 pu4 fu4 pu5 fu5 pu6 fu6 pv0 fv0 pv1 fv1 pv2 fv2 pv3 fv3 pv4 fv4 pv5 fv5 pv6 fv6
  have pu0 : (w2).cell? ⟨w.heap.size, 0, none⟩ = some (.bool x.neg) := F2u.out.cell 0
  have fu0 : (w2).frozen? ⟨w.heap.size, 0, none⟩ = false := F2u.out.frozen 0
  have pu1 : (w2).cell? ⟨w.heap.size, 1, none⟩ = some (.slice A n c) := F2u.out.cell 1
  have fu1 : (w2).frozen? ⟨w.heap.size, 1, none⟩ = false := F2u.out.frozen 1
  have pu2 : (w2).cell? ⟨w.heap.size, 2, none⟩ = some (.int .i64 x.e) := F2u.out.cell 2
  have fu2 : (w2).frozen? ⟨w.heap.size, 2, none⟩ = false := F2u.out.frozen 2
  have pu3 : (w2).cell? ⟨w.heap.size, 3, none⟩ = some (.bool y.neg) := F2u.out.cell 3
  have fu3 : (w2).frozen? ⟨w.heap.size, 3, none⟩ = false := F2u.out.frozen 3
  have pu4 : (w2).cell? ⟨w.heap.size, 4, none⟩ = some (.slice B m d) := F2u.out.cell 4
  have fu4 : (w2).frozen? ⟨w.heap.size, 4, none⟩ = false := F2u.out.frozen 4
  have pu5 : (w2).cell? ⟨w.heap.size, 5, none⟩ = some (.int .i64 y.e) := F2u.out.cell 5
  have fu5 : (w2).frozen? ⟨w.heap.size, 5, none⟩ = false := F2u.out.frozen 5
  have pu6 : (w2).cell? ⟨w.heap.size, 6, none⟩ = some (.bool s) := F2u.out.cell 6
  have fu6 : (w2).frozen? ⟨w.heap.size, 6, none⟩ = false := F2u.out.frozen 6
  have pv0 : (w2).cell? ⟨w.heap.size + 1, 0, none⟩ = some (.bool x.neg) := F2v.out.cell 0
  have fv0 : (w2).frozen? ⟨w.heap.size + 1, 0, none⟩ = false := F2v.out.frozen 0
  have pv1 : (w2).cell? ⟨w.heap.size + 1, 1, none⟩ = some (.slice A' n' c') := F2v.out.cell 1
  have fv1 : (w2).frozen? ⟨w.heap.size + 1, 1, none⟩ = false := F2v.out.frozen 1
  have pv2 : (w2).cell? ⟨w.heap.size + 1, 2, none⟩ = some (.int .i64 x.e) := F2v.out.cell 2
  have fv2 : (w2).frozen? ⟨w.heap.size + 1, 2, none⟩ = false := F2v.out.frozen 2
  have pv3 : (w2).cell? ⟨w.heap.size + 1, 3, none⟩ = some (.bool y.neg) := F2v.out.cell 3
  have fv3 : (w2).frozen? ⟨w.heap.size + 1, 3, none⟩ = false := F2v.out.frozen 3
  have pv4 : (w2).cell? ⟨w.heap.size + 1, 4, none⟩ = some (.slice B' m' d') := F2v.out.cell 4
  have fv4 : (w2).frozen? ⟨w.heap.size + 1, 4, none⟩ = false := F2v.out.frozen 4
  have pv5 : (w2).cell? ⟨w.heap.size + 1, 5, none⟩ = some (.int .i64 y.e) := F2v.out.cell 5
  have fv5 : (w2).frozen? ⟨w.heap.size + 1, 5, none⟩ = false := F2v.out.frozen 5
  have pv6 : (w2).cell? ⟨w.heap.size + 1, 6, none⟩ = some (.bool s) := F2v.out.cell 6
  have fv6 : (w2).frozen? ⟨w.heap.size + 1, 6, none⟩ = false := F2v.out.frozen 6
  go_wp2_with fail
  refine (same_any y.neg y.neg B B' m d m' d' (limbs y.k) (limbs y.k) y.e y.e w2 F2b.out F2d.out).mono ?_
  rw [SY.out]
  rintro e w3 ⟨rfl, HB3⟩
  have F3a := Lib.hid (F2a.out.belowW HB3.out)
  have F3b := Lib.hid (F2b.out.belowW HB3.out)
  have F3c := Lib.hid (F2c.out.belowW HB3.out)
  have F3d := Lib.hid (F2d.out.belowW HB3.out)
  have F3u := Lib.hid (F2u.out.belowW HB3.out)
  have F3v := Lib.hid (F2v.out.belowW HB3.out)
  have HL3 := Lib.hid (HL2.out.trans (HB3.out.mono HL2.out.size))
  go_wp2_with fail
  go_ret
  exact ⟨rfl, HL3⟩

set_option maxHeartbeats 2000000 in
theorem ratioEncloses_any (an ad p : Int) (w : World) (hT : RX w) (a1 : -9223372036854775808 ≤ an) (a2 : an ≤ 9223372036854775807) (a3 : -9223372036854775808 ≤ ad) (a4 : ad ≤ 9223372036854775807) (p1 : -9223372036854775808 ≤ p) (p2 : p ≤ 9223372036854775807) :
    Calls Tryz.prog 3 #[.agg #[.int .i64 an, .int .i64 ad], .int .i64 p] w (Awk w) := by
  have HT := Lib.hid hT
  obtain ⟨x, y, s, hr⟩ : ∃ x y s, encR an ad p = (x, y, s) := ⟨_, _, _, rfl⟩
  have HR := Lib.hid hr
  clear hT hr
  go_enter Tryz.func3, Tryz.ntmps3
  go_wp2_with fail
  obtain ⟨w1, hw⟩ : ∃ z9 : World, z9 = (w.alloc (.cells #[.int .i64 an, .int .i64 ad] 23)) := ⟨_, rfl⟩
  have HB1 := Lib.hid (show Below w.heap.size w w1 by rw [hw]; exact below_a1 _ _)
  have F1t := Lib.hid (HT.out.belowW HB1.out)
  have F1ka := Lib.hid (show Blk w1 (w.heap.size) 23 #[.int .i64 an, .int .i64 ad] by rw [hw]; exact Blk.new _ _ _)
  rw [← hw]
  clear hw
  refine (awake_any w1 F1t.out).mono ?_
  rintro e w2 ⟨rfl, HB2⟩
  have F2t := Lib.hid (F1t.out.belowW HB2.out)
  have F2ka := Lib.hid (F1ka.out.belowW HB2.out)
  have HL2 := Lib.hid (HB1.out.trans (HB2.out.mono HB1.out.size))
  clear F1t F1ka HB1 HB2
  have pka0 : (w2).cell? ⟨w.heap.size, 0, none⟩ = some (.int .i64 an) := F2ka.out.cell 0
  have fka0 : (w2).frozen? ⟨w.heap.size, 0, none⟩ = false := F2ka.out.frozen 0
  have pka1 : (w2).cell? ⟨w.heap.size, 1, none⟩ = some (.int .i64 ad) := F2ka.out.cell 1
  have fka1 : (w2).frozen? ⟨w.heap.size, 1, none⟩ = false := F2ka.out.frozen 1
  go_wp2_with fail
  clear pka0 fka0 pka1 fka1
  have HR3 := Lib.hid (below_dr w2)
  have R3t := Lib.hid (F2t.out.belowW HR3.out)
  have R3ka := Lib.hid (F2ka.out.belowW HR3.out)
  have c3ka0 : w2.drew.cell? ⟨w.heap.size, 0, none⟩ = some (.int .i64 an) := R3ka.out.cell 0
  have c3ka1 : w2.drew.cell? ⟨w.heap.size, 1, none⟩ = some (.int .i64 ad) := R3ka.out.cell 1
  go_region_held3 (fun w' => w'.cell? ⟨w.heap.size, 0, none⟩ = some (.int .i64 an) ∧ w'.cell? ⟨w.heap.size, 1, none⟩ = some (.int .i64 ad)) ((with_reducible refine ⟨?_, ?_⟩) <;> (with_reducible assumption)) (first
    | (go_at_call 15
       (with_reducible refine (enclose_any an ad p _ R3t.out.toRB a1 a2 a3 a4).mono ?_)
       rw [HR.out]
       rintro e w4 ⟨A, B, n, c, m, d, rfl, HA, HU, HC4⟩
       have R4t := Lib.hid (R3t.out.belowW HC4.out)
       have R4ka := Lib.hid (R3ka.out.belowW HC4.out)
       have HR4 := Lib.hid (HR3.out.trans (HC4.out.mono HR3.out.size))
       have R4a := Lib.hid (HA.out)
       have R4b := Lib.hid (HU.out)
       have c4ka0 : w4.cell? ⟨w.heap.size, 0, none⟩ = some (.int .i64 an) := R4ka.out.cell 0
       have c4ka1 : w4.cell? ⟨w.heap.size, 1, none⟩ = some (.int .i64 ad) := R4ka.out.cell 1)
    | (go_at_call 16
       (with_reducible refine (encloseR_any an ad p _ a1 a2 a3 a4).mono ?_)
       rw [HR.out]
       rintro e w5 ⟨A', B', n', c', m', d', rfl, HA', HU', HC5⟩
       have R5t := Lib.hid (R4t.out.belowW HC5.out)
       have R5ka := Lib.hid (R4ka.out.belowW HC5.out)
       have R5a := Lib.hid (R4a.out.belowW HC5.out)
       have R5b := Lib.hid (R4b.out.belowW HC5.out)
       have HR5 := Lib.hid (HR4.out.trans (HC5.out.mono HR4.out.size))
       have R5c := Lib.hid (HA'.out)
       have R5d := Lib.hid (HU'.out)
       have c5ka0 : w5.cell? ⟨w.heap.size, 0, none⟩ = some (.int .i64 an) := R5ka.out.cell 0
       have c5ka1 : w5.cell? ⟨w.heap.size, 1, none⟩ = some (.int .i64 ad) := R5ka.out.cell 1)
    | (go_at_call 14
       (with_reducible refine (equal_same x y s A B A' B' n c m d n' c' m' d' _ R5a.out R5b.out R5c.out R5d.out).mono ?_)
       rintro e w6 ⟨rfl, HC6⟩
       have R6t := Lib.hid (R5t.out.belowW HC6.out)
       have R6ka := Lib.hid (R5ka.out.belowW HC6.out)
       have R6a := Lib.hid (R5a.out.belowW HC6.out)
       have R6b := Lib.hid (R5b.out.belowW HC6.out)
       have R6c := Lib.hid (R5c.out.belowW HC6.out)
       have R6d := Lib.hid (R5d.out.belowW HC6.out)
       have HR6 := Lib.hid (HR5.out.trans (HC6.out.mono HR5.out.size))
       have c6ka0 : w6.cell? ⟨w.heap.size, 0, none⟩ = some (.int .i64 an) := R6ka.out.cell 0
       have c6ka1 : w6.cell? ⟨w.heap.size, 1, none⟩ = some (.int .i64 ad) := R6ka.out.cell 1))
  have HL6 := Lib.hid (HL2.out.trans (HR6.out.mono HL2.out.size))
  go_wp2_with fail
  go_ret
  exact ⟨rfl, HL6⟩
end Go.Proofs.YtnogfceojmnjiaaGreatDoor
