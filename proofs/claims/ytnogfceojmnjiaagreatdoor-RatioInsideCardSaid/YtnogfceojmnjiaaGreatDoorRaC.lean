/-
  The walk of ratio.Enclose.
-/
import Derived.Test.YtnogfceojmnjiaaGreatDoorRaB
set_option linter.unusedVariables false
namespace Go.Fl
open Go.RowKit
theorem store7_put {w : World} {g : Nat} {t : TypeId} {a b c d e f h : Value} (hB : Blk w g t #[a, b, c, d, e, f, h]) (a' b' c' d' e' f' h' : Value) :
    ((((((w.setCell ⟨g, 0, none⟩ a').setCell ⟨g, 1, none⟩ b').setCell ⟨g, 2, none⟩ c').setCell ⟨g, 3, none⟩ d').setCell ⟨g, 4, none⟩ e').setCell ⟨g, 5, none⟩ f').setCell ⟨g, 6, none⟩ h' = putB w g t #[a', b', c', d', e', f', h'] := by
  rw [hB.setCell_eq 0 a', (hB.put _).setCell_eq 1 b', putB_putB, (hB.put _).setCell_eq 2 c', putB_putB, (hB.put _).setCell_eq 3 d', putB_putB, (hB.put _).setCell_eq 4 e', putB_putB, (hB.put _).setCell_eq 5 f', putB_putB, (hB.put _).setCell_eq 6 h', putB_putB]
  rfl
theorem noU7 {a b s : Bool} {A B : Option Addr} {n c m d : Nat} {e f : Int} : NoU #[.bool a, .slice A n c, .int .i64 e, .bool b, .slice B m d, .int .i64 f, .bool s] := by
  intro i x h
  match i with
  | 0 => simp at h
  | 1 => simp at h
  | 2 => simp at h
  | 3 => simp at h
  | 4 => simp at h
  | 5 => simp at h
  | 6 => simp at h
  | i + 7 => simp at h
theorem below_ad {w x : World} {o : Obj} (h : Below ((w.alloc o).drewN 1).heap.size ((w.alloc o).drewN 1) x) : Below w.heap.size w x := (below_drewN (below_a1 w o) 1).trans (h.mono (below_drewN (below_a1 w o) 1).size)
theorem below_a {w x : World} {o : Obj} (h : Below (w.alloc o).heap.size (w.alloc o) x) : Below w.heap.size w x := (below_a1 w o).trans (h.mono (below_a1 w o).size)
end Go.Fl
namespace Go.Fl.Dy
/-- What Enclose returns: the ends, and whether it is everything. -/
def encR (n d p : Int) : D × D × Bool :=
  if Rt.vB n d = true ∧ (divE (canon (decide (n < 0)) n.natAbs 0) (canon false d.natAbs 0) p false).2 = 0 ∧ (divE (canon (decide (n < 0)) n.natAbs 0) (canon false d.natAbs 0) p true).2 = 0 then
    ((divE (canon (decide (n < 0)) n.natAbs 0) (canon false d.natAbs 0) p false).1, (divE (canon (decide (n < 0)) n.natAbs 0) (canon false d.natAbs 0) p true).1, false)
  else (⟨false, 0, 0⟩, ⟨false, 0, 0⟩, true)
theorem canon_small {neg : Bool} {k : Nat} (h : k ≤ 1073741824) : vld (canon neg k 0) := by
  refine canon_vld ?_
  by_cases h0 : k = 0
  · subst h0; rfl
  · rw [canon_pos h0]
    have := blen_od h0
    have : Nm.blen k ≤ 31 := Nm.blen_le (by omega)
    exact inR_of (k := od k) (e := 0 + v2 k) (by omega) (by omega) (by omega) (by omega)
end Go.Fl.Dy
namespace Go.Proofs.YtnogfceojmnjiaaGreatDoor
open Go.RowKit Go.Fl Go.Fl.Nm Go.Fl.Dy Go.Fl.Rt
/-- An interval. -/
def IvR (r : D × D × Bool) (w : World) (e : Ending) (w' : World) : Prop :=
  ∃ (A B : Option Addr) (n c m d : Nat), e = .returned (.agg #[.bool r.1.neg, .slice A n c, .int .i64 r.1.e, .bool r.2.1.neg, .slice B m d, .int .i64 r.2.1.e, .bool r.2.2]) ∧ Hid (Sl w' A n c (limbs r.1.k)) ∧ Hid (Sl w' B m d (limbs r.2.1.k)) ∧ Hid (Below w.heap.size w w')
theorem ivr_all {w w' : World} {e : Ending} {r : D × D × Bool} (hr : r = (⟨false, 0, 0⟩, ⟨false, 0, 0⟩, true)) (he : e = .returned (.agg #[.bool false, .slice none 0 0, .int .i64 0, .bool false, .slice none 0 0, .int .i64 0, .bool true])) (hb : Below w.heap.size w w') : IvR r w e w' := by
  subst hr
  exact ⟨none, none, 0, 0, 0, 0, he, Lib.hid (by rw [limbs_zero]; exact Sl.none_ _), Lib.hid (by rw [limbs_zero]; exact Sl.none_ _), Lib.hid hb⟩
/-- Behind a quotient: a block with the number, and the error. -/
def DivCut (W : World) (lo : D) (el : Int) (s s' : Value) (wx : World) : Prop :=
  ∃ (g : Nat) (A : Option Addr) (n c : Nat), s = .pointer (some ⟨g, 0, none⟩) ∧ s' = .int .i64 el ∧ Hid (Blk wx g 28 #[.bool lo.neg, .slice A n c, .int .i64 lo.e]) ∧ Hid (Sl wx A n c (limbs lo.k)) ∧ Hid (W.heap.size ≤ g) ∧ Hid (Below W.heap.size W wx)

set_option maxHeartbeats 1000000 in
theorem enclose_no (n d p : Int) (w : World) (hT : RB w) (h1 : -9223372036854775808 ≤ n) (h2 : n ≤ 9223372036854775807) (h3 : -9223372036854775808 ≤ d) (h4 : d ≤ 9223372036854775807) (hv : vB n d = false) :
    Calls Tryz.prog 15 #[.agg #[.int .i64 n, .int .i64 d], .int .i64 p] w (IvR (encR n d p) w) := by
  have HV := Lib.hid hv
  have HR := Lib.hid (show encR n d p = (⟨false, 0, 0⟩, ⟨false, 0, 0⟩, true) by unfold encR; rw [if_neg (by rw [hv]; rintro ⟨h, _⟩; cases h)])
  clear hT hv
  go_enter Tryz.func15, Tryz.ntmps15
  go_wp2_with fail
  obtain ⟨w1, hw⟩ : ∃ z9 : World, z9 = ((w.alloc (.cells #[.int .i64 n, .int .i64 d] 23)).alloc (.cells #[.bool false, .slice none 0 0, .int .i64 0, .bool false, .slice none 0 0, .int .i64 0, .bool false] 30)) := ⟨_, rfl⟩
  have HB1 := Lib.hid (show Below w.heap.size w w1 by rw [hw]; exact below_a2 _ _ _)
  have F1k := Lib.hid (show Blk w1 (w.heap.size) 23 #[.int .i64 n, .int .i64 d] by rw [hw]; exact (Blk.new _ _ _).alloc _)
  have F1r := Lib.hid (show Blk w1 (w.heap.size + 1) 30 #[.bool false, .slice none 0 0, .int .i64 0, .bool false, .slice none 0 0, .int .i64 0, .bool false] by rw [hw]; exact Blk.new1 _ _ _ _)
  rw [← hw]
  clear hw
  refine (valid_q n d w1 h1 h2 h3 h4).mono ?_
  rw [HV.out]
  rintro e w2 ⟨rfl, HB2⟩
  have F2k := Lib.hid (F1k.out.belowW HB2.out)
  have F2r := Lib.hid (F1r.out.belowW HB2.out)
  have HL2 := Lib.hid (HB1.out.trans (HB2.out.mono HB1.out.size))
  have pr0 : (w2).cell? ⟨w.heap.size + 1, 0, none⟩ = some (.bool false) := F2r.out.cell 0
  have fr0 : (w2).frozen? ⟨w.heap.size + 1, 0, none⟩ = false := F2r.out.frozen 0
  have pr1 : (w2).cell? ⟨w.heap.size + 1, 1, none⟩ = some (.slice none 0 0) := F2r.out.cell 1
  have fr1 : (w2).frozen? ⟨w.heap.size + 1, 1, none⟩ = false := F2r.out.frozen 1
  have pr2 : (w2).cell? ⟨w.heap.size + 1, 2, none⟩ = some (.int .i64 0) := F2r.out.cell 2
  have fr2 : (w2).frozen? ⟨w.heap.size + 1, 2, none⟩ = false := F2r.out.frozen 2
  have pr3 : (w2).cell? ⟨w.heap.size + 1, 3, none⟩ = some (.bool false) := F2r.out.cell 3
  have fr3 : (w2).frozen? ⟨w.heap.size + 1, 3, none⟩ = false := F2r.out.frozen 3
  have pr4 : (w2).cell? ⟨w.heap.size + 1, 4, none⟩ = some (.slice none 0 0) := F2r.out.cell 4
  have fr4 : (w2).frozen? ⟨w.heap.size + 1, 4, none⟩ = false := F2r.out.frozen 4
  have pr5 : (w2).cell? ⟨w.heap.size + 1, 5, none⟩ = some (.int .i64 0) := F2r.out.cell 5
  have fr5 : (w2).frozen? ⟨w.heap.size + 1, 5, none⟩ = false := F2r.out.frozen 5
  have pr6 : (w2).cell? ⟨w.heap.size + 1, 6, none⟩ = some (.bool false) := F2r.out.cell 6
  have fr6 : (w2).frozen? ⟨w.heap.size + 1, 6, none⟩ = false := F2r.out.frozen 6
  go_wp2_with fail
  rw [store7_put F2r.out]
  have FR9 := Lib.hid (F2r.out.put #[.bool false, .slice none 0 0, .int .i64 0, .bool false, .slice none 0 0, .int .i64 0, .bool true])
  have HL9 := Lib.hid (HL2.out.trans (putB_below w2 _ 30 #[.bool false, .slice none 0 0, .int .i64 0, .bool false, .slice none 0 0, .int .i64 0, .bool true] (by omega : w.heap.size ≤ w.heap.size + 1)))
  clear pr0 fr0 pr1 fr1 pr2 fr2 pr3 fr3 pr4 fr4 pr5 fr5 pr6 fr6
  obtain ⟨w9, hw⟩ : ∃ z9 : World, z9 = putB w2 (w.heap.size + 1) 30 #[.bool false, .slice none 0 0, .int .i64 0, .bool false, .slice none 0 0, .int .i64 0, .bool true] := ⟨_, rfl⟩
  rw [← hw] at FR9 HL9 ⊢
  clear hw
  have pr0 : (w9).cell? ⟨w.heap.size + 1, 0, none⟩ = some (.bool false) := FR9.out.cell 0
  have fr0 : (w9).frozen? ⟨w.heap.size + 1, 0, none⟩ = false := FR9.out.frozen 0
  have pr1 : (w9).cell? ⟨w.heap.size + 1, 1, none⟩ = some (.slice none 0 0) := FR9.out.cell 1
  have fr1 : (w9).frozen? ⟨w.heap.size + 1, 1, none⟩ = false := FR9.out.frozen 1
  have pr2 : (w9).cell? ⟨w.heap.size + 1, 2, none⟩ = some (.int .i64 0) := FR9.out.cell 2
  have fr2 : (w9).frozen? ⟨w.heap.size + 1, 2, none⟩ = false := FR9.out.frozen 2
  have pr3 : (w9).cell? ⟨w.heap.size + 1, 3, none⟩ = some (.bool false) := FR9.out.cell 3
  have fr3 : (w9).frozen? ⟨w.heap.size + 1, 3, none⟩ = false := FR9.out.frozen 3
  have pr4 : (w9).cell? ⟨w.heap.size + 1, 4, none⟩ = some (.slice none 0 0) := FR9.out.cell 4
  have fr4 : (w9).frozen? ⟨w.heap.size + 1, 4, none⟩ = false := FR9.out.frozen 4
  have pr5 : (w9).cell? ⟨w.heap.size + 1, 5, none⟩ = some (.int .i64 0) := FR9.out.cell 5
  have fr5 : (w9).frozen? ⟨w.heap.size + 1, 5, none⟩ = false := FR9.out.frozen 5
  have pr6 : (w9).cell? ⟨w.heap.size + 1, 6, none⟩ = some (.bool true) := FR9.out.cell 6
  have fr6 : (w9).frozen? ⟨w.heap.size + 1, 6, none⟩ = false := FR9.out.frozen 6
  refine bodyPost_ret (v := .agg #[.bool false, .slice none 0 0, .int .i64 0, .bool false, .slice none 0 0, .int .i64 0, .bool true]) (by simp [results, Tryz.results15, go_sem, pr0, pr1, pr2, pr3, pr4, pr5, pr6]) rfl ?_
  exact ivr_all HR.out rfl HL9.out

set_option maxHeartbeats 4000000 in
theorem enclose_yes (n d p : Int) (w : World) (hT : RB w) (h1 : -9223372036854775808 ≤ n) (h2 : n ≤ 9223372036854775807) (h3 : -9223372036854775808 ≤ d) (h4 : d ≤ 9223372036854775807) (hv : vB n d = true) :
    Calls Tryz.prog 15 #[.agg #[.int .i64 n, .int .i64 d], .int .i64 p] w (IvR (encR n d p) w) := by
  have HT := Lib.hid hT
  have HV := Lib.hid hv
  obtain ⟨v1, v2, v3, v4, _⟩ := vB_iff.1 hv
  unfold MX at v2 v3 v4
  obtain ⟨a, ha⟩ : ∃ a, a = canon (decide (n < 0)) n.natAbs 0 := ⟨_, rfl⟩
  obtain ⟨b, hb⟩ : ∃ b, b = canon false d.natAbs 0 := ⟨_, rfl⟩
  have VA := Lib.hid (show vld a by rw [ha]; exact canon_small (by omega))
  have VB := Lib.hid (show vld b by rw [hb]; exact canon_small (by omega))
  have HA := Lib.hid ha.symm
  have HB := Lib.hid hb.symm
  have KN := Lib.hid (show n = if decide (n < 0) then -(n.natAbs : Int) else n.natAbs by by_cases h : n < 0 <;> simp [h] <;> omega)
  have KD := Lib.hid (show d = if false then -(d.natAbs : Int) else d.natAbs by simp; omega)
  have KY := Lib.hid (show false = true → d.natAbs ≠ 0 by intro h; cases h)
  have hkn : n.natAbs ≤ 1073741824 := by omega
  have hkd : d.natAbs ≤ 1073741824 := by omega
  have KZ := Lib.hid (show decide (n < 0) = true → n.natAbs ≠ 0 by simp; omega)
  have HR := Lib.hid (show encR n d p = if (divE a b p false).2 = 0 ∧ (divE a b p true).2 = 0 then ((divE a b p false).1, (divE a b p true).1, false) else (⟨false, 0, 0⟩, ⟨false, 0, 0⟩, true) by rw [ha, hb]; unfold encR; simp [hv])
  obtain ⟨lo, el, hlo⟩ : ∃ lo el, divE a b p false = (lo, el) := ⟨_, _, rfl⟩
  obtain ⟨hi, eh, hhi⟩ : ∃ hi eh, divE a b p true = (hi, eh) := ⟨_, _, rfl⟩
  have HLO := Lib.hid hlo
  have HHI := Lib.hid hhi
  rw [hlo, hhi] at HR
  clear hT hv ha hb hlo hhi
  go_enter Tryz.func15, Tryz.ntmps15
  go_wp2_with fail
  obtain ⟨w1, hw⟩ : ∃ z9 : World, z9 = ((w.alloc (.cells #[.int .i64 n, .int .i64 d] 23)).alloc (.cells #[.bool false, .slice none 0 0, .int .i64 0, .bool false, .slice none 0 0, .int .i64 0, .bool false] 30)) := ⟨_, rfl⟩
  have HB1 := Lib.hid (show Below w.heap.size w w1 by rw [hw]; exact below_a2 _ _ _)
  have F1t := Lib.hid (HT.out.belowW HB1.out)
  have F1k := Lib.hid (show Blk w1 (w.heap.size) 23 #[.int .i64 n, .int .i64 d] by rw [hw]; exact (Blk.new _ _ _).alloc _)
  have F1r := Lib.hid (show Blk w1 (w.heap.size + 1) 30 #[.bool false, .slice none 0 0, .int .i64 0, .bool false, .slice none 0 0, .int .i64 0, .bool false] by rw [hw]; exact Blk.new1 _ _ _ _)
  rw [← hw]
  clear hw
  have pk0 : (w1).cell? ⟨w.heap.size, 0, none⟩ = some (.int .i64 n) := F1k.out.cell 0
  have fk0 : (w1).frozen? ⟨w.heap.size, 0, none⟩ = false := F1k.out.frozen 0
  have pk1 : (w1).cell? ⟨w.heap.size, 1, none⟩ = some (.int .i64 d) := F1k.out.cell 1
  have fk1 : (w1).frozen? ⟨w.heap.size, 1, none⟩ = false := F1k.out.frozen 1
  refine (valid_q n d w1 h1 h2 h3 h4).mono ?_
  rw [HV.out]
  rintro e w2 ⟨rfl, HB2⟩
  have F2t := Lib.hid (F1t.out.belowW HB2.out)
  have F2k := Lib.hid (F1k.out.belowW HB2.out)
  have F2r := Lib.hid (F1r.out.belowW HB2.out)
  have HL2 := Lib.hid (HB1.out.trans (HB2.out.mono HB1.out.size))
  clear pk0 pk1 fk0 fk1
  have pk0 : (w2).cell? ⟨w.heap.size, 0, none⟩ = some (.int .i64 n) := F2k.out.cell 0
  have fk0 : (w2).frozen? ⟨w.heap.size, 0, none⟩ = false := F2k.out.frozen 0
  have pk1 : (w2).cell? ⟨w.heap.size, 1, none⟩ = some (.int .i64 d) := F2k.out.cell 1
  have fk1 : (w2).frozen? ⟨w.heap.size, 1, none⟩ = false := F2k.out.frozen 1
  go_wp2_with fail
  go_cut [5, 6] (DivCut w2 lo el)
  case first =>
    have ef0 : w2.drew.cell? ⟨w.heap.size, 0, none⟩ = some (.int .i64 n) := F2k.out.cell 0
    have ff0 : ((w2.alloc (.cells #[.bool false, .slice none 0 0, .int .i64 0] 28)).drew).cell? ⟨w.heap.size, 0, none⟩ = some (.int .i64 n) := (F2k.out.alloc _).cell 0
    have ef1 : w2.drew.cell? ⟨w.heap.size, 1, none⟩ = some (.int .i64 d) := F2k.out.cell 1
    have ff1 : ((w2.alloc (.cells #[.bool false, .slice none 0 0, .int .i64 0] 28)).drew).cell? ⟨w.heap.size, 1, none⟩ = some (.int .i64 d) := (F2k.out.alloc _).cell 1
    have TPf := Lib.hid (show RB w2.drew from F2t.out.drewN 1)
    have TQf := Lib.hid (show RB (w2.alloc (.cells #[.bool false, .slice none 0 0, .int .i64 0] 28)).drew from (F2t.out.alloc _).drewN 1)
    go_region_held3 (fun w' => w'.cell? ⟨w.heap.size, 0, none⟩ = some (.int .i64 n) ∧ w'.cell? ⟨w.heap.size, 1, none⟩ = some (.int .i64 d)) ((with_reducible refine ⟨?_, ?_⟩) <;> (with_reducible assumption)) (first
      | (go_at_call_of 48 (Value.int .i64 n)
         first
         | ((with_reducible refine (int_any n.natAbs (decide (n < 0)) n _ TPf.out hkn KN.out KZ.out).mono ?_)
            rw [HA.out]
            rintro e xf1 ⟨Af, nf, cf, rfl, HSf, HX⟩
            have Hf1 := Lib.hid (show Below w2.heap.size w2 xf1 from ⟨HX.out.os, HX.out.tape, HX.out.output, HX.out.size, HX.out.block⟩)
            have Tf1 := Lib.hid (F2t.out.belowW Hf1.out)
            have Kf1 := Lib.hid (F2k.out.belowW Hf1.out)
            have cxf10 : xf1.cell? ⟨w.heap.size, 0, none⟩ = some (.int .i64 n) := Kf1.out.cell 0
            have axf10 : (xf1.alloc (.cells #[.bool false, .slice none 0 0, .int .i64 0] 28)).cell? ⟨w.heap.size, 0, none⟩ = some (.int .i64 n) := (Kf1.out.alloc _).cell 0
            have cxf11 : xf1.cell? ⟨w.heap.size, 1, none⟩ = some (.int .i64 d) := Kf1.out.cell 1
            have axf11 : (xf1.alloc (.cells #[.bool false, .slice none 0 0, .int .i64 0] 28)).cell? ⟨w.heap.size, 1, none⟩ = some (.int .i64 d) := (Kf1.out.alloc _).cell 1)
         | ((with_reducible refine (int_any n.natAbs (decide (n < 0)) n _ TQf.out hkn KN.out KZ.out).mono ?_)
            rw [HA.out]
            rintro e xf1 ⟨Af, nf, cf, rfl, HSf, HX⟩
            obtain ⟨gf, hgf⟩ : ∃ g, g = w2.heap.size := ⟨_, rfl⟩
            have hgnf : w.heap.size ≠ gf := by rw [hgf]; have := F2k.out.lt; omega
            have ZBf1 := Lib.hid (show Blk xf1 gf 28 #[.bool false, .slice none 0 0, .int .i64 0] by rw [hgf]; exact ((Blk.new _ _ _).drewN 1).belowW HX.out)
            have HGf := Lib.hid hgf
            clear hgf
            have Hf1 := Lib.hid (show Below w2.heap.size w2 xf1 from below_ad HX.out)
            have Tf1 := Lib.hid (F2t.out.belowW Hf1.out)
            have Kf1 := Lib.hid (F2k.out.belowW Hf1.out)
            have cxf10 : xf1.cell? ⟨w.heap.size, 0, none⟩ = some (.int .i64 n) := Kf1.out.cell 0
            have axf10 : (xf1.alloc (.cells #[.bool false, .slice none 0 0, .int .i64 0] 28)).cell? ⟨w.heap.size, 0, none⟩ = some (.int .i64 n) := (Kf1.out.alloc _).cell 0
            have cxf11 : xf1.cell? ⟨w.heap.size, 1, none⟩ = some (.int .i64 d) := Kf1.out.cell 1
            have axf11 : (xf1.alloc (.cells #[.bool false, .slice none 0 0, .int .i64 0] 28)).cell? ⟨w.heap.size, 1, none⟩ = some (.int .i64 d) := (Kf1.out.alloc _).cell 1))
      | (go_at_call_of 48 (Value.int .i64 d)
         first
         | ((with_reducible refine (int_any d.natAbs false d _ Tf1.out hkd KD.out KY.out).mono ?_)
            rw [HB.out]
            rintro e xf2 ⟨Bf, mf, df, rfl, HUf, HYf⟩
            try have ZBf2 := Lib.hid (ZBf1.out.belowW HYf.out)
            have Hf2 := Lib.hid (Hf1.out.trans (HYf.out.mono Hf1.out.size))
            have Tf2 := Lib.hid (F2t.out.belowW Hf2.out)
            have Kf2 := Lib.hid (F2k.out.belowW Hf2.out)
            have cxf20 : xf2.cell? ⟨w.heap.size, 0, none⟩ = some (.int .i64 n) := Kf2.out.cell 0
            have axf20 : (xf2.alloc (.cells #[.bool false, .slice none 0 0, .int .i64 0] 28)).cell? ⟨w.heap.size, 0, none⟩ = some (.int .i64 n) := (Kf2.out.alloc _).cell 0
            have cxf21 : xf2.cell? ⟨w.heap.size, 1, none⟩ = some (.int .i64 d) := Kf2.out.cell 1
            have axf21 : (xf2.alloc (.cells #[.bool false, .slice none 0 0, .int .i64 0] 28)).cell? ⟨w.heap.size, 1, none⟩ = some (.int .i64 d) := (Kf2.out.alloc _).cell 1
            have Sf2 := Lib.hid (HSf.out.belowW HYf.out))
         | ((with_reducible refine (int_any d.natAbs false d _ (Tf1.out.alloc _) hkd KD.out KY.out).mono ?_)
            rw [HB.out]
            rintro e xf2 ⟨Bf, mf, df, rfl, HUf, HX⟩
            obtain ⟨gf, hgf⟩ : ∃ g, g = xf1.heap.size := ⟨_, rfl⟩
            have hgnf : w.heap.size ≠ gf := by rw [hgf]; have := Kf1.out.lt; omega
            have ZBf2 := Lib.hid (show Blk xf2 gf 28 #[.bool false, .slice none 0 0, .int .i64 0] by rw [hgf]; exact (Blk.new _ _ _).belowW HX.out)
            have HGf := Lib.hid hgf
            clear hgf
            have HYf := Lib.hid (show Below xf1.heap.size xf1 xf2 from below_a HX.out)
            have Hf2 := Lib.hid (Hf1.out.trans (HYf.out.mono Hf1.out.size))
            have Tf2 := Lib.hid (F2t.out.belowW Hf2.out)
            have Kf2 := Lib.hid (F2k.out.belowW Hf2.out)
            have cxf20 : xf2.cell? ⟨w.heap.size, 0, none⟩ = some (.int .i64 n) := Kf2.out.cell 0
            have axf20 : (xf2.alloc (.cells #[.bool false, .slice none 0 0, .int .i64 0] 28)).cell? ⟨w.heap.size, 0, none⟩ = some (.int .i64 n) := (Kf2.out.alloc _).cell 0
            have cxf21 : xf2.cell? ⟨w.heap.size, 1, none⟩ = some (.int .i64 d) := Kf2.out.cell 1
            have axf21 : (xf2.alloc (.cells #[.bool false, .slice none 0 0, .int .i64 0] 28)).cell? ⟨w.heap.size, 1, none⟩ = some (.int .i64 d) := (Kf2.out.alloc _).cell 1
            have Sf2 := Lib.hid (HSf.out.belowW HYf.out)))
      | (go_at_call 47
         first
         | ((with_reducible refine (DivDown_any a b Af Bf nf cf mf df p _ Sf2.out HUf.out VA.out VB.out Tf2.out).mono ?_)
            rw [HLO.out]
            rintro e xf3 ⟨Lf, lnf, lcf, rfl, HVf, HZf⟩
            try have ZBf3 := Lib.hid (ZBf2.out.belowW HZf.out)
            have Hf3 := Lib.hid (Hf2.out.trans (HZf.out.mono Hf2.out.size))
            have Kf3 := Lib.hid (F2k.out.belowW Hf3.out)
            have cxf30 : xf3.cell? ⟨w.heap.size, 0, none⟩ = some (.int .i64 n) := Kf3.out.cell 0
            have axf30 : (xf3.alloc (.cells #[.bool false, .slice none 0 0, .int .i64 0] 28)).cell? ⟨w.heap.size, 0, none⟩ = some (.int .i64 n) := (Kf3.out.alloc _).cell 0
            have cxf31 : xf3.cell? ⟨w.heap.size, 1, none⟩ = some (.int .i64 d) := Kf3.out.cell 1
            have axf31 : (xf3.alloc (.cells #[.bool false, .slice none 0 0, .int .i64 0] 28)).cell? ⟨w.heap.size, 1, none⟩ = some (.int .i64 d) := (Kf3.out.alloc _).cell 1
            have bf0 : (xf3.alloc (.cells #[.bool lo.neg, .slice Lf lnf lcf, .int .i64 lo.e] 28)).cell? ⟨w.heap.size, 0, none⟩ = some (.int .i64 n) := (Kf3.out.alloc _).cell 0
            have bf1 : (xf3.alloc (.cells #[.bool lo.neg, .slice Lf lnf lcf, .int .i64 lo.e] 28)).cell? ⟨w.heap.size, 1, none⟩ = some (.int .i64 d) := (Kf3.out.alloc _).cell 1
            try have sf0 := store3_far ZBf3.out (show xf3.cell? ⟨w.heap.size, 0, none⟩ = some (.int .i64 n) from Kf3.out.cell 0) hgnf (.bool lo.neg) (.slice Lf lnf lcf) (.int .i64 lo.e)
            try have sf1 := store3_far ZBf3.out (show xf3.cell? ⟨w.heap.size, 1, none⟩ = some (.int .i64 d) from Kf3.out.cell 1) hgnf (.bool lo.neg) (.slice Lf lnf lcf) (.int .i64 lo.e)
            try rw [HGf.out] at sf0 sf1
            try (have z0 : xf3.cell? ⟨w2.heap.size, 0, none⟩ = some (.bool false) := (by rw [← HGf.out]; exact ZBf3.out.cell 0); have z1 : xf3.cell? ⟨w2.heap.size, 1, none⟩ = some (.slice none 0 0) := (by rw [← HGf.out]; exact ZBf3.out.cell 1); have z2 : xf3.cell? ⟨w2.heap.size, 2, none⟩ = some (.int .i64 0) := (by rw [← HGf.out]; exact ZBf3.out.cell 2); have y0 : xf3.frozen? ⟨w2.heap.size, 0, none⟩ = false := (by rw [← HGf.out]; exact ZBf3.out.frozen 0); have y1 : xf3.frozen? ⟨w2.heap.size, 1, none⟩ = false := (by rw [← HGf.out]; exact ZBf3.out.frozen 1); have y2 : xf3.frozen? ⟨w2.heap.size, 2, none⟩ = false := (by rw [← HGf.out]; exact ZBf3.out.frozen 2))
            try (have z0 : xf3.cell? ⟨xf1.heap.size, 0, none⟩ = some (.bool false) := (by rw [← HGf.out]; exact ZBf3.out.cell 0); have z1 : xf3.cell? ⟨xf1.heap.size, 1, none⟩ = some (.slice none 0 0) := (by rw [← HGf.out]; exact ZBf3.out.cell 1); have z2 : xf3.cell? ⟨xf1.heap.size, 2, none⟩ = some (.int .i64 0) := (by rw [← HGf.out]; exact ZBf3.out.cell 2); have y0 : xf3.frozen? ⟨xf1.heap.size, 0, none⟩ = false := (by rw [← HGf.out]; exact ZBf3.out.frozen 0); have y1 : xf3.frozen? ⟨xf1.heap.size, 1, none⟩ = false := (by rw [← HGf.out]; exact ZBf3.out.frozen 1); have y2 : xf3.frozen? ⟨xf1.heap.size, 2, none⟩ = false := (by rw [← HGf.out]; exact ZBf3.out.frozen 2))
            try (have z0 : xf3.cell? ⟨xf2.heap.size, 0, none⟩ = some (.bool false) := (by rw [← HGf.out]; exact ZBf3.out.cell 0); have z1 : xf3.cell? ⟨xf2.heap.size, 1, none⟩ = some (.slice none 0 0) := (by rw [← HGf.out]; exact ZBf3.out.cell 1); have z2 : xf3.cell? ⟨xf2.heap.size, 2, none⟩ = some (.int .i64 0) := (by rw [← HGf.out]; exact ZBf3.out.cell 2); have y0 : xf3.frozen? ⟨xf2.heap.size, 0, none⟩ = false := (by rw [← HGf.out]; exact ZBf3.out.frozen 0); have y1 : xf3.frozen? ⟨xf2.heap.size, 1, none⟩ = false := (by rw [← HGf.out]; exact ZBf3.out.frozen 1); have y2 : xf3.frozen? ⟨xf2.heap.size, 2, none⟩ = false := (by rw [← HGf.out]; exact ZBf3.out.frozen 2)))
         | ((with_reducible refine (DivDown_any a b Af Bf nf cf mf df p _ (Sf2.out.alloc _) (HUf.out.alloc _) VA.out VB.out (Tf2.out.alloc _)).mono ?_)
            rw [HLO.out]
            rintro e xf3 ⟨Lf, lnf, lcf, rfl, HVf, HX⟩
            obtain ⟨gf, hgf⟩ : ∃ g, g = xf2.heap.size := ⟨_, rfl⟩
            have hgnf : w.heap.size ≠ gf := by rw [hgf]; have := Kf2.out.lt; omega
            have ZBf3 := Lib.hid (show Blk xf3 gf 28 #[.bool false, .slice none 0 0, .int .i64 0] by rw [hgf]; exact (Blk.new _ _ _).belowW HX.out)
            have HGf := Lib.hid hgf
            clear hgf
            have HZf := Lib.hid (show Below xf2.heap.size xf2 xf3 from below_a HX.out)
            have Hf3 := Lib.hid (Hf2.out.trans (HZf.out.mono Hf2.out.size))
            have Kf3 := Lib.hid (F2k.out.belowW Hf3.out)
            have cxf30 : xf3.cell? ⟨w.heap.size, 0, none⟩ = some (.int .i64 n) := Kf3.out.cell 0
            have axf30 : (xf3.alloc (.cells #[.bool false, .slice none 0 0, .int .i64 0] 28)).cell? ⟨w.heap.size, 0, none⟩ = some (.int .i64 n) := (Kf3.out.alloc _).cell 0
            have cxf31 : xf3.cell? ⟨w.heap.size, 1, none⟩ = some (.int .i64 d) := Kf3.out.cell 1
            have axf31 : (xf3.alloc (.cells #[.bool false, .slice none 0 0, .int .i64 0] 28)).cell? ⟨w.heap.size, 1, none⟩ = some (.int .i64 d) := (Kf3.out.alloc _).cell 1
            have bf0 : (xf3.alloc (.cells #[.bool lo.neg, .slice Lf lnf lcf, .int .i64 lo.e] 28)).cell? ⟨w.heap.size, 0, none⟩ = some (.int .i64 n) := (Kf3.out.alloc _).cell 0
            have bf1 : (xf3.alloc (.cells #[.bool lo.neg, .slice Lf lnf lcf, .int .i64 lo.e] 28)).cell? ⟨w.heap.size, 1, none⟩ = some (.int .i64 d) := (Kf3.out.alloc _).cell 1
            try have sf0 := store3_far ZBf3.out (show xf3.cell? ⟨w.heap.size, 0, none⟩ = some (.int .i64 n) from Kf3.out.cell 0) hgnf (.bool lo.neg) (.slice Lf lnf lcf) (.int .i64 lo.e)
            try have sf1 := store3_far ZBf3.out (show xf3.cell? ⟨w.heap.size, 1, none⟩ = some (.int .i64 d) from Kf3.out.cell 1) hgnf (.bool lo.neg) (.slice Lf lnf lcf) (.int .i64 lo.e)
            try rw [HGf.out] at sf0 sf1
            try (have z0 : xf3.cell? ⟨w2.heap.size, 0, none⟩ = some (.bool false) := (by rw [← HGf.out]; exact ZBf3.out.cell 0); have z1 : xf3.cell? ⟨w2.heap.size, 1, none⟩ = some (.slice none 0 0) := (by rw [← HGf.out]; exact ZBf3.out.cell 1); have z2 : xf3.cell? ⟨w2.heap.size, 2, none⟩ = some (.int .i64 0) := (by rw [← HGf.out]; exact ZBf3.out.cell 2); have y0 : xf3.frozen? ⟨w2.heap.size, 0, none⟩ = false := (by rw [← HGf.out]; exact ZBf3.out.frozen 0); have y1 : xf3.frozen? ⟨w2.heap.size, 1, none⟩ = false := (by rw [← HGf.out]; exact ZBf3.out.frozen 1); have y2 : xf3.frozen? ⟨w2.heap.size, 2, none⟩ = false := (by rw [← HGf.out]; exact ZBf3.out.frozen 2))
            try (have z0 : xf3.cell? ⟨xf1.heap.size, 0, none⟩ = some (.bool false) := (by rw [← HGf.out]; exact ZBf3.out.cell 0); have z1 : xf3.cell? ⟨xf1.heap.size, 1, none⟩ = some (.slice none 0 0) := (by rw [← HGf.out]; exact ZBf3.out.cell 1); have z2 : xf3.cell? ⟨xf1.heap.size, 2, none⟩ = some (.int .i64 0) := (by rw [← HGf.out]; exact ZBf3.out.cell 2); have y0 : xf3.frozen? ⟨xf1.heap.size, 0, none⟩ = false := (by rw [← HGf.out]; exact ZBf3.out.frozen 0); have y1 : xf3.frozen? ⟨xf1.heap.size, 1, none⟩ = false := (by rw [← HGf.out]; exact ZBf3.out.frozen 1); have y2 : xf3.frozen? ⟨xf1.heap.size, 2, none⟩ = false := (by rw [← HGf.out]; exact ZBf3.out.frozen 2))
            try (have z0 : xf3.cell? ⟨xf2.heap.size, 0, none⟩ = some (.bool false) := (by rw [← HGf.out]; exact ZBf3.out.cell 0); have z1 : xf3.cell? ⟨xf2.heap.size, 1, none⟩ = some (.slice none 0 0) := (by rw [← HGf.out]; exact ZBf3.out.cell 1); have z2 : xf3.cell? ⟨xf2.heap.size, 2, none⟩ = some (.int .i64 0) := (by rw [← HGf.out]; exact ZBf3.out.cell 2); have y0 : xf3.frozen? ⟨xf2.heap.size, 0, none⟩ = false := (by rw [← HGf.out]; exact ZBf3.out.frozen 0); have y1 : xf3.frozen? ⟨xf2.heap.size, 1, none⟩ = false := (by rw [← HGf.out]; exact ZBf3.out.frozen 1); have y2 : xf3.frozen? ⟨xf2.heap.size, 2, none⟩ = false := (by rw [← HGf.out]; exact ZBf3.out.frozen 2)))))
    all_goals go_wp2_with fail
    all_goals
      first
      | (rw [← HGf.out]
         rw [store3_put ZBf3.out]
         have HGL := Lib.hid (show w2.heap.size ≤ gf by rw [HGf.out]; first | exact Nat.le_refl _ | exact Hf1.out.size | exact Hf2.out.size)
         go_meet
         exact ⟨gf, Lf, lnf, lcf, rfl, rfl, Lib.hid (ZBf3.out.put _), Lib.hid (HVf.out.far ZBf3.out noU3 (putB_grown _ _ _ _)), HGL, Lib.hid (Hf3.out.trans (putB_below _ _ _ _ HGL.out))⟩)
      | (go_meet
         exact ⟨xf3.heap.size, Lf, lnf, lcf, rfl, rfl, Lib.hid (Blk.new _ _ _), Lib.hid (HVf.out.alloc _), Lib.hid Hf3.out.size, Lib.hid (Hf3.out.trans ((below_a1 _ _).mono Hf3.out.size))⟩)
  case rest =>
    obtain ⟨gf, Lf, lnf, lcf, rfl, rfl, F3vf, F3lf, HGf, HQ3⟩ := hcut
    obtain ⟨w3, hw⟩ : ∃ z9 : World, z9 = wc := ⟨_, rfl⟩
    rw [← hw] at F3vf F3lf HQ3 ⊢
    clear hw
    have F3t := Lib.hid (F2t.out.belowW HQ3.out)
    have F3k := Lib.hid (F2k.out.belowW HQ3.out)
    have F3r := Lib.hid (F2r.out.belowW HQ3.out)
    have HL3 := Lib.hid (HL2.out.trans (HQ3.out.mono HL2.out.size))
    clear pk0 pk1 fk0 fk1
    have pk0 : (w3).cell? ⟨w.heap.size, 0, none⟩ = some (.int .i64 n) := F3k.out.cell 0
    have fk0 : (w3).frozen? ⟨w.heap.size, 0, none⟩ = false := F3k.out.frozen 0
    have pk1 : (w3).cell? ⟨w.heap.size, 1, none⟩ = some (.int .i64 d) := F3k.out.cell 1
    have fk1 : (w3).frozen? ⟨w.heap.size, 1, none⟩ = false := F3k.out.frozen 1
    go_wp2_with fail
    go_cut [7, 8] (DivCut w3 hi eh)
    case first =>
      have eh0 : w3.drew.cell? ⟨w.heap.size, 0, none⟩ = some (.int .i64 n) := F3k.out.cell 0
      have fh0 : ((w3.alloc (.cells #[.bool false, .slice none 0 0, .int .i64 0] 28)).drew).cell? ⟨w.heap.size, 0, none⟩ = some (.int .i64 n) := (F3k.out.alloc _).cell 0
      have eh1 : w3.drew.cell? ⟨w.heap.size, 1, none⟩ = some (.int .i64 d) := F3k.out.cell 1
      have fh1 : ((w3.alloc (.cells #[.bool false, .slice none 0 0, .int .i64 0] 28)).drew).cell? ⟨w.heap.size, 1, none⟩ = some (.int .i64 d) := (F3k.out.alloc _).cell 1
      have TPh := Lib.hid (show RB w3.drew from F3t.out.drewN 1)
      have TQh := Lib.hid (show RB (w3.alloc (.cells #[.bool false, .slice none 0 0, .int .i64 0] 28)).drew from (F3t.out.alloc _).drewN 1)
      go_region_held3 (fun w' => w'.cell? ⟨w.heap.size, 0, none⟩ = some (.int .i64 n) ∧ w'.cell? ⟨w.heap.size, 1, none⟩ = some (.int .i64 d)) ((with_reducible refine ⟨?_, ?_⟩) <;> (with_reducible assumption)) (first
        | (go_at_call_of 48 (Value.int .i64 n)
           first
           | ((with_reducible refine (int_any n.natAbs (decide (n < 0)) n _ TPh.out hkn KN.out KZ.out).mono ?_)
              rw [HA.out]
              rintro e xh1 ⟨Ah, nh, ch, rfl, HSh, HX⟩
              have Hh1 := Lib.hid (show Below w3.heap.size w3 xh1 from ⟨HX.out.os, HX.out.tape, HX.out.output, HX.out.size, HX.out.block⟩)
              have Th1 := Lib.hid (F3t.out.belowW Hh1.out)
              have Kh1 := Lib.hid (F3k.out.belowW Hh1.out)
              have cxh10 : xh1.cell? ⟨w.heap.size, 0, none⟩ = some (.int .i64 n) := Kh1.out.cell 0
              have axh10 : (xh1.alloc (.cells #[.bool false, .slice none 0 0, .int .i64 0] 28)).cell? ⟨w.heap.size, 0, none⟩ = some (.int .i64 n) := (Kh1.out.alloc _).cell 0
              have cxh11 : xh1.cell? ⟨w.heap.size, 1, none⟩ = some (.int .i64 d) := Kh1.out.cell 1
              have axh11 : (xh1.alloc (.cells #[.bool false, .slice none 0 0, .int .i64 0] 28)).cell? ⟨w.heap.size, 1, none⟩ = some (.int .i64 d) := (Kh1.out.alloc _).cell 1)
           | ((with_reducible refine (int_any n.natAbs (decide (n < 0)) n _ TQh.out hkn KN.out KZ.out).mono ?_)
              rw [HA.out]
              rintro e xh1 ⟨Ah, nh, ch, rfl, HSh, HX⟩
              obtain ⟨gh, hgh⟩ : ∃ g, g = w3.heap.size := ⟨_, rfl⟩
              have hgnh : w.heap.size ≠ gh := by rw [hgh]; have := F3k.out.lt; omega
              have ZBh1 := Lib.hid (show Blk xh1 gh 28 #[.bool false, .slice none 0 0, .int .i64 0] by rw [hgh]; exact ((Blk.new _ _ _).drewN 1).belowW HX.out)
              have HGh := Lib.hid hgh
              clear hgh
              have Hh1 := Lib.hid (show Below w3.heap.size w3 xh1 from below_ad HX.out)
              have Th1 := Lib.hid (F3t.out.belowW Hh1.out)
              have Kh1 := Lib.hid (F3k.out.belowW Hh1.out)
              have cxh10 : xh1.cell? ⟨w.heap.size, 0, none⟩ = some (.int .i64 n) := Kh1.out.cell 0
              have axh10 : (xh1.alloc (.cells #[.bool false, .slice none 0 0, .int .i64 0] 28)).cell? ⟨w.heap.size, 0, none⟩ = some (.int .i64 n) := (Kh1.out.alloc _).cell 0
              have cxh11 : xh1.cell? ⟨w.heap.size, 1, none⟩ = some (.int .i64 d) := Kh1.out.cell 1
              have axh11 : (xh1.alloc (.cells #[.bool false, .slice none 0 0, .int .i64 0] 28)).cell? ⟨w.heap.size, 1, none⟩ = some (.int .i64 d) := (Kh1.out.alloc _).cell 1))
        | (go_at_call_of 48 (Value.int .i64 d)
           first
           | ((with_reducible refine (int_any d.natAbs false d _ Th1.out hkd KD.out KY.out).mono ?_)
              rw [HB.out]
              rintro e xh2 ⟨Bh, mh, dh, rfl, HUh, HYh⟩
              try have ZBh2 := Lib.hid (ZBh1.out.belowW HYh.out)
              have Hh2 := Lib.hid (Hh1.out.trans (HYh.out.mono Hh1.out.size))
              have Th2 := Lib.hid (F3t.out.belowW Hh2.out)
              have Kh2 := Lib.hid (F3k.out.belowW Hh2.out)
              have cxh20 : xh2.cell? ⟨w.heap.size, 0, none⟩ = some (.int .i64 n) := Kh2.out.cell 0
              have axh20 : (xh2.alloc (.cells #[.bool false, .slice none 0 0, .int .i64 0] 28)).cell? ⟨w.heap.size, 0, none⟩ = some (.int .i64 n) := (Kh2.out.alloc _).cell 0
              have cxh21 : xh2.cell? ⟨w.heap.size, 1, none⟩ = some (.int .i64 d) := Kh2.out.cell 1
              have axh21 : (xh2.alloc (.cells #[.bool false, .slice none 0 0, .int .i64 0] 28)).cell? ⟨w.heap.size, 1, none⟩ = some (.int .i64 d) := (Kh2.out.alloc _).cell 1
              have Sh2 := Lib.hid (HSh.out.belowW HYh.out))
           | ((with_reducible refine (int_any d.natAbs false d _ (Th1.out.alloc _) hkd KD.out KY.out).mono ?_)
              rw [HB.out]
              rintro e xh2 ⟨Bh, mh, dh, rfl, HUh, HX⟩
              obtain ⟨gh, hgh⟩ : ∃ g, g = xh1.heap.size := ⟨_, rfl⟩
              have hgnh : w.heap.size ≠ gh := by rw [hgh]; have := Kh1.out.lt; omega
              have ZBh2 := Lib.hid (show Blk xh2 gh 28 #[.bool false, .slice none 0 0, .int .i64 0] by rw [hgh]; exact (Blk.new _ _ _).belowW HX.out)
              have HGh := Lib.hid hgh
              clear hgh
              have HYh := Lib.hid (show Below xh1.heap.size xh1 xh2 from below_a HX.out)
              have Hh2 := Lib.hid (Hh1.out.trans (HYh.out.mono Hh1.out.size))
              have Th2 := Lib.hid (F3t.out.belowW Hh2.out)
              have Kh2 := Lib.hid (F3k.out.belowW Hh2.out)
              have cxh20 : xh2.cell? ⟨w.heap.size, 0, none⟩ = some (.int .i64 n) := Kh2.out.cell 0
              have axh20 : (xh2.alloc (.cells #[.bool false, .slice none 0 0, .int .i64 0] 28)).cell? ⟨w.heap.size, 0, none⟩ = some (.int .i64 n) := (Kh2.out.alloc _).cell 0
              have cxh21 : xh2.cell? ⟨w.heap.size, 1, none⟩ = some (.int .i64 d) := Kh2.out.cell 1
              have axh21 : (xh2.alloc (.cells #[.bool false, .slice none 0 0, .int .i64 0] 28)).cell? ⟨w.heap.size, 1, none⟩ = some (.int .i64 d) := (Kh2.out.alloc _).cell 1
              have Sh2 := Lib.hid (HSh.out.belowW HYh.out)))
        | (go_at_call 49
           first
           | ((with_reducible refine (DivUp_any a b Ah Bh nh ch mh dh p _ Sh2.out HUh.out VA.out VB.out Th2.out).mono ?_)
              rw [HHI.out]
              rintro e xh3 ⟨Lh, lnh, lch, rfl, HVh, HZh⟩
              try have ZBh3 := Lib.hid (ZBh2.out.belowW HZh.out)
              have Hh3 := Lib.hid (Hh2.out.trans (HZh.out.mono Hh2.out.size))
              have Kh3 := Lib.hid (F3k.out.belowW Hh3.out)
              have cxh30 : xh3.cell? ⟨w.heap.size, 0, none⟩ = some (.int .i64 n) := Kh3.out.cell 0
              have axh30 : (xh3.alloc (.cells #[.bool false, .slice none 0 0, .int .i64 0] 28)).cell? ⟨w.heap.size, 0, none⟩ = some (.int .i64 n) := (Kh3.out.alloc _).cell 0
              have cxh31 : xh3.cell? ⟨w.heap.size, 1, none⟩ = some (.int .i64 d) := Kh3.out.cell 1
              have axh31 : (xh3.alloc (.cells #[.bool false, .slice none 0 0, .int .i64 0] 28)).cell? ⟨w.heap.size, 1, none⟩ = some (.int .i64 d) := (Kh3.out.alloc _).cell 1
              have bh0 : (xh3.alloc (.cells #[.bool hi.neg, .slice Lh lnh lch, .int .i64 hi.e] 28)).cell? ⟨w.heap.size, 0, none⟩ = some (.int .i64 n) := (Kh3.out.alloc _).cell 0
              have bh1 : (xh3.alloc (.cells #[.bool hi.neg, .slice Lh lnh lch, .int .i64 hi.e] 28)).cell? ⟨w.heap.size, 1, none⟩ = some (.int .i64 d) := (Kh3.out.alloc _).cell 1
              try have sh0 := store3_far ZBh3.out (show xh3.cell? ⟨w.heap.size, 0, none⟩ = some (.int .i64 n) from Kh3.out.cell 0) hgnh (.bool hi.neg) (.slice Lh lnh lch) (.int .i64 hi.e)
              try have sh1 := store3_far ZBh3.out (show xh3.cell? ⟨w.heap.size, 1, none⟩ = some (.int .i64 d) from Kh3.out.cell 1) hgnh (.bool hi.neg) (.slice Lh lnh lch) (.int .i64 hi.e)
              try rw [HGh.out] at sh0 sh1
              try (have z0 : xh3.cell? ⟨w3.heap.size, 0, none⟩ = some (.bool false) := (by rw [← HGh.out]; exact ZBh3.out.cell 0); have z1 : xh3.cell? ⟨w3.heap.size, 1, none⟩ = some (.slice none 0 0) := (by rw [← HGh.out]; exact ZBh3.out.cell 1); have z2 : xh3.cell? ⟨w3.heap.size, 2, none⟩ = some (.int .i64 0) := (by rw [← HGh.out]; exact ZBh3.out.cell 2); have y0 : xh3.frozen? ⟨w3.heap.size, 0, none⟩ = false := (by rw [← HGh.out]; exact ZBh3.out.frozen 0); have y1 : xh3.frozen? ⟨w3.heap.size, 1, none⟩ = false := (by rw [← HGh.out]; exact ZBh3.out.frozen 1); have y2 : xh3.frozen? ⟨w3.heap.size, 2, none⟩ = false := (by rw [← HGh.out]; exact ZBh3.out.frozen 2))
              try (have z0 : xh3.cell? ⟨xh1.heap.size, 0, none⟩ = some (.bool false) := (by rw [← HGh.out]; exact ZBh3.out.cell 0); have z1 : xh3.cell? ⟨xh1.heap.size, 1, none⟩ = some (.slice none 0 0) := (by rw [← HGh.out]; exact ZBh3.out.cell 1); have z2 : xh3.cell? ⟨xh1.heap.size, 2, none⟩ = some (.int .i64 0) := (by rw [← HGh.out]; exact ZBh3.out.cell 2); have y0 : xh3.frozen? ⟨xh1.heap.size, 0, none⟩ = false := (by rw [← HGh.out]; exact ZBh3.out.frozen 0); have y1 : xh3.frozen? ⟨xh1.heap.size, 1, none⟩ = false := (by rw [← HGh.out]; exact ZBh3.out.frozen 1); have y2 : xh3.frozen? ⟨xh1.heap.size, 2, none⟩ = false := (by rw [← HGh.out]; exact ZBh3.out.frozen 2))
              try (have z0 : xh3.cell? ⟨xh2.heap.size, 0, none⟩ = some (.bool false) := (by rw [← HGh.out]; exact ZBh3.out.cell 0); have z1 : xh3.cell? ⟨xh2.heap.size, 1, none⟩ = some (.slice none 0 0) := (by rw [← HGh.out]; exact ZBh3.out.cell 1); have z2 : xh3.cell? ⟨xh2.heap.size, 2, none⟩ = some (.int .i64 0) := (by rw [← HGh.out]; exact ZBh3.out.cell 2); have y0 : xh3.frozen? ⟨xh2.heap.size, 0, none⟩ = false := (by rw [← HGh.out]; exact ZBh3.out.frozen 0); have y1 : xh3.frozen? ⟨xh2.heap.size, 1, none⟩ = false := (by rw [← HGh.out]; exact ZBh3.out.frozen 1); have y2 : xh3.frozen? ⟨xh2.heap.size, 2, none⟩ = false := (by rw [← HGh.out]; exact ZBh3.out.frozen 2)))
           | ((with_reducible refine (DivUp_any a b Ah Bh nh ch mh dh p _ (Sh2.out.alloc _) (HUh.out.alloc _) VA.out VB.out (Th2.out.alloc _)).mono ?_)
              rw [HHI.out]
              rintro e xh3 ⟨Lh, lnh, lch, rfl, HVh, HX⟩
              obtain ⟨gh, hgh⟩ : ∃ g, g = xh2.heap.size := ⟨_, rfl⟩
              have hgnh : w.heap.size ≠ gh := by rw [hgh]; have := Kh2.out.lt; omega
              have ZBh3 := Lib.hid (show Blk xh3 gh 28 #[.bool false, .slice none 0 0, .int .i64 0] by rw [hgh]; exact (Blk.new _ _ _).belowW HX.out)
              have HGh := Lib.hid hgh
              clear hgh
              have HZh := Lib.hid (show Below xh2.heap.size xh2 xh3 from below_a HX.out)
              have Hh3 := Lib.hid (Hh2.out.trans (HZh.out.mono Hh2.out.size))
              have Kh3 := Lib.hid (F3k.out.belowW Hh3.out)
              have cxh30 : xh3.cell? ⟨w.heap.size, 0, none⟩ = some (.int .i64 n) := Kh3.out.cell 0
              have axh30 : (xh3.alloc (.cells #[.bool false, .slice none 0 0, .int .i64 0] 28)).cell? ⟨w.heap.size, 0, none⟩ = some (.int .i64 n) := (Kh3.out.alloc _).cell 0
              have cxh31 : xh3.cell? ⟨w.heap.size, 1, none⟩ = some (.int .i64 d) := Kh3.out.cell 1
              have axh31 : (xh3.alloc (.cells #[.bool false, .slice none 0 0, .int .i64 0] 28)).cell? ⟨w.heap.size, 1, none⟩ = some (.int .i64 d) := (Kh3.out.alloc _).cell 1
              have bh0 : (xh3.alloc (.cells #[.bool hi.neg, .slice Lh lnh lch, .int .i64 hi.e] 28)).cell? ⟨w.heap.size, 0, none⟩ = some (.int .i64 n) := (Kh3.out.alloc _).cell 0
              have bh1 : (xh3.alloc (.cells #[.bool hi.neg, .slice Lh lnh lch, .int .i64 hi.e] 28)).cell? ⟨w.heap.size, 1, none⟩ = some (.int .i64 d) := (Kh3.out.alloc _).cell 1
              try have sh0 := store3_far ZBh3.out (show xh3.cell? ⟨w.heap.size, 0, none⟩ = some (.int .i64 n) from Kh3.out.cell 0) hgnh (.bool hi.neg) (.slice Lh lnh lch) (.int .i64 hi.e)
              try have sh1 := store3_far ZBh3.out (show xh3.cell? ⟨w.heap.size, 1, none⟩ = some (.int .i64 d) from Kh3.out.cell 1) hgnh (.bool hi.neg) (.slice Lh lnh lch) (.int .i64 hi.e)
              try rw [HGh.out] at sh0 sh1
              try (have z0 : xh3.cell? ⟨w3.heap.size, 0, none⟩ = some (.bool false) := (by rw [← HGh.out]; exact ZBh3.out.cell 0); have z1 : xh3.cell? ⟨w3.heap.size, 1, none⟩ = some (.slice none 0 0) := (by rw [← HGh.out]; exact ZBh3.out.cell 1); have z2 : xh3.cell? ⟨w3.heap.size, 2, none⟩ = some (.int .i64 0) := (by rw [← HGh.out]; exact ZBh3.out.cell 2); have y0 : xh3.frozen? ⟨w3.heap.size, 0, none⟩ = false := (by rw [← HGh.out]; exact ZBh3.out.frozen 0); have y1 : xh3.frozen? ⟨w3.heap.size, 1, none⟩ = false := (by rw [← HGh.out]; exact ZBh3.out.frozen 1); have y2 : xh3.frozen? ⟨w3.heap.size, 2, none⟩ = false := (by rw [← HGh.out]; exact ZBh3.out.frozen 2))
              try (have z0 : xh3.cell? ⟨xh1.heap.size, 0, none⟩ = some (.bool false) := (by rw [← HGh.out]; exact ZBh3.out.cell 0); have z1 : xh3.cell? ⟨xh1.heap.size, 1, none⟩ = some (.slice none 0 0) := (by rw [← HGh.out]; exact ZBh3.out.cell 1); have z2 : xh3.cell? ⟨xh1.heap.size, 2, none⟩ = some (.int .i64 0) := (by rw [← HGh.out]; exact ZBh3.out.cell 2); have y0 : xh3.frozen? ⟨xh1.heap.size, 0, none⟩ = false := (by rw [← HGh.out]; exact ZBh3.out.frozen 0); have y1 : xh3.frozen? ⟨xh1.heap.size, 1, none⟩ = false := (by rw [← HGh.out]; exact ZBh3.out.frozen 1); have y2 : xh3.frozen? ⟨xh1.heap.size, 2, none⟩ = false := (by rw [← HGh.out]; exact ZBh3.out.frozen 2))
              try (have z0 : xh3.cell? ⟨xh2.heap.size, 0, none⟩ = some (.bool false) := (by rw [← HGh.out]; exact ZBh3.out.cell 0); have z1 : xh3.cell? ⟨xh2.heap.size, 1, none⟩ = some (.slice none 0 0) := (by rw [← HGh.out]; exact ZBh3.out.cell 1); have z2 : xh3.cell? ⟨xh2.heap.size, 2, none⟩ = some (.int .i64 0) := (by rw [← HGh.out]; exact ZBh3.out.cell 2); have y0 : xh3.frozen? ⟨xh2.heap.size, 0, none⟩ = false := (by rw [← HGh.out]; exact ZBh3.out.frozen 0); have y1 : xh3.frozen? ⟨xh2.heap.size, 1, none⟩ = false := (by rw [← HGh.out]; exact ZBh3.out.frozen 1); have y2 : xh3.frozen? ⟨xh2.heap.size, 2, none⟩ = false := (by rw [← HGh.out]; exact ZBh3.out.frozen 2)))))
      all_goals go_wp2_with fail
      all_goals
        first
        | (rw [← HGh.out]
           rw [store3_put ZBh3.out]
           have HGL := Lib.hid (show w3.heap.size ≤ gh by rw [HGh.out]; first | exact Nat.le_refl _ | exact Hh1.out.size | exact Hh2.out.size)
           go_meet
           exact ⟨gh, Lh, lnh, lch, rfl, rfl, Lib.hid (ZBh3.out.put _), Lib.hid (HVh.out.far ZBh3.out noU3 (putB_grown _ _ _ _)), HGL, Lib.hid (Hh3.out.trans (putB_below _ _ _ _ HGL.out))⟩)
        | (go_meet
           exact ⟨xh3.heap.size, Lh, lnh, lch, rfl, rfl, Lib.hid (Blk.new _ _ _), Lib.hid (HVh.out.alloc _), Lib.hid Hh3.out.size, Lib.hid (Hh3.out.trans ((below_a1 _ _).mono Hh3.out.size))⟩)
    case rest =>
      obtain ⟨gh, Lh, lnh, lch, rfl, rfl, F4vh, F4lh, HGh, HQ4⟩ := hcut
      obtain ⟨w4, hw⟩ : ∃ z9 : World, z9 = wc := ⟨_, rfl⟩
      rw [← hw] at F4vh F4lh HQ4 ⊢
      clear hw
      have F4t := Lib.hid (F3t.out.belowW HQ4.out)
      have F4k := Lib.hid (F3k.out.belowW HQ4.out)
      have F4r := Lib.hid (F3r.out.belowW HQ4.out)
      have F4vf := Lib.hid (F3vf.out.belowW HQ4.out)
      have F4lf := Lib.hid (F3lf.out.belowW HQ4.out)
      have HL4 := Lib.hid (HL3.out.trans (HQ4.out.mono HL3.out.size))
      clear pk0 pk1 fk0 fk1
      have pr0 : (w4).cell? ⟨w.heap.size + 1, 0, none⟩ = some (.bool false) := F4r.out.cell 0
      have fr0 : (w4).frozen? ⟨w.heap.size + 1, 0, none⟩ = false := F4r.out.frozen 0
      have pr1 : (w4).cell? ⟨w.heap.size + 1, 1, none⟩ = some (.slice none 0 0) := F4r.out.cell 1
      have fr1 : (w4).frozen? ⟨w.heap.size + 1, 1, none⟩ = false := F4r.out.frozen 1
      have pr2 : (w4).cell? ⟨w.heap.size + 1, 2, none⟩ = some (.int .i64 0) := F4r.out.cell 2
      have fr2 : (w4).frozen? ⟨w.heap.size + 1, 2, none⟩ = false := F4r.out.frozen 2
      have pr3 : (w4).cell? ⟨w.heap.size + 1, 3, none⟩ = some (.bool false) := F4r.out.cell 3
      have fr3 : (w4).frozen? ⟨w.heap.size + 1, 3, none⟩ = false := F4r.out.frozen 3
      have pr4 : (w4).cell? ⟨w.heap.size + 1, 4, none⟩ = some (.slice none 0 0) := F4r.out.cell 4
      have fr4 : (w4).frozen? ⟨w.heap.size + 1, 4, none⟩ = false := F4r.out.frozen 4
      have pr5 : (w4).cell? ⟨w.heap.size + 1, 5, none⟩ = some (.int .i64 0) := F4r.out.cell 5
      have fr5 : (w4).frozen? ⟨w.heap.size + 1, 5, none⟩ = false := F4r.out.frozen 5
      have pr6 : (w4).cell? ⟨w.heap.size + 1, 6, none⟩ = some (.bool false) := F4r.out.cell 6
      have fr6 : (w4).frozen? ⟨w.heap.size + 1, 6, none⟩ = false := F4r.out.frozen 6
      have pvf0 : (w4).cell? ⟨gf, 0, none⟩ = some (.bool lo.neg) := F4vf.out.cell 0
      have fvf0 : (w4).frozen? ⟨gf, 0, none⟩ = false := F4vf.out.frozen 0
      have pvf1 : (w4).cell? ⟨gf, 1, none⟩ = some (.slice Lf lnf lcf) := F4vf.out.cell 1
      have fvf1 : (w4).frozen? ⟨gf, 1, none⟩ = false := F4vf.out.frozen 1
      have pvf2 : (w4).cell? ⟨gf, 2, none⟩ = some (.int .i64 lo.e) := F4vf.out.cell 2
      have fvf2 : (w4).frozen? ⟨gf, 2, none⟩ = false := F4vf.out.frozen 2
      have pvh0 : (w4).cell? ⟨gh, 0, none⟩ = some (.bool hi.neg) := F4vh.out.cell 0
      have fvh0 : (w4).frozen? ⟨gh, 0, none⟩ = false := F4vh.out.frozen 0
      have pvh1 : (w4).cell? ⟨gh, 1, none⟩ = some (.slice Lh lnh lch) := F4vh.out.cell 1
      have fvh1 : (w4).frozen? ⟨gh, 1, none⟩ = false := F4vh.out.frozen 1
      have pvh2 : (w4).cell? ⟨gh, 2, none⟩ = some (.int .i64 hi.e) := F4vh.out.cell 2
      have fvh2 : (w4).frozen? ⟨gh, 2, none⟩ = false := F4vh.out.frozen 2
      by_cases hel : el = 0
      · subst hel
        by_cases heh : eh = 0
        · subst heh
          have HF := Lib.hid (show encR n d p = (lo, hi, false) by rw [HR.out, if_pos ⟨rfl, rfl⟩])
          go_wp2_with fail
          rw [store7_put F4r.out]
          have FR9 := Lib.hid (F4r.out.put #[.bool lo.neg, .slice Lf lnf lcf, .int .i64 lo.e, .bool hi.neg, .slice Lh lnh lch, .int .i64 hi.e, .bool false])
          have HL9 := Lib.hid (HL4.out.trans (putB_below w4 _ 30 #[.bool lo.neg, .slice Lf lnf lcf, .int .i64 lo.e, .bool hi.neg, .slice Lh lnh lch, .int .i64 hi.e, .bool false] (by omega : w.heap.size ≤ w.heap.size + 1)))
          have G9 := putB_grown w4 (w.heap.size + 1) 30 #[.bool lo.neg, .slice Lf lnf lcf, .int .i64 lo.e, .bool hi.neg, .slice Lh lnh lch, .int .i64 hi.e, .bool false]
          have A9 := Lib.hid (F4lf.out.far F4r.out noU7 G9)
          have B9 := Lib.hid (F4lh.out.far F4r.out noU7 G9)
          clear G9
          clear pr0 fr0 pr1 fr1 pr2 fr2 pr3 fr3 pr4 fr4 pr5 fr5 pr6 fr6 pvf0 fvf0 pvf1 fvf1 pvf2 fvf2 pvh0 fvh0 pvh1 fvh1 pvh2 fvh2
          obtain ⟨w9, hw⟩ : ∃ z9 : World, z9 = putB w4 (w.heap.size + 1) 30 #[.bool lo.neg, .slice Lf lnf lcf, .int .i64 lo.e, .bool hi.neg, .slice Lh lnh lch, .int .i64 hi.e, .bool false] := ⟨_, rfl⟩
          rw [← hw] at FR9 HL9 A9 B9 ⊢
          clear hw
          have pr0 : (w9).cell? ⟨w.heap.size + 1, 0, none⟩ = some (.bool lo.neg) := FR9.out.cell 0
          have fr0 : (w9).frozen? ⟨w.heap.size + 1, 0, none⟩ = false := FR9.out.frozen 0
          have pr1 : (w9).cell? ⟨w.heap.size + 1, 1, none⟩ = some (.slice Lf lnf lcf) := FR9.out.cell 1
          have fr1 : (w9).frozen? ⟨w.heap.size + 1, 1, none⟩ = false := FR9.out.frozen 1
          have pr2 : (w9).cell? ⟨w.heap.size + 1, 2, none⟩ = some (.int .i64 lo.e) := FR9.out.cell 2
          have fr2 : (w9).frozen? ⟨w.heap.size + 1, 2, none⟩ = false := FR9.out.frozen 2
          have pr3 : (w9).cell? ⟨w.heap.size + 1, 3, none⟩ = some (.bool hi.neg) := FR9.out.cell 3
          have fr3 : (w9).frozen? ⟨w.heap.size + 1, 3, none⟩ = false := FR9.out.frozen 3
          have pr4 : (w9).cell? ⟨w.heap.size + 1, 4, none⟩ = some (.slice Lh lnh lch) := FR9.out.cell 4
          have fr4 : (w9).frozen? ⟨w.heap.size + 1, 4, none⟩ = false := FR9.out.frozen 4
          have pr5 : (w9).cell? ⟨w.heap.size + 1, 5, none⟩ = some (.int .i64 hi.e) := FR9.out.cell 5
          have fr5 : (w9).frozen? ⟨w.heap.size + 1, 5, none⟩ = false := FR9.out.frozen 5
          have pr6 : (w9).cell? ⟨w.heap.size + 1, 6, none⟩ = some (.bool false) := FR9.out.cell 6
          have fr6 : (w9).frozen? ⟨w.heap.size + 1, 6, none⟩ = false := FR9.out.frozen 6
          refine bodyPost_ret (v := .agg #[.bool lo.neg, .slice Lf lnf lcf, .int .i64 lo.e, .bool hi.neg, .slice Lh lnh lch, .int .i64 hi.e, .bool false]) (by simp [results, Tryz.results15, go_sem, pr0, pr1, pr2, pr3, pr4, pr5, pr6]) rfl ?_
          rw [HF.out]
          exact ⟨Lf, Lh, lnf, lcf, lnh, lch, rfl, A9, B9, HL9⟩
        · have deh : (eh != 0) = true := by simp [heh]
          have HF := Lib.hid (show encR n d p = (⟨false, 0, 0⟩, ⟨false, 0, 0⟩, true) by rw [HR.out, if_neg (fun h => heh h.2)])
          clear heh
          go_wp2_with fail
          rw [store7_put F4r.out]
          have FR9 := Lib.hid (F4r.out.put #[.bool false, .slice none 0 0, .int .i64 0, .bool false, .slice none 0 0, .int .i64 0, .bool true])
          have HL9 := Lib.hid (HL4.out.trans (putB_below w4 _ 30 #[.bool false, .slice none 0 0, .int .i64 0, .bool false, .slice none 0 0, .int .i64 0, .bool true] (by omega : w.heap.size ≤ w.heap.size + 1)))
          have G9 := putB_grown w4 (w.heap.size + 1) 30 #[.bool false, .slice none 0 0, .int .i64 0, .bool false, .slice none 0 0, .int .i64 0, .bool true]
          have A9 := Lib.hid (F4lf.out.far F4r.out noU7 G9)
          have B9 := Lib.hid (F4lh.out.far F4r.out noU7 G9)
          clear G9
          clear pr0 fr0 pr1 fr1 pr2 fr2 pr3 fr3 pr4 fr4 pr5 fr5 pr6 fr6 pvf0 fvf0 pvf1 fvf1 pvf2 fvf2 pvh0 fvh0 pvh1 fvh1 pvh2 fvh2
          obtain ⟨w9, hw⟩ : ∃ z9 : World, z9 = putB w4 (w.heap.size + 1) 30 #[.bool false, .slice none 0 0, .int .i64 0, .bool false, .slice none 0 0, .int .i64 0, .bool true] := ⟨_, rfl⟩
          rw [← hw] at FR9 HL9 A9 B9 ⊢
          clear hw
          have pr0 : (w9).cell? ⟨w.heap.size + 1, 0, none⟩ = some (.bool false) := FR9.out.cell 0
          have fr0 : (w9).frozen? ⟨w.heap.size + 1, 0, none⟩ = false := FR9.out.frozen 0
          have pr1 : (w9).cell? ⟨w.heap.size + 1, 1, none⟩ = some (.slice none 0 0) := FR9.out.cell 1
          have fr1 : (w9).frozen? ⟨w.heap.size + 1, 1, none⟩ = false := FR9.out.frozen 1
          have pr2 : (w9).cell? ⟨w.heap.size + 1, 2, none⟩ = some (.int .i64 0) := FR9.out.cell 2
          have fr2 : (w9).frozen? ⟨w.heap.size + 1, 2, none⟩ = false := FR9.out.frozen 2
          have pr3 : (w9).cell? ⟨w.heap.size + 1, 3, none⟩ = some (.bool false) := FR9.out.cell 3
          have fr3 : (w9).frozen? ⟨w.heap.size + 1, 3, none⟩ = false := FR9.out.frozen 3
          have pr4 : (w9).cell? ⟨w.heap.size + 1, 4, none⟩ = some (.slice none 0 0) := FR9.out.cell 4
          have fr4 : (w9).frozen? ⟨w.heap.size + 1, 4, none⟩ = false := FR9.out.frozen 4
          have pr5 : (w9).cell? ⟨w.heap.size + 1, 5, none⟩ = some (.int .i64 0) := FR9.out.cell 5
          have fr5 : (w9).frozen? ⟨w.heap.size + 1, 5, none⟩ = false := FR9.out.frozen 5
          have pr6 : (w9).cell? ⟨w.heap.size + 1, 6, none⟩ = some (.bool true) := FR9.out.cell 6
          have fr6 : (w9).frozen? ⟨w.heap.size + 1, 6, none⟩ = false := FR9.out.frozen 6
          refine bodyPost_ret (v := .agg #[.bool false, .slice none 0 0, .int .i64 0, .bool false, .slice none 0 0, .int .i64 0, .bool true]) (by simp [results, Tryz.results15, go_sem, pr0, pr1, pr2, pr3, pr4, pr5, pr6]) rfl ?_
          exact ivr_all HF.out rfl HL9.out
      · have del : (el != 0) = true := by simp [hel]
        have HF := Lib.hid (show encR n d p = (⟨false, 0, 0⟩, ⟨false, 0, 0⟩, true) by rw [HR.out, if_neg (fun h => hel h.1)])
        clear hel
        go_wp2_with fail
        rw [store7_put F4r.out]
        have FR9 := Lib.hid (F4r.out.put #[.bool false, .slice none 0 0, .int .i64 0, .bool false, .slice none 0 0, .int .i64 0, .bool true])
        have HL9 := Lib.hid (HL4.out.trans (putB_below w4 _ 30 #[.bool false, .slice none 0 0, .int .i64 0, .bool false, .slice none 0 0, .int .i64 0, .bool true] (by omega : w.heap.size ≤ w.heap.size + 1)))
        have G9 := putB_grown w4 (w.heap.size + 1) 30 #[.bool false, .slice none 0 0, .int .i64 0, .bool false, .slice none 0 0, .int .i64 0, .bool true]
        have A9 := Lib.hid (F4lf.out.far F4r.out noU7 G9)
        have B9 := Lib.hid (F4lh.out.far F4r.out noU7 G9)
        clear G9
        clear pr0 fr0 pr1 fr1 pr2 fr2 pr3 fr3 pr4 fr4 pr5 fr5 pr6 fr6 pvf0 fvf0 pvf1 fvf1 pvf2 fvf2 pvh0 fvh0 pvh1 fvh1 pvh2 fvh2
        obtain ⟨w9, hw⟩ : ∃ z9 : World, z9 = putB w4 (w.heap.size + 1) 30 #[.bool false, .slice none 0 0, .int .i64 0, .bool false, .slice none 0 0, .int .i64 0, .bool true] := ⟨_, rfl⟩
        rw [← hw] at FR9 HL9 A9 B9 ⊢
        clear hw
        have pr0 : (w9).cell? ⟨w.heap.size + 1, 0, none⟩ = some (.bool false) := FR9.out.cell 0
        have fr0 : (w9).frozen? ⟨w.heap.size + 1, 0, none⟩ = false := FR9.out.frozen 0
        have pr1 : (w9).cell? ⟨w.heap.size + 1, 1, none⟩ = some (.slice none 0 0) := FR9.out.cell 1
        have fr1 : (w9).frozen? ⟨w.heap.size + 1, 1, none⟩ = false := FR9.out.frozen 1
        have pr2 : (w9).cell? ⟨w.heap.size + 1, 2, none⟩ = some (.int .i64 0) := FR9.out.cell 2
        have fr2 : (w9).frozen? ⟨w.heap.size + 1, 2, none⟩ = false := FR9.out.frozen 2
        have pr3 : (w9).cell? ⟨w.heap.size + 1, 3, none⟩ = some (.bool false) := FR9.out.cell 3
        have fr3 : (w9).frozen? ⟨w.heap.size + 1, 3, none⟩ = false := FR9.out.frozen 3
        have pr4 : (w9).cell? ⟨w.heap.size + 1, 4, none⟩ = some (.slice none 0 0) := FR9.out.cell 4
        have fr4 : (w9).frozen? ⟨w.heap.size + 1, 4, none⟩ = false := FR9.out.frozen 4
        have pr5 : (w9).cell? ⟨w.heap.size + 1, 5, none⟩ = some (.int .i64 0) := FR9.out.cell 5
        have fr5 : (w9).frozen? ⟨w.heap.size + 1, 5, none⟩ = false := FR9.out.frozen 5
        have pr6 : (w9).cell? ⟨w.heap.size + 1, 6, none⟩ = some (.bool true) := FR9.out.cell 6
        have fr6 : (w9).frozen? ⟨w.heap.size + 1, 6, none⟩ = false := FR9.out.frozen 6
        refine bodyPost_ret (v := .agg #[.bool false, .slice none 0 0, .int .i64 0, .bool false, .slice none 0 0, .int .i64 0, .bool true]) (by simp [results, Tryz.results15, go_sem, pr0, pr1, pr2, pr3, pr4, pr5, pr6]) rfl ?_
        exact ivr_all HF.out rfl HL9.out

theorem enclose_any (n d p : Int) (w : World) (hT : RB w) (h1 : -9223372036854775808 ≤ n) (h2 : n ≤ 9223372036854775807) (h3 : -9223372036854775808 ≤ d) (h4 : d ≤ 9223372036854775807) :
    Calls Tryz.prog 15 #[.agg #[.int .i64 n, .int .i64 d], .int .i64 p] w (IvR (encR n d p) w) := by
  cases hv : vB n d with
  | true => exact enclose_yes n d p w hT h1 h2 h3 h4 hv
  | false => exact enclose_no n d p w hT h1 h2 h3 h4 hv
end Go.Proofs.YtnogfceojmnjiaaGreatDoor
