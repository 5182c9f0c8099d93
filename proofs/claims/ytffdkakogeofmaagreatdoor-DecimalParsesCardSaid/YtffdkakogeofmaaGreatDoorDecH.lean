/-
  The walk of decimal.read.
-/
import Derived.Test.YtffdkakogeofmaaGreatDoorDecG
set_option linter.unusedVariables false
namespace Go.Fl
open Go.RowKit
theorem Blk.all2 {w : World} {g : Nat} {t : TypeId} {a0 a1 : Value} (h : Blk w g t #[a0, a1]) : w.cell? ⟨g, 0, none⟩ = some a0 ∧ w.frozen? ⟨g, 0, none⟩ = false ∧ w.cell? ⟨g, 1, none⟩ = some a1 ∧ w.frozen? ⟨g, 1, none⟩ = false :=
  ⟨h.cell 0, h.frozen 0, h.cell 1, h.frozen 1⟩
theorem Blk.all3 {w : World} {g : Nat} {t : TypeId} {a0 a1 a2 : Value} (h : Blk w g t #[a0, a1, a2]) : w.cell? ⟨g, 0, none⟩ = some a0 ∧ w.frozen? ⟨g, 0, none⟩ = false ∧ w.cell? ⟨g, 1, none⟩ = some a1 ∧ w.frozen? ⟨g, 1, none⟩ = false ∧ w.cell? ⟨g, 2, none⟩ = some a2 ∧ w.frozen? ⟨g, 2, none⟩ = false :=
  ⟨h.cell 0, h.frozen 0, h.cell 1, h.frozen 1, h.cell 2, h.frozen 2⟩
theorem Blk.all4 {w : World} {g : Nat} {t : TypeId} {a0 a1 a2 a3 : Value} (h : Blk w g t #[a0, a1, a2, a3]) : w.cell? ⟨g, 0, none⟩ = some a0 ∧ w.frozen? ⟨g, 0, none⟩ = false ∧ w.cell? ⟨g, 1, none⟩ = some a1 ∧ w.frozen? ⟨g, 1, none⟩ = false ∧ w.cell? ⟨g, 2, none⟩ = some a2 ∧ w.frozen? ⟨g, 2, none⟩ = false ∧ w.cell? ⟨g, 3, none⟩ = some a3 ∧ w.frozen? ⟨g, 3, none⟩ = false :=
  ⟨h.cell 0, h.frozen 0, h.cell 1, h.frozen 1, h.cell 2, h.frozen 2, h.cell 3, h.frozen 3⟩
theorem Blk.all7 {w : World} {g : Nat} {t : TypeId} {a0 a1 a2 a3 a4 a5 a6 : Value} (h : Blk w g t #[a0, a1, a2, a3, a4, a5, a6]) : w.cell? ⟨g, 0, none⟩ = some a0 ∧ w.frozen? ⟨g, 0, none⟩ = false ∧ w.cell? ⟨g, 1, none⟩ = some a1 ∧ w.frozen? ⟨g, 1, none⟩ = false ∧ w.cell? ⟨g, 2, none⟩ = some a2 ∧ w.frozen? ⟨g, 2, none⟩ = false ∧ w.cell? ⟨g, 3, none⟩ = some a3 ∧ w.frozen? ⟨g, 3, none⟩ = false ∧ w.cell? ⟨g, 4, none⟩ = some a4 ∧ w.frozen? ⟨g, 4, none⟩ = false ∧ w.cell? ⟨g, 5, none⟩ = some a5 ∧ w.frozen? ⟨g, 5, none⟩ = false ∧ w.cell? ⟨g, 6, none⟩ = some a6 ∧ w.frozen? ⟨g, 6, none⟩ = false :=
  ⟨h.cell 0, h.frozen 0, h.cell 1, h.frozen 1, h.cell 2, h.frozen 2, h.cell 3, h.frozen 3, h.cell 4, h.frozen 4, h.cell 5, h.frozen 5, h.cell 6, h.frozen 6⟩
end Go.Fl
namespace Go.Fl
open Go.RowKit
theorem store4_put {w : World} {g : Nat} {t : TypeId} {a b c d : Value} (hB : Blk w g t #[a, b, c, d]) (a' b' c' d' : Value) :
    (((w.setCell ⟨g, 0, none⟩ a').setCell ⟨g, 1, none⟩ b').setCell ⟨g, 2, none⟩ c').setCell ⟨g, 3, none⟩ d' = putB w g t #[a', b', c', d'] := by
  rw [hB.setCell_eq 0 a', (hB.put _).setCell_eq 1 b', putB_putB, (hB.put _).setCell_eq 2 c', putB_putB, (hB.put _).setCell_eq 3 d', putB_putB]
  rfl
theorem store2_4 {w : World} {g : Nat} {t : TypeId} {a b c d : Value} (hB : Blk w g t #[a, b, c, d]) (a' b' : Value) : (w.setCell ⟨g, 0, none⟩ a').setCell ⟨g, 1, none⟩ b' = putB w g t #[a', b', c, d] := by
  rw [hB.setCell_eq 0 a', (hB.put _).setCell_eq 1 b', putB_putB]
  rfl
theorem noU4 {a : Bool} {A : Option Addr} {n c : Nat} {e f : Int} : NoU #[.bool a, .slice A n c, .int .i64 e, .int .i64 f] := by
  intro i x h
  match i with
  | 0 => simp at h
  | 1 => simp at h
  | 2 => simp at h
  | 3 => simp at h
  | i + 4 => simp at h
end Go.Fl
namespace Go.Fl.Dy
open Go.Fl.Nm
theorem pre_head (l : List UInt8) : Go.Lib.hasPrefix l [45] = ngD l ∧ Go.Lib.trimPrefix l [45] = rsD l := by
  unfold ngD rsD
  cases l with
  | nil => exact ⟨by rfl, by rfl⟩
  | cons c t =>
    unfold Go.Lib.trimPrefix Go.Lib.hasPrefix
    by_cases h : c = 45
    · subst h; simp [ngD]
    · have h2 : (45 == c) = false := by rw [beq_eq_false_iff_ne]; exact fun e => h e.symm
      have h3 : (c == 45) = false := by rw [beq_eq_false_iff_ne]; exact h
      simp [List.isPrefixOf, h2, h3, ngD]
theorem tw_not_mem (b : List UInt8) (c : UInt8) : c ∉ b.takeWhile (· != c) := by
  induction b with
  | nil => simp
  | cons x b ih =>
    by_cases hx : x = c
    · subst hx; simp
    · rw [List.takeWhile_cons_of_pos (by simpa using hx)]
      intro h
      rcases List.mem_cons.1 h with h | h
      · exact hx h.symm
      · exact ih h
theorem pt_split {r : List UInt8} (h : ptB r = true) : r = whD r ++ 46 :: frD r ∧ (46 : UInt8) ∉ whD r := by
  unfold ptB at h
  unfold whD frD ptB
  rw [if_pos h, if_pos h]
  refine ⟨?_, fun hm => ?_⟩
  · have h1 : (46 : UInt8) ∈ r := by simpa using h
    have h2 := List.takeWhile_append_dropWhile (p := (· != 46)) (l := r)
    cases hd : r.dropWhile (· != 46) with
    | nil =>
      exfalso
      have h3 := (dw_nil (· != 46) r).1 hd 46 h1
      simp at h3
    | cons y t =>
      have hy := dw_head hd
      have : y = 46 := by simpa using hy
      rw [hd, this] at h2
      rw [List.tail_cons]
      exact h2.symm
  · exact tw_not_mem r 46 hm
end Go.Fl.Dy
namespace Go.Proofs.YtffdkakogeofmaaGreatDoor
open Go.RowKit Go.Fl Go.Fl.Nm Go.Fl.Dy
/-- Behind strings.Cut at the point. -/
def Cut46 (r : List UInt8) (w : World) (e : Ending) (w' : World) : Prop :=
  ∃ A B : ByteArray, e = .returned (.tuple #[.string A, .string B, .bool (ptB r)]) ∧ Hid (A.data.toList = whD r) ∧ Hid (B.data.toList = frD r) ∧ Hid (Below w.heap.size w w')
theorem cut46_any (s : ByteArray) (w : World) (hs : s.size ≤ 100000) : Calls Tryz.prog 24 #[.string s, .string ⟨#[46]⟩] w (Cut46 s.data.toList w) := by
  cases h : ptB s.data.toList with
  | true =>
    obtain ⟨h1, h2⟩ := pt_split h
    refine (cut_yes s 46 _ _ w hs h1 h2).mono ?_
    rintro e w' ⟨A, B, rfl, HA, HB, HL⟩
    exact ⟨A, B, by rw [h], HA, HB, HL⟩
  | false =>
    refine (cut_no s 46 w hs (by unfold ptB at h; simpa using h)).mono ?_
    rintro e w' ⟨rfl, rfl⟩
    exact ⟨s, ⟨#[]⟩, by rw [h], Lib.hid (by unfold whD; rw [h]; rfl), Lib.hid (by unfold frD; rw [h]; rfl), Lib.hid (Below.refl _ _)⟩
theorem nParse_sl (s : ByteArray) (l : List UInt8) (w : World) (hl : s.data.toList = l) (h : s.size ≤ 1000) (hn : isNum l = true) (hb : blen (dval l) ≤ 8192) :
    Calls Tryz.prog 63 #[.string s] w (SlR (dval l) w) := by
  subst hl
  exact (nParse_ok s w h hn).mono fun _ _ h => SlR.of h hb
/-- A decimal number, and whether it is one. -/
def RdP (r : DN × Bool) (w : World) (e : Ending) (w' : World) : Prop :=
  ∃ (A : Option Addr) (n c : Nat), e = .returned (.tuple #[.agg #[.bool r.1.neg, .slice A n c, .int .i64 r.1.b, .int .i64 r.1.t], .bool r.2]) ∧ Hid (Sl w' A n c (limbs r.1.v)) ∧ Hid (Below w.heap.size w w')
set_option maxHeartbeats 4000000 in
theorem read_any (s : ByteArray) (w : World) (hs : s.size ≤ 3000) (hT : RB w) :
    Calls Tryz.prog 32 #[.string s] w (RdP (rdN s.data.toList) w) := by
  have HT := Lib.hid hT
  obtain ⟨r, hr⟩ : ∃ r, rsD s.data.toList = r := ⟨_, rfl⟩
  obtain ⟨ng, hng⟩ : ∃ b, ngD s.data.toList = b := ⟨_, rfl⟩
  have hrl : r.length ≤ 3000 := by
    have : s.data.toList.length ≤ 3000 := by rw [length_data]; exact hs
    rw [← hr]; unfold rsD; split
    · simp at this ⊢; omega
    · exact this
  have HP1 := Lib.hid (show Go.Lib.hasPrefix s.data.toList (⟨#[45]⟩ : ByteArray).data.toList = ng by rw [← hng]; exact (pre_head s.data.toList).1)
  have HP2 := Lib.hid (show Go.Lib.trimPrefix s.data.toList (⟨#[45]⟩ : ByteArray).data.toList = r by rw [← hr]; exact (pre_head s.data.toList).2)
  have HRS := Lib.hid hr
  have HNG := Lib.hid hng
  clear hT hr hng
  go_enter Tryz.func32, Tryz.ntmps32
  go_wp2_with fail
  obtain ⟨w1, hw⟩ : ∃ z9 : World, z9 = (w.alloc (.cells #[.bool false, .slice none 0 0, .int .i64 0, .int .i64 0] 56)) := ⟨_, rfl⟩
  have HB1 := Lib.hid (show Below w.heap.size w w1 by rw [hw]; exact below_a1 _ _)
  have F1t := Lib.hid (HT.out.belowW HB1.out)
  have F1r := Lib.hid (show Blk w1 (w.heap.size) 56 #[.bool false, .slice none 0 0, .int .i64 0, .int .i64 0] by rw [hw]; exact Blk.new _ _ _)
  rw [← hw]
  clear hw
  refine (Tryz.strings_CutPrefix s ⟨#[45]⟩ w1).mono ?_
  rintro e w' ⟨rfl, hw⟩
  obtain rfl := hw.symm
  clear hw
  obtain ⟨R, hR⟩ : ∃ R : ByteArray, R = ⟨(Go.Lib.trimPrefix s.data.toList (⟨#[45]⟩ : ByteArray).data.toList).toArray⟩ := ⟨_, rfl⟩
  have HRL := Lib.hid (show R.data.toList = r by rw [hR]; exact HP2.out)
  rw [← hR, HP1.out]
  clear hR
  have hRs : R.size ≤ 100000 := by rw [← length_data, HRL.out]; omega
  go_wp2_with fail
  refine (cut46_any R w1 hRs).mono ?_
  rw [HRL.out]
  rintro e w2 ⟨A, B, rfl, HA, HYb, HB2⟩
  have F2t := Lib.hid (F1t.out.belowW HB2.out)
  have F2r := Lib.hid (F1r.out.belowW HB2.out)
  have HL2 := Lib.hid (HB1.out.trans (HB2.out.mono HB1.out.size))
  have hA : A.size ≤ 3000 := by
    rw [← length_data, HA.out]
    unfold whD
    split
    · exact Nat.le_trans (List.takeWhile_sublist _).length_le hrl
    · exact hrl
  have hB : B.size ≤ 3000 := by
    rw [← length_data, HYb.out]
    unfold frD
    split
    · rw [List.length_tail]
      have := (List.dropWhile_sublist (p := (· != (46 : UInt8))) (l := r)).length_le
      omega
    · simp
  obtain ⟨pt, hpt⟩ : ∃ p, ptB r = p := ⟨_, rfl⟩
  have HPT := Lib.hid hpt
  rw [hpt]
  clear hpt
  have hA5 : A.size ≤ 100000 := by omega
  have hB5 : B.size ≤ 100000 := by omega
  go_wp2_with fail
  obtain ⟨g1, hg1⟩ : ∃ g, Rt.digs (whD r) = g := ⟨_, rfl⟩
  obtain ⟨g2, hg2⟩ : ∃ g, Rt.digs (frD r) = g := ⟨_, rfl⟩
  have HG1 := Lib.hid (show Rt.digs A.data.toList = g1 by rw [HA.out, hg1])
  have HG2 := Lib.hid (show Rt.digs B.data.toList = g2 by rw [HYb.out, hg2])
  have HOK := Lib.hid (show okD r = (g1 && (!pt || g2)) by unfold okD; rw [hg1, hg2, HPT.out])
  clear hg1 hg2
  refine (digits_any A w2 hA5).mono ?_
  rw [HG1.out]
  rintro e w3 ⟨rfl, HB3⟩
  have F3t := Lib.hid (F2t.out.belowW HB3.out)
  have F3r := Lib.hid (F2r.out.belowW HB3.out)
  have HL3 := Lib.hid (HL2.out.trans (HB3.out.mono HL2.out.size))
  cases g1 with
  | false =>
    have HNO := Lib.hid (show rdN s.data.toList = (⟨false, 0, 0, 0⟩, false) by unfold rdN; rw [HRS.out, HOK.out]; rfl)
    obtain ⟨pr0, fr0, pr1, fr1, pr2, fr2, pr3, fr3⟩ := F3r.out.all4
    go_wp2_with fail
    rw [store4_put F3r.out]
    have FR9 := Lib.hid (F3r.out.put #[.bool false, .slice none 0 0, .int .i64 0, .int .i64 0])
    have HL9 := Lib.hid (HL3.out.trans (putB_below w3 _ 56 #[.bool false, .slice none 0 0, .int .i64 0, .int .i64 0] (Nat.le_refl _)))
    clear pr0 fr0 pr1 fr1 pr2 fr2 pr3 fr3
    obtain ⟨w9, hw⟩ : ∃ z9 : World, z9 = putB w3 w.heap.size 56 #[.bool false, .slice none 0 0, .int .i64 0, .int .i64 0] := ⟨_, rfl⟩
    rw [← hw] at FR9 HL9  ⊢
    clear hw
    obtain ⟨pr0, fr0, pr1, fr1, pr2, fr2, pr3, fr3⟩ := FR9.out.all4
    refine bodyPost_ret (v := .tuple #[.agg #[.bool false, .slice none 0 0, .int .i64 0, .int .i64 0], .bool false]) (by simp [results, Tryz.results32, go_sem, pr0, pr1, pr2, pr3]) rfl ?_
    rw [HNO.out]
    exact ⟨none, 0, 0, rfl, Lib.hid (by rw [limbs_zero]; exact Sl.none_ _), HL9⟩
  | true =>
    cases pt with
    | false =>
      go_upto_region 6 with (fail)
      obtain ⟨w4, hw⟩ : ∃ z9 : World, z9 = w3.alloc (.cells #[.bool false, .slice none 0 0, .int .i64 (B.size : Int), .int .i64 ((A.size : Int) + (B.size : Int))] 56) := ⟨_, rfl⟩
      have HB4 := Lib.hid (show Below w3.heap.size w3 w4 by rw [hw]; exact below_a1 _ _)
      have F4n := Lib.hid (show Blk w4 w3.heap.size 56 #[.bool false, .slice none 0 0, .int .i64 (B.size : Int), .int .i64 ((A.size : Int) + (B.size : Int))] by rw [hw]; exact Blk.new _ _ _)
      rw [← hw]
      clear hw
      have F4t := Lib.hid (F3t.out.belowW HB4.out)
      have F4r := Lib.hid (F3r.out.belowW HB4.out)
      have HL4 := Lib.hid (HL3.out.trans (HB4.out.mono HL3.out.size))
      have HNL := Lib.hid (show w.heap.size ≤ w3.heap.size from HL3.out.size)
      have HNE := Lib.hid (show w.heap.size ≠ w3.heap.size from Nat.ne_of_lt F3r.out.lt)
      have HOK1 := Lib.hid (show okD r = true by rw [HOK.out]; rfl)
      have HAl := Lib.hid (show (whD r).length = A.size by rw [← HA.out]; rfl)
      have HBl := Lib.hid (show (frD r).length = B.size by rw [← HYb.out]; rfl)
      by_cases h256 : 256 < A.size + B.size
      case pos =>
        have d1 : decide ((256 : Int) < (A.size : Int) + (B.size : Int)) = true := decide_eq_true (by omega)
        have HY := Lib.hid (show rdN s.data.toList = (⟨false, 0, B.size, A.size + B.size⟩, true) by unfold rdN; rw [HRS.out, HOK1.out, HAl.out, HBl.out, if_pos rfl, if_pos h256])
        obtain ⟨pr0, fr0, pr1, fr1, pr2, fr2, pr3, fr3⟩ := F4r.out.all4
        obtain ⟨pn0, fn0, pn1, fn1, pn2, fn2, pn3, fn3⟩ := F4n.out.all4
        go_wp2_with fail
        rw [store4_put F4r.out]
        have FR9 := Lib.hid (F4r.out.put #[.bool false, .slice none 0 0, .int .i64 (B.size : Int), .int .i64 ((A.size : Int) + (B.size : Int))])
        have HL9 := Lib.hid (HL4.out.trans (putB_below w4 _ 56 #[.bool false, .slice none 0 0, .int .i64 (B.size : Int), .int .i64 ((A.size : Int) + (B.size : Int))] (Nat.le_refl _)))
        clear pr0 fr0 pr1 fr1 pr2 fr2 pr3 fr3 pn0 fn0 pn1 fn1 pn2 fn2 pn3 fn3
        obtain ⟨w9, hw⟩ : ∃ z9 : World, z9 = putB w4 w.heap.size 56 #[.bool false, .slice none 0 0, .int .i64 (B.size : Int), .int .i64 ((A.size : Int) + (B.size : Int))] := ⟨_, rfl⟩
        rw [← hw] at FR9 HL9  ⊢
        clear hw
        obtain ⟨pr0, fr0, pr1, fr1, pr2, fr2, pr3, fr3⟩ := FR9.out.all4
        refine bodyPost_ret (v := .tuple #[.agg #[.bool false, .slice none 0 0, .int .i64 (B.size : Int), .int .i64 ((A.size : Int) + (B.size : Int))], .bool true]) (by simp [results, Tryz.results32, go_sem, pr0, pr1, pr2, pr3]) rfl ?_
        rw [HY.out]
        exact ⟨none, 0, 0, rfl, Lib.hid (by rw [limbs_zero]; exact Sl.none_ _), HL9⟩
      have d1 : decide ((256 : Int) < (A.size : Int) + (B.size : Int)) = false := decide_eq_false (by omega)
      obtain ⟨l, hl⟩ : ∃ l, whD r ++ frD r = l := ⟨_, rfl⟩
      have HY := Lib.hid (show rdN s.data.toList = (⟨ng && decide (0 < dval l), dval l, B.size, A.size + B.size⟩, true) by unfold rdN; rw [HRS.out, HOK1.out, HAl.out, HBl.out, if_pos rfl, if_neg h256, HNG.out, hl])
      have HLD := Lib.hid (show (A ++ B).data.toList = l by rw [ByteArray.data_append, Array.toList_append, HA.out, HYb.out, hl])
      have hll : l.length ≤ 256 := by rw [← hl, List.length_append, HAl.out, HBl.out]; omega
      have hs9 : ¬ 9223372036854775807 < A.size + B.size := by omega
      have hdg := Lib.hid (show l.all Nm.isDig = true by
        rw [← hl, List.all_append, ← Rt.isDig_eq]
        have h1 := HOK1.out
        unfold okD Rt.digs at h1
        simp only [Bool.and_eq_true, Bool.or_eq_true] at h1
        obtain ⟨⟨_, h2⟩, h3⟩ := h1
        rw [h2, Bool.true_and]
        rcases h3 with h3 | ⟨_, h3⟩
        · unfold frD
          rw [Bool.not_eq_true'] at h3
          rw [h3]
          rfl
        · exact h3)
      have HV9 := Lib.hid (show blen (dval l) ≤ 1100 by
        have h1 := dval_lt l hdg.out
        have h2 : dval l < 10 ^ 256 := Nat.lt_of_lt_of_le h1 (Nat.pow_le_pow_right (by omega) hll)
        have h3 := blen_mono (Nat.le_of_lt h2)
        have h4 := blen_ten 256
        omega)
      have HNUM := Lib.hid (alD_num hdg.out)
      have HVAL := Lib.hid (alD_val l)
      have HVB := Lib.hid (show blen (dval (alD l)) ≤ 8192 by rw [HVAL.out]; have := HV9.out; omega)
      have HV32 := Lib.hid (show blen (dval l) ≤ 32 * 256 by have := HV9.out; omega)
      clear hl
      obtain ⟨pn0, fn0, pn1, fn1, pn2, fn2, pn3, fn3⟩ := F4n.out.all4
      go_wp2_with fail
      refine (Tryz.strings_TrimLeft_one (A ++ B) 48 (by decide) w4).mono ?_
      rintro e w' ⟨rfl, hw⟩
      obtain rfl := hw.symm
      clear hw
      obtain ⟨T, hT⟩ : ∃ T : ByteArray, T = ⟨(Go.Lib.trimLeftB (A ++ B).data.toList 48).toArray⟩ := ⟨_, rfl⟩
      have HTL := Lib.hid (show T.data.toList = l.dropWhile (· == 48) by rw [hT, HLD.out]; rfl)
      rw [← hT]
      clear hT
      obtain ⟨v, hv⟩ : ∃ v, dval l = v := ⟨_, rfl⟩
      rw [hv] at HVAL HY HV32
      clear hv
      by_cases he : l.dropWhile (· == 48) = []
      case pos =>
        have e3 : T.toList = [] := by rw [bl_data, HTL.out, he]
        have e4 : T.toList.isEmpty = true := by rw [e3]; rfl
        have HAL := Lib.hid (show (⟨#[48]⟩ : ByteArray).data.toList = alD l by unfold alD; rw [if_pos he])
        have hsz : (⟨#[48]⟩ : ByteArray).size ≤ 1000 := by decide
        clear he
        clear pn0 fn0 pn1 fn1 pn2 fn2 pn3 fn3
        obtain ⟨pn0, fn0, pn1, fn1, pn2, fn2, pn3, fn3⟩ := F4n.out.all4
        go_wp2_with fail
        refine (nParse_sl ⟨#[48]⟩ (alD l) w4 HAL.out hsz HNUM.out HVB.out).mono ?_
        rw [HVAL.out]
        rintro e w5 ⟨M, m, rfl, HM, HB5⟩
        have F5t := Lib.hid (F4t.out.belowW HB5.out)
        have F5r := Lib.hid (F4r.out.belowW HB5.out)
        have F5n := Lib.hid (F4n.out.belowW HB5.out)
        have HL5 := Lib.hid (HL4.out.trans (HB5.out.mono HL4.out.size))
        have F5m := Lib.hid (HM.out)
        have hm : m ≤ 100000 := by have h1 := HM.out.lim HV32.out; omega
        cases ng with
        | false =>
          clear pn0 fn0 pn1 fn1 pn2 fn2 pn3 fn3
          obtain ⟨pn0, fn0, pn1, fn1, pn2, fn2, pn3, fn3⟩ := F5n.out.all4
          go_upto_region 13 with (fail)
          rw [store2_4 F5n.out]
          obtain ⟨w8, hw⟩ : ∃ z9 : World, z9 = putB w5 (w3.heap.size) 56 #[.bool false, .slice M m m, .int .i64 (B.size : Int), .int .i64 ((A.size : Int) + (B.size : Int))] := ⟨_, rfl⟩
          have G8n := Lib.hid (show Blk w8 (w3.heap.size) 56 #[.bool false, .slice M m m, .int .i64 (B.size : Int), .int .i64 ((A.size : Int) + (B.size : Int))] by rw [hw]; exact F5n.out.put #[.bool false, .slice M m m, .int .i64 (B.size : Int), .int .i64 ((A.size : Int) + (B.size : Int))])
          have HX8 := Lib.hid (show Below w.heap.size w w8 by rw [hw]; exact HL5.out.trans (putB_below w5 _ 56 #[.bool false, .slice M m m, .int .i64 (B.size : Int), .int .i64 ((A.size : Int) + (B.size : Int))] HNL.out))
          have G8m := Lib.hid (show Sl w8 M m m (limbs v) by rw [hw]; exact F5m.out.far F5n.out noU4 (putB_grown w5 (w3.heap.size) 56 #[.bool false, .slice M m m, .int .i64 (B.size : Int), .int .i64 ((A.size : Int) + (B.size : Int))]))
          have G8r := Lib.hid (show Blk w8 w.heap.size 56 #[.bool false, .slice none 0 0, .int .i64 0, .int .i64 0] by rw [hw]; exact F5r.out.far HNE.out #[.bool false, .slice M m m, .int .i64 (B.size : Int), .int .i64 ((A.size : Int) + (B.size : Int))])
          rw [← hw]
          clear hw pn0 fn0 pn1 fn1 pn2 fn2 pn3 fn3
          obtain ⟨pn0, fn0, pn1, fn1, pn2, fn2, pn3, fn3⟩ := G8n.out.all4
          obtain ⟨pr0, fr0, pr1, fr1, pr2, fr2, pr3, fr3⟩ := G8r.out.all4
          go_wp2_with fail
          rw [store4_put G8r.out]
          have FR9 := Lib.hid (G8r.out.put #[.bool false, .slice M m m, .int .i64 (B.size : Int), .int .i64 ((A.size : Int) + (B.size : Int))])
          have HL9 := Lib.hid (HX8.out.trans (putB_below w8 _ 56 #[.bool false, .slice M m m, .int .i64 (B.size : Int), .int .i64 ((A.size : Int) + (B.size : Int))] (Nat.le_refl _)))
          have S9 := Lib.hid (G8m.out.far G8r.out noU4 (putB_grown w8 w.heap.size 56 #[.bool false, .slice M m m, .int .i64 (B.size : Int), .int .i64 ((A.size : Int) + (B.size : Int))]))
          clear pn0 fn0 pn1 fn1 pn2 fn2 pn3 fn3 pr0 fr0 pr1 fr1 pr2 fr2 pr3 fr3
          obtain ⟨w9, hw⟩ : ∃ z9 : World, z9 = putB w8 w.heap.size 56 #[.bool false, .slice M m m, .int .i64 (B.size : Int), .int .i64 ((A.size : Int) + (B.size : Int))] := ⟨_, rfl⟩
          rw [← hw] at FR9 HL9 S9 ⊢
          clear hw
          obtain ⟨pr0, fr0, pr1, fr1, pr2, fr2, pr3, fr3⟩ := FR9.out.all4
          refine bodyPost_ret (v := .tuple #[.agg #[.bool false, .slice M m m, .int .i64 (B.size : Int), .int .i64 ((A.size : Int) + (B.size : Int))], .bool true]) (by simp [results, Tryz.results32, go_sem, pr0, pr1, pr2, pr3]) rfl ?_
          rw [HY.out, Bool.false_and]
          exact ⟨M, m, m, rfl, S9, HL9⟩
        | true =>
          clear pn0 fn0 pn1 fn1 pn2 fn2 pn3 fn3
          obtain ⟨pn0, fn0, pn1, fn1, pn2, fn2, pn3, fn3⟩ := F5n.out.all4
          go_wp2_with fail
          refine (bits_any M m m (limbs v) w5 F5m.out hm).mono ?_
          rw [val_limbs]
          rintro e w' ⟨rfl, rfl⟩
          obtain ⟨gz, hgz⟩ : ∃ g, decide ((0 : Int) < (blen v : Int)) = g := ⟨_, rfl⟩
          have HGZ := Lib.hid (show decide (0 < v) = gz by rw [← hgz, decide_eq_decide]; have := blen_zero_iff (n := v); omega)
          have hgz2 : decide (0 < blen v) = gz := by rw [← hgz, decide_eq_decide]; omega
          go_upto_region 13 with (fail)
          rw [store2_4 F5n.out]
          obtain ⟨w8, hw⟩ : ∃ z9 : World, z9 = putB w5 (w3.heap.size) 56 #[.bool gz, .slice M m m, .int .i64 (B.size : Int), .int .i64 ((A.size : Int) + (B.size : Int))] := ⟨_, rfl⟩
          have G8n := Lib.hid (show Blk w8 (w3.heap.size) 56 #[.bool gz, .slice M m m, .int .i64 (B.size : Int), .int .i64 ((A.size : Int) + (B.size : Int))] by rw [hw]; exact F5n.out.put #[.bool gz, .slice M m m, .int .i64 (B.size : Int), .int .i64 ((A.size : Int) + (B.size : Int))])
          have HX8 := Lib.hid (show Below w.heap.size w w8 by rw [hw]; exact HL5.out.trans (putB_below w5 _ 56 #[.bool gz, .slice M m m, .int .i64 (B.size : Int), .int .i64 ((A.size : Int) + (B.size : Int))] HNL.out))
          have G8m := Lib.hid (show Sl w8 M m m (limbs v) by rw [hw]; exact F5m.out.far F5n.out noU4 (putB_grown w5 (w3.heap.size) 56 #[.bool gz, .slice M m m, .int .i64 (B.size : Int), .int .i64 ((A.size : Int) + (B.size : Int))]))
          have G8r := Lib.hid (show Blk w8 w.heap.size 56 #[.bool false, .slice none 0 0, .int .i64 0, .int .i64 0] by rw [hw]; exact F5r.out.far HNE.out #[.bool gz, .slice M m m, .int .i64 (B.size : Int), .int .i64 ((A.size : Int) + (B.size : Int))])
          rw [← hw]
          clear hw pn0 fn0 pn1 fn1 pn2 fn2 pn3 fn3
          obtain ⟨pn0, fn0, pn1, fn1, pn2, fn2, pn3, fn3⟩ := G8n.out.all4
          obtain ⟨pr0, fr0, pr1, fr1, pr2, fr2, pr3, fr3⟩ := G8r.out.all4
          go_wp2_with fail
          rw [store4_put G8r.out]
          have FR9 := Lib.hid (G8r.out.put #[.bool gz, .slice M m m, .int .i64 (B.size : Int), .int .i64 ((A.size : Int) + (B.size : Int))])
          have HL9 := Lib.hid (HX8.out.trans (putB_below w8 _ 56 #[.bool gz, .slice M m m, .int .i64 (B.size : Int), .int .i64 ((A.size : Int) + (B.size : Int))] (Nat.le_refl _)))
          have S9 := Lib.hid (G8m.out.far G8r.out noU4 (putB_grown w8 w.heap.size 56 #[.bool gz, .slice M m m, .int .i64 (B.size : Int), .int .i64 ((A.size : Int) + (B.size : Int))]))
          clear pn0 fn0 pn1 fn1 pn2 fn2 pn3 fn3 pr0 fr0 pr1 fr1 pr2 fr2 pr3 fr3
          obtain ⟨w9, hw⟩ : ∃ z9 : World, z9 = putB w8 w.heap.size 56 #[.bool gz, .slice M m m, .int .i64 (B.size : Int), .int .i64 ((A.size : Int) + (B.size : Int))] := ⟨_, rfl⟩
          rw [← hw] at FR9 HL9 S9 ⊢
          clear hw
          obtain ⟨pr0, fr0, pr1, fr1, pr2, fr2, pr3, fr3⟩ := FR9.out.all4
          refine bodyPost_ret (v := .tuple #[.agg #[.bool gz, .slice M m m, .int .i64 (B.size : Int), .int .i64 ((A.size : Int) + (B.size : Int))], .bool true]) (by simp [results, Tryz.results32, go_sem, pr0, pr1, pr2, pr3]) rfl ?_
          rw [HY.out, Bool.true_and, HGZ.out]
          exact ⟨M, m, m, rfl, S9, HL9⟩
      case neg =>
        have e4 : T.toList.isEmpty = false := by rw [bl_data, HTL.out]; cases hh : l.dropWhile (· == 48) with | nil => exact absurd hh he | cons x r => rfl
        have HAL := Lib.hid (show T.data.toList = alD l by unfold alD; rw [if_neg he, HTL.out])
        have hsz : T.size ≤ 1000 := by rw [← length_data, HTL.out]; have := (List.dropWhile_sublist (p := (· == (48 : UInt8))) (l := l)).length_le; omega
        clear he
        clear pn0 fn0 pn1 fn1 pn2 fn2 pn3 fn3
        obtain ⟨pn0, fn0, pn1, fn1, pn2, fn2, pn3, fn3⟩ := F4n.out.all4
        go_wp2_with fail
        refine (nParse_sl T (alD l) w4 HAL.out hsz HNUM.out HVB.out).mono ?_
        rw [HVAL.out]
        rintro e w5 ⟨M, m, rfl, HM, HB5⟩
        have F5t := Lib.hid (F4t.out.belowW HB5.out)
        have F5r := Lib.hid (F4r.out.belowW HB5.out)
        have F5n := Lib.hid (F4n.out.belowW HB5.out)
        have HL5 := Lib.hid (HL4.out.trans (HB5.out.mono HL4.out.size))
        have F5m := Lib.hid (HM.out)
        have hm : m ≤ 100000 := by have h1 := HM.out.lim HV32.out; omega
        cases ng with
        | false =>
          clear pn0 fn0 pn1 fn1 pn2 fn2 pn3 fn3
          obtain ⟨pn0, fn0, pn1, fn1, pn2, fn2, pn3, fn3⟩ := F5n.out.all4
          go_upto_region 13 with (fail)
          rw [store2_4 F5n.out]
          obtain ⟨w8, hw⟩ : ∃ z9 : World, z9 = putB w5 (w3.heap.size) 56 #[.bool false, .slice M m m, .int .i64 (B.size : Int), .int .i64 ((A.size : Int) + (B.size : Int))] := ⟨_, rfl⟩
          have G8n := Lib.hid (show Blk w8 (w3.heap.size) 56 #[.bool false, .slice M m m, .int .i64 (B.size : Int), .int .i64 ((A.size : Int) + (B.size : Int))] by rw [hw]; exact F5n.out.put #[.bool false, .slice M m m, .int .i64 (B.size : Int), .int .i64 ((A.size : Int) + (B.size : Int))])
          have HX8 := Lib.hid (show Below w.heap.size w w8 by rw [hw]; exact HL5.out.trans (putB_below w5 _ 56 #[.bool false, .slice M m m, .int .i64 (B.size : Int), .int .i64 ((A.size : Int) + (B.size : Int))] HNL.out))
          have G8m := Lib.hid (show Sl w8 M m m (limbs v) by rw [hw]; exact F5m.out.far F5n.out noU4 (putB_grown w5 (w3.heap.size) 56 #[.bool false, .slice M m m, .int .i64 (B.size : Int), .int .i64 ((A.size : Int) + (B.size : Int))]))
          have G8r := Lib.hid (show Blk w8 w.heap.size 56 #[.bool false, .slice none 0 0, .int .i64 0, .int .i64 0] by rw [hw]; exact F5r.out.far HNE.out #[.bool false, .slice M m m, .int .i64 (B.size : Int), .int .i64 ((A.size : Int) + (B.size : Int))])
          rw [← hw]
          clear hw pn0 fn0 pn1 fn1 pn2 fn2 pn3 fn3
          obtain ⟨pn0, fn0, pn1, fn1, pn2, fn2, pn3, fn3⟩ := G8n.out.all4
          obtain ⟨pr0, fr0, pr1, fr1, pr2, fr2, pr3, fr3⟩ := G8r.out.all4
          go_wp2_with fail
          rw [store4_put G8r.out]
          have FR9 := Lib.hid (G8r.out.put #[.bool false, .slice M m m, .int .i64 (B.size : Int), .int .i64 ((A.size : Int) + (B.size : Int))])
          have HL9 := Lib.hid (HX8.out.trans (putB_below w8 _ 56 #[.bool false, .slice M m m, .int .i64 (B.size : Int), .int .i64 ((A.size : Int) + (B.size : Int))] (Nat.le_refl _)))
          have S9 := Lib.hid (G8m.out.far G8r.out noU4 (putB_grown w8 w.heap.size 56 #[.bool false, .slice M m m, .int .i64 (B.size : Int), .int .i64 ((A.size : Int) + (B.size : Int))]))
          clear pn0 fn0 pn1 fn1 pn2 fn2 pn3 fn3 pr0 fr0 pr1 fr1 pr2 fr2 pr3 fr3
          obtain ⟨w9, hw⟩ : ∃ z9 : World, z9 = putB w8 w.heap.size 56 #[.bool false, .slice M m m, .int .i64 (B.size : Int), .int .i64 ((A.size : Int) + (B.size : Int))] := ⟨_, rfl⟩
          rw [← hw] at FR9 HL9 S9 ⊢
          clear hw
          obtain ⟨pr0, fr0, pr1, fr1, pr2, fr2, pr3, fr3⟩ := FR9.out.all4
          refine bodyPost_ret (v := .tuple #[.agg #[.bool false, .slice M m m, .int .i64 (B.size : Int), .int .i64 ((A.size : Int) + (B.size : Int))], .bool true]) (by simp [results, Tryz.results32, go_sem, pr0, pr1, pr2, pr3]) rfl ?_
          rw [HY.out, Bool.false_and]
          exact ⟨M, m, m, rfl, S9, HL9⟩
        | true =>
          clear pn0 fn0 pn1 fn1 pn2 fn2 pn3 fn3
          obtain ⟨pn0, fn0, pn1, fn1, pn2, fn2, pn3, fn3⟩ := F5n.out.all4
          go_wp2_with fail
          refine (bits_any M m m (limbs v) w5 F5m.out hm).mono ?_
          rw [val_limbs]
          rintro e w' ⟨rfl, rfl⟩
          obtain ⟨gz, hgz⟩ : ∃ g, decide ((0 : Int) < (blen v : Int)) = g := ⟨_, rfl⟩
          have HGZ := Lib.hid (show decide (0 < v) = gz by rw [← hgz, decide_eq_decide]; have := blen_zero_iff (n := v); omega)
          have hgz2 : decide (0 < blen v) = gz := by rw [← hgz, decide_eq_decide]; omega
          go_upto_region 13 with (fail)
          rw [store2_4 F5n.out]
          obtain ⟨w8, hw⟩ : ∃ z9 : World, z9 = putB w5 (w3.heap.size) 56 #[.bool gz, .slice M m m, .int .i64 (B.size : Int), .int .i64 ((A.size : Int) + (B.size : Int))] := ⟨_, rfl⟩
          have G8n := Lib.hid (show Blk w8 (w3.heap.size) 56 #[.bool gz, .slice M m m, .int .i64 (B.size : Int), .int .i64 ((A.size : Int) + (B.size : Int))] by rw [hw]; exact F5n.out.put #[.bool gz, .slice M m m, .int .i64 (B.size : Int), .int .i64 ((A.size : Int) + (B.size : Int))])
          have HX8 := Lib.hid (show Below w.heap.size w w8 by rw [hw]; exact HL5.out.trans (putB_below w5 _ 56 #[.bool gz, .slice M m m, .int .i64 (B.size : Int), .int .i64 ((A.size : Int) + (B.size : Int))] HNL.out))
          have G8m := Lib.hid (show Sl w8 M m m (limbs v) by rw [hw]; exact F5m.out.far F5n.out noU4 (putB_grown w5 (w3.heap.size) 56 #[.bool gz, .slice M m m, .int .i64 (B.size : Int), .int .i64 ((A.size : Int) + (B.size : Int))]))
          have G8r := Lib.hid (show Blk w8 w.heap.size 56 #[.bool false, .slice none 0 0, .int .i64 0, .int .i64 0] by rw [hw]; exact F5r.out.far HNE.out #[.bool gz, .slice M m m, .int .i64 (B.size : Int), .int .i64 ((A.size : Int) + (B.size : Int))])
          rw [← hw]
          clear hw pn0 fn0 pn1 fn1 pn2 fn2 pn3 fn3
          obtain ⟨pn0, fn0, pn1, fn1, pn2, fn2, pn3, fn3⟩ := G8n.out.all4
          obtain ⟨pr0, fr0, pr1, fr1, pr2, fr2, pr3, fr3⟩ := G8r.out.all4
          go_wp2_with fail
          rw [store4_put G8r.out]
          have FR9 := Lib.hid (G8r.out.put #[.bool gz, .slice M m m, .int .i64 (B.size : Int), .int .i64 ((A.size : Int) + (B.size : Int))])
          have HL9 := Lib.hid (HX8.out.trans (putB_below w8 _ 56 #[.bool gz, .slice M m m, .int .i64 (B.size : Int), .int .i64 ((A.size : Int) + (B.size : Int))] (Nat.le_refl _)))
          have S9 := Lib.hid (G8m.out.far G8r.out noU4 (putB_grown w8 w.heap.size 56 #[.bool gz, .slice M m m, .int .i64 (B.size : Int), .int .i64 ((A.size : Int) + (B.size : Int))]))
          clear pn0 fn0 pn1 fn1 pn2 fn2 pn3 fn3 pr0 fr0 pr1 fr1 pr2 fr2 pr3 fr3
          obtain ⟨w9, hw⟩ : ∃ z9 : World, z9 = putB w8 w.heap.size 56 #[.bool gz, .slice M m m, .int .i64 (B.size : Int), .int .i64 ((A.size : Int) + (B.size : Int))] := ⟨_, rfl⟩
          rw [← hw] at FR9 HL9 S9 ⊢
          clear hw
          obtain ⟨pr0, fr0, pr1, fr1, pr2, fr2, pr3, fr3⟩ := FR9.out.all4
          refine bodyPost_ret (v := .tuple #[.agg #[.bool gz, .slice M m m, .int .i64 (B.size : Int), .int .i64 ((A.size : Int) + (B.size : Int))], .bool true]) (by simp [results, Tryz.results32, go_sem, pr0, pr1, pr2, pr3]) rfl ?_
          rw [HY.out, Bool.true_and, HGZ.out]
          exact ⟨M, m, m, rfl, S9, HL9⟩
    | true =>
      go_wp2_with fail
      refine (digits_any B w3 hB5).mono ?_
      rw [HG2.out]
      rintro e w4 ⟨rfl, HB4⟩
      have F4t := Lib.hid (F3t.out.belowW HB4.out)
      have F4r := Lib.hid (F3r.out.belowW HB4.out)
      have HL4 := Lib.hid (HL3.out.trans (HB4.out.mono HL3.out.size))
      cases g2 with
      | false =>
        have HNO := Lib.hid (show rdN s.data.toList = (⟨false, 0, 0, 0⟩, false) by unfold rdN; rw [HRS.out, HOK.out]; rfl)
        obtain ⟨pr0, fr0, pr1, fr1, pr2, fr2, pr3, fr3⟩ := F4r.out.all4
        go_wp2_with fail
        rw [store4_put F4r.out]
        have FR9 := Lib.hid (F4r.out.put #[.bool false, .slice none 0 0, .int .i64 0, .int .i64 0])
        have HL9 := Lib.hid (HL4.out.trans (putB_below w4 _ 56 #[.bool false, .slice none 0 0, .int .i64 0, .int .i64 0] (Nat.le_refl _)))
        clear pr0 fr0 pr1 fr1 pr2 fr2 pr3 fr3
        obtain ⟨w9, hw⟩ : ∃ z9 : World, z9 = putB w4 w.heap.size 56 #[.bool false, .slice none 0 0, .int .i64 0, .int .i64 0] := ⟨_, rfl⟩
        rw [← hw] at FR9 HL9  ⊢
        clear hw
        obtain ⟨pr0, fr0, pr1, fr1, pr2, fr2, pr3, fr3⟩ := FR9.out.all4
        refine bodyPost_ret (v := .tuple #[.agg #[.bool false, .slice none 0 0, .int .i64 0, .int .i64 0], .bool false]) (by simp [results, Tryz.results32, go_sem, pr0, pr1, pr2, pr3]) rfl ?_
        rw [HNO.out]
        exact ⟨none, 0, 0, rfl, Lib.hid (by rw [limbs_zero]; exact Sl.none_ _), HL9⟩
      | true =>
        go_upto_region 6 with (fail)
        obtain ⟨w5, hw⟩ : ∃ z9 : World, z9 = w4.alloc (.cells #[.bool false, .slice none 0 0, .int .i64 (B.size : Int), .int .i64 ((A.size : Int) + (B.size : Int))] 56) := ⟨_, rfl⟩
        have HB5 := Lib.hid (show Below w4.heap.size w4 w5 by rw [hw]; exact below_a1 _ _)
        have F5n := Lib.hid (show Blk w5 w4.heap.size 56 #[.bool false, .slice none 0 0, .int .i64 (B.size : Int), .int .i64 ((A.size : Int) + (B.size : Int))] by rw [hw]; exact Blk.new _ _ _)
        rw [← hw]
        clear hw
        have F5t := Lib.hid (F4t.out.belowW HB5.out)
        have F5r := Lib.hid (F4r.out.belowW HB5.out)
        have HL5 := Lib.hid (HL4.out.trans (HB5.out.mono HL4.out.size))
        have HNL := Lib.hid (show w.heap.size ≤ w4.heap.size from HL4.out.size)
        have HNE := Lib.hid (show w.heap.size ≠ w4.heap.size from Nat.ne_of_lt F4r.out.lt)
        have HOK1 := Lib.hid (show okD r = true by rw [HOK.out]; rfl)
        have HAl := Lib.hid (show (whD r).length = A.size by rw [← HA.out]; rfl)
        have HBl := Lib.hid (show (frD r).length = B.size by rw [← HYb.out]; rfl)
        by_cases h256 : 256 < A.size + B.size
        case pos =>
          have d1 : decide ((256 : Int) < (A.size : Int) + (B.size : Int)) = true := decide_eq_true (by omega)
          have HY := Lib.hid (show rdN s.data.toList = (⟨false, 0, B.size, A.size + B.size⟩, true) by unfold rdN; rw [HRS.out, HOK1.out, HAl.out, HBl.out, if_pos rfl, if_pos h256])
          obtain ⟨pr0, fr0, pr1, fr1, pr2, fr2, pr3, fr3⟩ := F5r.out.all4
          obtain ⟨pn0, fn0, pn1, fn1, pn2, fn2, pn3, fn3⟩ := F5n.out.all4
          go_wp2_with fail
          rw [store4_put F5r.out]
          have FR9 := Lib.hid (F5r.out.put #[.bool false, .slice none 0 0, .int .i64 (B.size : Int), .int .i64 ((A.size : Int) + (B.size : Int))])
          have HL9 := Lib.hid (HL5.out.trans (putB_below w5 _ 56 #[.bool false, .slice none 0 0, .int .i64 (B.size : Int), .int .i64 ((A.size : Int) + (B.size : Int))] (Nat.le_refl _)))
          clear pr0 fr0 pr1 fr1 pr2 fr2 pr3 fr3 pn0 fn0 pn1 fn1 pn2 fn2 pn3 fn3
          obtain ⟨w9, hw⟩ : ∃ z9 : World, z9 = putB w5 w.heap.size 56 #[.bool false, .slice none 0 0, .int .i64 (B.size : Int), .int .i64 ((A.size : Int) + (B.size : Int))] := ⟨_, rfl⟩
          rw [← hw] at FR9 HL9  ⊢
          clear hw
          obtain ⟨pr0, fr0, pr1, fr1, pr2, fr2, pr3, fr3⟩ := FR9.out.all4
          refine bodyPost_ret (v := .tuple #[.agg #[.bool false, .slice none 0 0, .int .i64 (B.size : Int), .int .i64 ((A.size : Int) + (B.size : Int))], .bool true]) (by simp [results, Tryz.results32, go_sem, pr0, pr1, pr2, pr3]) rfl ?_
          rw [HY.out]
          exact ⟨none, 0, 0, rfl, Lib.hid (by rw [limbs_zero]; exact Sl.none_ _), HL9⟩
        have d1 : decide ((256 : Int) < (A.size : Int) + (B.size : Int)) = false := decide_eq_false (by omega)
        obtain ⟨l, hl⟩ : ∃ l, whD r ++ frD r = l := ⟨_, rfl⟩
        have HY := Lib.hid (show rdN s.data.toList = (⟨ng && decide (0 < dval l), dval l, B.size, A.size + B.size⟩, true) by unfold rdN; rw [HRS.out, HOK1.out, HAl.out, HBl.out, if_pos rfl, if_neg h256, HNG.out, hl])
        have HLD := Lib.hid (show (A ++ B).data.toList = l by rw [ByteArray.data_append, Array.toList_append, HA.out, HYb.out, hl])
        have hll : l.length ≤ 256 := by rw [← hl, List.length_append, HAl.out, HBl.out]; omega
        have hs9 : ¬ 9223372036854775807 < A.size + B.size := by omega
        have hdg := Lib.hid (show l.all Nm.isDig = true by
          rw [← hl, List.all_append, ← Rt.isDig_eq]
          have h1 := HOK1.out
          unfold okD Rt.digs at h1
          simp only [Bool.and_eq_true, Bool.or_eq_true] at h1
          obtain ⟨⟨_, h2⟩, h3⟩ := h1
          rw [h2, Bool.true_and]
          rcases h3 with h3 | ⟨_, h3⟩
          · unfold frD
            rw [Bool.not_eq_true'] at h3
            rw [h3]
            rfl
          · exact h3)
        have HV9 := Lib.hid (show blen (dval l) ≤ 1100 by
          have h1 := dval_lt l hdg.out
          have h2 : dval l < 10 ^ 256 := Nat.lt_of_lt_of_le h1 (Nat.pow_le_pow_right (by omega) hll)
          have h3 := blen_mono (Nat.le_of_lt h2)
          have h4 := blen_ten 256
          omega)
        have HNUM := Lib.hid (alD_num hdg.out)
        have HVAL := Lib.hid (alD_val l)
        have HVB := Lib.hid (show blen (dval (alD l)) ≤ 8192 by rw [HVAL.out]; have := HV9.out; omega)
        have HV32 := Lib.hid (show blen (dval l) ≤ 32 * 256 by have := HV9.out; omega)
        clear hl
        obtain ⟨pn0, fn0, pn1, fn1, pn2, fn2, pn3, fn3⟩ := F5n.out.all4
        go_wp2_with fail
        refine (Tryz.strings_TrimLeft_one (A ++ B) 48 (by decide) w5).mono ?_
        rintro e w' ⟨rfl, hw⟩
        obtain rfl := hw.symm
        clear hw
        obtain ⟨T, hT⟩ : ∃ T : ByteArray, T = ⟨(Go.Lib.trimLeftB (A ++ B).data.toList 48).toArray⟩ := ⟨_, rfl⟩
        have HTL := Lib.hid (show T.data.toList = l.dropWhile (· == 48) by rw [hT, HLD.out]; rfl)
        rw [← hT]
        clear hT
        obtain ⟨v, hv⟩ : ∃ v, dval l = v := ⟨_, rfl⟩
        rw [hv] at HVAL HY HV32
        clear hv
        by_cases he : l.dropWhile (· == 48) = []
        case pos =>
          have e3 : T.toList = [] := by rw [bl_data, HTL.out, he]
          have e4 : T.toList.isEmpty = true := by rw [e3]; rfl
          have HAL := Lib.hid (show (⟨#[48]⟩ : ByteArray).data.toList = alD l by unfold alD; rw [if_pos he])
          have hsz : (⟨#[48]⟩ : ByteArray).size ≤ 1000 := by decide
          clear he
          clear pn0 fn0 pn1 fn1 pn2 fn2 pn3 fn3
          obtain ⟨pn0, fn0, pn1, fn1, pn2, fn2, pn3, fn3⟩ := F5n.out.all4
          go_wp2_with fail
          refine (nParse_sl ⟨#[48]⟩ (alD l) w5 HAL.out hsz HNUM.out HVB.out).mono ?_
          rw [HVAL.out]
          rintro e w6 ⟨M, m, rfl, HM, HB6⟩
          have F6t := Lib.hid (F5t.out.belowW HB6.out)
          have F6r := Lib.hid (F5r.out.belowW HB6.out)
          have F6n := Lib.hid (F5n.out.belowW HB6.out)
          have HL6 := Lib.hid (HL5.out.trans (HB6.out.mono HL5.out.size))
          have F6m := Lib.hid (HM.out)
          have hm : m ≤ 100000 := by have h1 := HM.out.lim HV32.out; omega
          cases ng with
          | false =>
            clear pn0 fn0 pn1 fn1 pn2 fn2 pn3 fn3
            obtain ⟨pn0, fn0, pn1, fn1, pn2, fn2, pn3, fn3⟩ := F6n.out.all4
            go_upto_region 13 with (fail)
            rw [store2_4 F6n.out]
            obtain ⟨w8, hw⟩ : ∃ z9 : World, z9 = putB w6 (w4.heap.size) 56 #[.bool false, .slice M m m, .int .i64 (B.size : Int), .int .i64 ((A.size : Int) + (B.size : Int))] := ⟨_, rfl⟩
            have G8n := Lib.hid (show Blk w8 (w4.heap.size) 56 #[.bool false, .slice M m m, .int .i64 (B.size : Int), .int .i64 ((A.size : Int) + (B.size : Int))] by rw [hw]; exact F6n.out.put #[.bool false, .slice M m m, .int .i64 (B.size : Int), .int .i64 ((A.size : Int) + (B.size : Int))])
            have HX8 := Lib.hid (show Below w.heap.size w w8 by rw [hw]; exact HL6.out.trans (putB_below w6 _ 56 #[.bool false, .slice M m m, .int .i64 (B.size : Int), .int .i64 ((A.size : Int) + (B.size : Int))] HNL.out))
            have G8m := Lib.hid (show Sl w8 M m m (limbs v) by rw [hw]; exact F6m.out.far F6n.out noU4 (putB_grown w6 (w4.heap.size) 56 #[.bool false, .slice M m m, .int .i64 (B.size : Int), .int .i64 ((A.size : Int) + (B.size : Int))]))
            have G8r := Lib.hid (show Blk w8 w.heap.size 56 #[.bool false, .slice none 0 0, .int .i64 0, .int .i64 0] by rw [hw]; exact F6r.out.far HNE.out #[.bool false, .slice M m m, .int .i64 (B.size : Int), .int .i64 ((A.size : Int) + (B.size : Int))])
            rw [← hw]
            clear hw pn0 fn0 pn1 fn1 pn2 fn2 pn3 fn3
            obtain ⟨pn0, fn0, pn1, fn1, pn2, fn2, pn3, fn3⟩ := G8n.out.all4
            obtain ⟨pr0, fr0, pr1, fr1, pr2, fr2, pr3, fr3⟩ := G8r.out.all4
            go_wp2_with fail
            rw [store4_put G8r.out]
            have FR9 := Lib.hid (G8r.out.put #[.bool false, .slice M m m, .int .i64 (B.size : Int), .int .i64 ((A.size : Int) + (B.size : Int))])
            have HL9 := Lib.hid (HX8.out.trans (putB_below w8 _ 56 #[.bool false, .slice M m m, .int .i64 (B.size : Int), .int .i64 ((A.size : Int) + (B.size : Int))] (Nat.le_refl _)))
            have S9 := Lib.hid (G8m.out.far G8r.out noU4 (putB_grown w8 w.heap.size 56 #[.bool false, .slice M m m, .int .i64 (B.size : Int), .int .i64 ((A.size : Int) + (B.size : Int))]))
            clear pn0 fn0 pn1 fn1 pn2 fn2 pn3 fn3 pr0 fr0 pr1 fr1 pr2 fr2 pr3 fr3
            obtain ⟨w9, hw⟩ : ∃ z9 : World, z9 = putB w8 w.heap.size 56 #[.bool false, .slice M m m, .int .i64 (B.size : Int), .int .i64 ((A.size : Int) + (B.size : Int))] := ⟨_, rfl⟩
            rw [← hw] at FR9 HL9 S9 ⊢
            clear hw
            obtain ⟨pr0, fr0, pr1, fr1, pr2, fr2, pr3, fr3⟩ := FR9.out.all4
            refine bodyPost_ret (v := .tuple #[.agg #[.bool false, .slice M m m, .int .i64 (B.size : Int), .int .i64 ((A.size : Int) + (B.size : Int))], .bool true]) (by simp [results, Tryz.results32, go_sem, pr0, pr1, pr2, pr3]) rfl ?_
            rw [HY.out, Bool.false_and]
            exact ⟨M, m, m, rfl, S9, HL9⟩
          | true =>
            clear pn0 fn0 pn1 fn1 pn2 fn2 pn3 fn3
            obtain ⟨pn0, fn0, pn1, fn1, pn2, fn2, pn3, fn3⟩ := F6n.out.all4
            go_wp2_with fail
            refine (bits_any M m m (limbs v) w6 F6m.out hm).mono ?_
            rw [val_limbs]
            rintro e w' ⟨rfl, rfl⟩
            obtain ⟨gz, hgz⟩ : ∃ g, decide ((0 : Int) < (blen v : Int)) = g := ⟨_, rfl⟩
            have HGZ := Lib.hid (show decide (0 < v) = gz by rw [← hgz, decide_eq_decide]; have := blen_zero_iff (n := v); omega)
            have hgz2 : decide (0 < blen v) = gz := by rw [← hgz, decide_eq_decide]; omega
            go_upto_region 13 with (fail)
            rw [store2_4 F6n.out]
            obtain ⟨w8, hw⟩ : ∃ z9 : World, z9 = putB w6 (w4.heap.size) 56 #[.bool gz, .slice M m m, .int .i64 (B.size : Int), .int .i64 ((A.size : Int) + (B.size : Int))] := ⟨_, rfl⟩
            have G8n := Lib.hid (show Blk w8 (w4.heap.size) 56 #[.bool gz, .slice M m m, .int .i64 (B.size : Int), .int .i64 ((A.size : Int) + (B.size : Int))] by rw [hw]; exact F6n.out.put #[.bool gz, .slice M m m, .int .i64 (B.size : Int), .int .i64 ((A.size : Int) + (B.size : Int))])
            have HX8 := Lib.hid (show Below w.heap.size w w8 by rw [hw]; exact HL6.out.trans (putB_below w6 _ 56 #[.bool gz, .slice M m m, .int .i64 (B.size : Int), .int .i64 ((A.size : Int) + (B.size : Int))] HNL.out))
            have G8m := Lib.hid (show Sl w8 M m m (limbs v) by rw [hw]; exact F6m.out.far F6n.out noU4 (putB_grown w6 (w4.heap.size) 56 #[.bool gz, .slice M m m, .int .i64 (B.size : Int), .int .i64 ((A.size : Int) + (B.size : Int))]))
            have G8r := Lib.hid (show Blk w8 w.heap.size 56 #[.bool false, .slice none 0 0, .int .i64 0, .int .i64 0] by rw [hw]; exact F6r.out.far HNE.out #[.bool gz, .slice M m m, .int .i64 (B.size : Int), .int .i64 ((A.size : Int) + (B.size : Int))])
            rw [← hw]
            clear hw pn0 fn0 pn1 fn1 pn2 fn2 pn3 fn3
            obtain ⟨pn0, fn0, pn1, fn1, pn2, fn2, pn3, fn3⟩ := G8n.out.all4
            obtain ⟨pr0, fr0, pr1, fr1, pr2, fr2, pr3, fr3⟩ := G8r.out.all4
            go_wp2_with fail
            rw [store4_put G8r.out]
            have FR9 := Lib.hid (G8r.out.put #[.bool gz, .slice M m m, .int .i64 (B.size : Int), .int .i64 ((A.size : Int) + (B.size : Int))])
            have HL9 := Lib.hid (HX8.out.trans (putB_below w8 _ 56 #[.bool gz, .slice M m m, .int .i64 (B.size : Int), .int .i64 ((A.size : Int) + (B.size : Int))] (Nat.le_refl _)))
            have S9 := Lib.hid (G8m.out.far G8r.out noU4 (putB_grown w8 w.heap.size 56 #[.bool gz, .slice M m m, .int .i64 (B.size : Int), .int .i64 ((A.size : Int) + (B.size : Int))]))
            clear pn0 fn0 pn1 fn1 pn2 fn2 pn3 fn3 pr0 fr0 pr1 fr1 pr2 fr2 pr3 fr3
            obtain ⟨w9, hw⟩ : ∃ z9 : World, z9 = putB w8 w.heap.size 56 #[.bool gz, .slice M m m, .int .i64 (B.size : Int), .int .i64 ((A.size : Int) + (B.size : Int))] := ⟨_, rfl⟩
            rw [← hw] at FR9 HL9 S9 ⊢
            clear hw
            obtain ⟨pr0, fr0, pr1, fr1, pr2, fr2, pr3, fr3⟩ := FR9.out.all4
            refine bodyPost_ret (v := .tuple #[.agg #[.bool gz, .slice M m m, .int .i64 (B.size : Int), .int .i64 ((A.size : Int) + (B.size : Int))], .bool true]) (by simp [results, Tryz.results32, go_sem, pr0, pr1, pr2, pr3]) rfl ?_
            rw [HY.out, Bool.true_and, HGZ.out]
            exact ⟨M, m, m, rfl, S9, HL9⟩
        case neg =>
          have e4 : T.toList.isEmpty = false := by rw [bl_data, HTL.out]; cases hh : l.dropWhile (· == 48) with | nil => exact absurd hh he | cons x r => rfl
          have HAL := Lib.hid (show T.data.toList = alD l by unfold alD; rw [if_neg he, HTL.out])
          have hsz : T.size ≤ 1000 := by rw [← length_data, HTL.out]; have := (List.dropWhile_sublist (p := (· == (48 : UInt8))) (l := l)).length_le; omega
          clear he
          clear pn0 fn0 pn1 fn1 pn2 fn2 pn3 fn3
          obtain ⟨pn0, fn0, pn1, fn1, pn2, fn2, pn3, fn3⟩ := F5n.out.all4
          go_wp2_with fail
          refine (nParse_sl T (alD l) w5 HAL.out hsz HNUM.out HVB.out).mono ?_
          rw [HVAL.out]
          rintro e w6 ⟨M, m, rfl, HM, HB6⟩
          have F6t := Lib.hid (F5t.out.belowW HB6.out)
          have F6r := Lib.hid (F5r.out.belowW HB6.out)
          have F6n := Lib.hid (F5n.out.belowW HB6.out)
          have HL6 := Lib.hid (HL5.out.trans (HB6.out.mono HL5.out.size))
          have F6m := Lib.hid (HM.out)
          have hm : m ≤ 100000 := by have h1 := HM.out.lim HV32.out; omega
          cases ng with
          | false =>
            clear pn0 fn0 pn1 fn1 pn2 fn2 pn3 fn3
            obtain ⟨pn0, fn0, pn1, fn1, pn2, fn2, pn3, fn3⟩ := F6n.out.all4
            go_upto_region 13 with (fail)
            rw [store2_4 F6n.out]
            obtain ⟨w8, hw⟩ : ∃ z9 : World, z9 = putB w6 (w4.heap.size) 56 #[.bool false, .slice M m m, .int .i64 (B.size : Int), .int .i64 ((A.size : Int) + (B.size : Int))] := ⟨_, rfl⟩
            have G8n := Lib.hid (show Blk w8 (w4.heap.size) 56 #[.bool false, .slice M m m, .int .i64 (B.size : Int), .int .i64 ((A.size : Int) + (B.size : Int))] by rw [hw]; exact F6n.out.put #[.bool false, .slice M m m, .int .i64 (B.size : Int), .int .i64 ((A.size : Int) + (B.size : Int))])
            have HX8 := Lib.hid (show Below w.heap.size w w8 by rw [hw]; exact HL6.out.trans (putB_below w6 _ 56 #[.bool false, .slice M m m, .int .i64 (B.size : Int), .int .i64 ((A.size : Int) + (B.size : Int))] HNL.out))
            have G8m := Lib.hid (show Sl w8 M m m (limbs v) by rw [hw]; exact F6m.out.far F6n.out noU4 (putB_grown w6 (w4.heap.size) 56 #[.bool false, .slice M m m, .int .i64 (B.size : Int), .int .i64 ((A.size : Int) + (B.size : Int))]))
            have G8r := Lib.hid (show Blk w8 w.heap.size 56 #[.bool false, .slice none 0 0, .int .i64 0, .int .i64 0] by rw [hw]; exact F6r.out.far HNE.out #[.bool false, .slice M m m, .int .i64 (B.size : Int), .int .i64 ((A.size : Int) + (B.size : Int))])
            rw [← hw]
            clear hw pn0 fn0 pn1 fn1 pn2 fn2 pn3 fn3
            obtain ⟨pn0, fn0, pn1, fn1, pn2, fn2, pn3, fn3⟩ := G8n.out.all4
            obtain ⟨pr0, fr0, pr1, fr1, pr2, fr2, pr3, fr3⟩ := G8r.out.all4
            go_wp2_with fail
            rw [store4_put G8r.out]
            have FR9 := Lib.hid (G8r.out.put #[.bool false, .slice M m m, .int .i64 (B.size : Int), .int .i64 ((A.size : Int) + (B.size : Int))])
            have HL9 := Lib.hid (HX8.out.trans (putB_below w8 _ 56 #[.bool false, .slice M m m, .int .i64 (B.size : Int), .int .i64 ((A.size : Int) + (B.size : Int))] (Nat.le_refl _)))
            have S9 := Lib.hid (G8m.out.far G8r.out noU4 (putB_grown w8 w.heap.size 56 #[.bool false, .slice M m m, .int .i64 (B.size : Int), .int .i64 ((A.size : Int) + (B.size : Int))]))
            clear pn0 fn0 pn1 fn1 pn2 fn2 pn3 fn3 pr0 fr0 pr1 fr1 pr2 fr2 pr3 fr3
            obtain ⟨w9, hw⟩ : ∃ z9 : World, z9 = putB w8 w.heap.size 56 #[.bool false, .slice M m m, .int .i64 (B.size : Int), .int .i64 ((A.size : Int) + (B.size : Int))] := ⟨_, rfl⟩
            rw [← hw] at FR9 HL9 S9 ⊢
            clear hw
            obtain ⟨pr0, fr0, pr1, fr1, pr2, fr2, pr3, fr3⟩ := FR9.out.all4
            refine bodyPost_ret (v := .tuple #[.agg #[.bool false, .slice M m m, .int .i64 (B.size : Int), .int .i64 ((A.size : Int) + (B.size : Int))], .bool true]) (by simp [results, Tryz.results32, go_sem, pr0, pr1, pr2, pr3]) rfl ?_
            rw [HY.out, Bool.false_and]
            exact ⟨M, m, m, rfl, S9, HL9⟩
          | true =>
            clear pn0 fn0 pn1 fn1 pn2 fn2 pn3 fn3
            obtain ⟨pn0, fn0, pn1, fn1, pn2, fn2, pn3, fn3⟩ := F6n.out.all4
            go_wp2_with fail
            refine (bits_any M m m (limbs v) w6 F6m.out hm).mono ?_
            rw [val_limbs]
            rintro e w' ⟨rfl, rfl⟩
            obtain ⟨gz, hgz⟩ : ∃ g, decide ((0 : Int) < (blen v : Int)) = g := ⟨_, rfl⟩
            have HGZ := Lib.hid (show decide (0 < v) = gz by rw [← hgz, decide_eq_decide]; have := blen_zero_iff (n := v); omega)
            have hgz2 : decide (0 < blen v) = gz := by rw [← hgz, decide_eq_decide]; omega
            go_upto_region 13 with (fail)
            rw [store2_4 F6n.out]
            obtain ⟨w8, hw⟩ : ∃ z9 : World, z9 = putB w6 (w4.heap.size) 56 #[.bool gz, .slice M m m, .int .i64 (B.size : Int), .int .i64 ((A.size : Int) + (B.size : Int))] := ⟨_, rfl⟩
            have G8n := Lib.hid (show Blk w8 (w4.heap.size) 56 #[.bool gz, .slice M m m, .int .i64 (B.size : Int), .int .i64 ((A.size : Int) + (B.size : Int))] by rw [hw]; exact F6n.out.put #[.bool gz, .slice M m m, .int .i64 (B.size : Int), .int .i64 ((A.size : Int) + (B.size : Int))])
            have HX8 := Lib.hid (show Below w.heap.size w w8 by rw [hw]; exact HL6.out.trans (putB_below w6 _ 56 #[.bool gz, .slice M m m, .int .i64 (B.size : Int), .int .i64 ((A.size : Int) + (B.size : Int))] HNL.out))
            have G8m := Lib.hid (show Sl w8 M m m (limbs v) by rw [hw]; exact F6m.out.far F6n.out noU4 (putB_grown w6 (w4.heap.size) 56 #[.bool gz, .slice M m m, .int .i64 (B.size : Int), .int .i64 ((A.size : Int) + (B.size : Int))]))
            have G8r := Lib.hid (show Blk w8 w.heap.size 56 #[.bool false, .slice none 0 0, .int .i64 0, .int .i64 0] by rw [hw]; exact F6r.out.far HNE.out #[.bool gz, .slice M m m, .int .i64 (B.size : Int), .int .i64 ((A.size : Int) + (B.size : Int))])
            rw [← hw]
            clear hw pn0 fn0 pn1 fn1 pn2 fn2 pn3 fn3
            obtain ⟨pn0, fn0, pn1, fn1, pn2, fn2, pn3, fn3⟩ := G8n.out.all4
            obtain ⟨pr0, fr0, pr1, fr1, pr2, fr2, pr3, fr3⟩ := G8r.out.all4
            go_wp2_with fail
            rw [store4_put G8r.out]
            have FR9 := Lib.hid (G8r.out.put #[.bool gz, .slice M m m, .int .i64 (B.size : Int), .int .i64 ((A.size : Int) + (B.size : Int))])
            have HL9 := Lib.hid (HX8.out.trans (putB_below w8 _ 56 #[.bool gz, .slice M m m, .int .i64 (B.size : Int), .int .i64 ((A.size : Int) + (B.size : Int))] (Nat.le_refl _)))
            have S9 := Lib.hid (G8m.out.far G8r.out noU4 (putB_grown w8 w.heap.size 56 #[.bool gz, .slice M m m, .int .i64 (B.size : Int), .int .i64 ((A.size : Int) + (B.size : Int))]))
            clear pn0 fn0 pn1 fn1 pn2 fn2 pn3 fn3 pr0 fr0 pr1 fr1 pr2 fr2 pr3 fr3
            obtain ⟨w9, hw⟩ : ∃ z9 : World, z9 = putB w8 w.heap.size 56 #[.bool gz, .slice M m m, .int .i64 (B.size : Int), .int .i64 ((A.size : Int) + (B.size : Int))] := ⟨_, rfl⟩
            rw [← hw] at FR9 HL9 S9 ⊢
            clear hw
            obtain ⟨pr0, fr0, pr1, fr1, pr2, fr2, pr3, fr3⟩ := FR9.out.all4
            refine bodyPost_ret (v := .tuple #[.agg #[.bool gz, .slice M m m, .int .i64 (B.size : Int), .int .i64 ((A.size : Int) + (B.size : Int))], .bool true]) (by simp [results, Tryz.results32, go_sem, pr0, pr1, pr2, pr3]) rfl ?_
            rw [HY.out, Bool.true_and, HGZ.out]
            exact ⟨M, m, m, rfl, S9, HL9⟩
end Go.Proofs.YtffdkakogeofmaaGreatDoor
