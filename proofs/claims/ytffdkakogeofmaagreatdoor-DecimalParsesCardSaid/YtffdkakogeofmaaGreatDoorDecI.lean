/-
  The walk of decimal.Parse.
-/
import Derived.Test.YtffdkakogeofmaaGreatDoorDecH
import Derived.Test.YtffdkakogeofmaaGreatDoorDecT
set_option linter.unusedVariables false
namespace Go.Fl.Dy
open Go.Fl.Nm
def zD : D := ⟨false, 0, 0⟩
/-- The two texts of a text in brackets, or the text twice; none: it has no form. -/
def brkD (s : List UInt8) : Option (List UInt8 × List UInt8) :=
  if Go.Lib.hasPrefix s [91] then
    if Go.Lib.hasSuffix (Go.Lib.trimPrefix s [91]) [93] && (Go.Lib.cut (Go.Lib.trimSuffix (Go.Lib.trimPrefix s [91]) [93]) [44, 32]).2.2 then
      some ((Go.Lib.cut (Go.Lib.trimSuffix (Go.Lib.trimPrefix s [91]) [93]) [44, 32]).1, (Go.Lib.cut (Go.Lib.trimSuffix (Go.Lib.trimPrefix s [91]) [93]) [44, 32]).2.1)
    else none
  else some (s, s)
end Go.Fl.Dy
namespace Go.Proofs.YtffdkakogeofmaaGreatDoor
open Go.RowKit Go.Fl Go.Fl.Nm Go.Fl.Dy
/-- What two decimal numbers are read as. -/
def parT (a b : DN × Bool) (p : Int) : (D × D × Bool) × Int :=
  if (a.2 && b.2) = false then ((zD, zD, false), 3)
  else if 256 < a.1.t ∨ 256 < b.1.t then ((zD, zD, false), 5)
  else if p < 8 ∨ 512 < p ∨ abvB a.1.neg a.1.v a.1.b b.1.neg b.1.v b.1.b = true then ((zD, zD, false), 2)
  else if (divE (canon a.1.neg a.1.v 0) (canon false (10 ^ a.1.b) 0) p false).2 ≠ 0 ∨ (divE (canon b.1.neg b.1.v 0) (canon false (10 ^ b.1.b) 0) p true).2 ≠ 0 then ((zD, zD, false), 9)
  else (((divE (canon a.1.neg a.1.v 0) (canon false (10 ^ a.1.b) 0) p false).1, (divE (canon b.1.neg b.1.v 0) (canon false (10 ^ b.1.b) 0) p true).1, false), 0)
theorem parT_full {a b : DN} {p : Int} (h : 256 < a.t ∨ 256 < b.t) : parT (a, true) (b, true) p = ((zD, zD, false), 5) := by
  unfold parT
  rw [if_neg (fun h => by cases h), if_pos h]
theorem parT_rest {a b : DN} {p : Int} (h : ¬ (256 < a.t ∨ 256 < b.t)) : parT (a, true) (b, true) p =
    if p < 8 ∨ 512 < p ∨ abvB a.neg a.v a.b b.neg b.v b.b = true then ((zD, zD, false), 2)
    else if (divE (canon a.neg a.v 0) (canon false (10 ^ a.b) 0) p false).2 ≠ 0 ∨ (divE (canon b.neg b.v 0) (canon false (10 ^ b.b) 0) p true).2 ≠ 0 then ((zD, zD, false), 9)
    else (((divE (canon a.neg a.v 0) (canon false (10 ^ a.b) 0) p false).1, (divE (canon b.neg b.v 0) (canon false (10 ^ b.b) 0) p true).1, false), 0) := by
  unfold parT
  rw [if_neg (fun h => by cases h), if_neg h]
theorem parT_range {a b : DN} {p : Int} (h : ¬ (256 < a.t ∨ 256 < b.t)) (hp : p < 8 ∨ 512 < p) : parT (a, true) (b, true) p = ((zD, zD, false), 2) := by
  rw [parT_rest h, if_pos (hp.elim (fun h => .inl h) (fun h => .inr (.inl h)))]
theorem parT_above {a b : DN} {p : Int} (h : ¬ (256 < a.t ∨ 256 < b.t)) (hp : abvB a.neg a.v a.b b.neg b.v b.b = true) : parT (a, true) (b, true) p = ((zD, zD, false), 2) := by
  rw [parT_rest h, if_pos (.inr (.inr hp))]
theorem parT_end {a b : DN} {p : Int} {lo hi : D} {el eh : Int} (h : ¬ (256 < a.t ∨ 256 < b.t)) (hp : ¬ (p < 8 ∨ 512 < p)) (ha : abvB a.neg a.v a.b b.neg b.v b.b = false)
    (h1 : divE (canon a.neg a.v 0) (canon false (10 ^ a.b) 0) p false = (lo, el)) (h2 : divE (canon b.neg b.v 0) (canon false (10 ^ b.b) 0) p true = (hi, eh)) :
    parT (a, true) (b, true) p = if el ≠ 0 ∨ eh ≠ 0 then ((zD, zD, false), 9) else ((lo, hi, false), 0) := by
  rw [parT_rest h, if_neg (by rintro (h | h | h) <;> first | exact hp (.inl h) | exact hp (.inr h) | (rw [ha] at h; cases h)), h1, h2]
/-- The interval of a text, and the error. -/
def parR (s : List UInt8) (p : Int) : (D × D × Bool) × Int :=
  if s = [97, 108, 108] then (if p < 8 ∨ 512 < p then ((zD, zD, false), 2) else ((zD, zD, true), 0))
  else match brkD s with
    | none => ((zD, zD, false), 3)
    | some (a, b) => parT (rdN a) (rdN b) p
/-- An interval and an error. -/
def IvE (r : (D × D × Bool) × Int) (w : World) (e : Ending) (w' : World) : Prop :=
  ∃ (A B : Option Addr) (n c m d : Nat), e = .returned (.tuple #[.agg #[.bool r.1.1.neg, .slice A n c, .int .i64 r.1.1.e, .bool r.1.2.1.neg, .slice B m d, .int .i64 r.1.2.1.e, .bool r.1.2.2], .int .i64 r.2]) ∧ Hid (Sl w' A n c (limbs r.1.1.k)) ∧ Hid (Sl w' B m d (limbs r.1.2.1.k)) ∧ Hid (Below w.heap.size w w')
theorem ive_no {w w' : World} {e : Ending} {r : (D × D × Bool) × Int} {al : Bool} {er : Int} (hr : r = ((zD, zD, al), er)) (he : e = .returned (.tuple #[.agg #[.bool false, .slice none 0 0, .int .i64 0, .bool false, .slice none 0 0, .int .i64 0, .bool al], .int .i64 er])) (hb : Below w.heap.size w w') : IvE r w e w' := by
  subst hr
  exact ⟨none, none, 0, 0, 0, 0, he, Lib.hid (by rw [show ((zD, zD, al), er).1.1.k = 0 from rfl, limbs_zero]; exact Sl.none_ _), Lib.hid (by rw [show ((zD, zD, al), er).1.2.1.k = 0 from rfl, limbs_zero]; exact Sl.none_ _), Lib.hid hb⟩
/-- The library's bound of a short search: some number. -/
def MXL (w : World) : Prop := 0 < w.heap.size ∧ ∃ m, w.cell? ⟨0, 0, none⟩ = some (.int .i64 m)
theorem MXL.belowW {w w' : World} (h : MXL w) (hb : Below w.heap.size w w') : MXL w' := by
  obtain ⟨h0, m, hm⟩ := h
  exact ⟨Nat.lt_of_lt_of_le h0 hb.size, m, (hb.cell (p := ⟨0, 0, none⟩) h0).trans hm⟩
theorem rdN_bd {s : List UInt8} {d : DN} {ok : Bool} (h : rdN s = (d, ok)) : blen d.v ≤ 1100 ∧ (d.t ≤ 256 → d.b ≤ 256) ∧ (d.neg = true → 0 < d.v) := by
  unfold rdN at h
  split at h
  · rename_i hok
    split at h
    · obtain ⟨rfl, rfl⟩ := Prod.mk.inj h
      exact ⟨by simp [blen_zero], fun h => by simp at h ⊢; omega, fun h => by cases h⟩
    · rename_i h256
      obtain ⟨rfl, rfl⟩ := Prod.mk.inj h
      refine ⟨?_, fun h => by simp at h ⊢; omega, fun h => by simp at h; exact h.2⟩
      show blen (dval _) ≤ 1100
      have hdg : (whD (rsD s) ++ frD (rsD s)).all Nm.isDig = true := by
        unfold okD Rt.digs at hok
        rw [List.all_append, ← Rt.isDig_eq]
        simp only [Bool.and_eq_true, Bool.or_eq_true] at hok
        obtain ⟨⟨_, h2⟩, h3⟩ := hok
        rw [h2, Bool.true_and]
        rcases h3 with h3 | ⟨_, h3⟩
        · unfold frD
          rw [Bool.not_eq_true'] at h3
          rw [h3]
          rfl
        · exact h3
      have h1 := dval_lt _ hdg
      rw [List.length_append] at h1
      have h2 : dval (whD (rsD s) ++ frD (rsD s)) < 10 ^ 256 := Nat.lt_of_lt_of_le h1 (Nat.pow_le_pow_right (by omega) (by omega))
      have h3 := blen_mono (Nat.le_of_lt h2)
      have h4 := blen_ten 256
      omega
  · obtain ⟨rfl, rfl⟩ := Prod.mk.inj h
    exact ⟨by simp [blen_zero], fun _ => by simp, fun h => by cases h⟩
/-- Behind strings.Cut at a comma and a blank. -/
def Cut2 (f g : List UInt8) (k : Bool) (w : World) (e : Ending) (w' : World) : Prop :=
  ∃ A B : ByteArray, e = .returned (.tuple #[.string A, .string B, .bool k]) ∧ Hid (A.data.toList = f) ∧ Hid (B.data.toList = g) ∧ Hid (Below w.heap.size w w')
theorem cut2_any (s : ByteArray) (u f g : List UInt8) (k : Bool) (w : World) (hs : s.size ≤ 3000) (hM : MXL w) (hu : s.data.toList = u) (hf : (Go.Lib.cut u [44, 32]).1 = f) (hg : (Go.Lib.cut u [44, 32]).2.1 = g) (hk : (Go.Lib.cut u [44, 32]).2.2 = k) :
    Calls Tryz.prog 24 #[.string s, .string ⟨#[44, 32]⟩] w (Cut2 f g k w) := by
  subst hu hf hg hk
  obtain ⟨_, m, hm⟩ := hM
  refine (Any.strings_Cut { Tryz.laysM145 with } s ⟨#[44, 32]⟩ m w (by omega) hm).mono ?_
  rintro e w' ⟨rfl, k, rfl⟩
  exact ⟨_, _, rfl, Lib.hid rfl, Lib.hid rfl, Lib.hid (below_drewN (Below.refl _ _) _)⟩
theorem tp_len (l q : List UInt8) : (Go.Lib.trimPrefix l q).length ≤ l.length := by
  unfold Go.Lib.trimPrefix
  split
  · rw [List.length_drop]; omega
  · exact Nat.le_refl _
theorem ts_len (l q : List UInt8) : (Go.Lib.trimSuffix l q).length ≤ l.length := by
  unfold Go.Lib.trimSuffix
  split
  · rw [List.length_take]; omega
  · exact Nat.le_refl _
theorem cut_len (l q : List UInt8) : (Go.Lib.cut l q).1.length ≤ l.length ∧ (Go.Lib.cut l q).2.1.length ≤ l.length := by
  unfold Go.Lib.cut
  split
  · constructor
    · simp only; rw [List.length_take]; omega
    · simp only; rw [List.length_drop]; omega
  · exact ⟨Nat.le_refl _, Nat.zero_le _⟩
theorem read_at (s : ByteArray) (l : List UInt8) (d : DN) (ok : Bool) (w : World) (hl : s.data.toList = l) (hr : rdN l = (d, ok)) (hs : s.size ≤ 3000) (hT : RB w) :
    Calls Tryz.prog 32 #[.string s] w (RdP (d, ok) w) := by
  rw [← hr, ← hl]
  exact read_any s w hs hT

set_option maxHeartbeats 1000000 in
theorem whole_any (w : World) : Calls Tryz.prog 29 #[] w (fun e w' => e = .returned (.agg #[.bool false, .slice none 0 0, .int .i64 0, .bool false, .slice none 0 0, .int .i64 0, .bool true]) ∧ Hid (Below w.heap.size w w')) := by
  go_enter Tryz.func29, Tryz.ntmps29
  go_wp2_with fail
  refine bodyPost_ret (v := .agg #[.bool false, .slice none 0 0, .int .i64 0, .bool false, .slice none 0 0, .int .i64 0, .bool true]) (by simp [results, Tryz.results29, go_sem]) rfl ?_
  exact ⟨rfl, Lib.hid (below_a1 _ _)⟩

set_option maxHeartbeats 1000000 in
theorem parse_all (p : Int) (w : World) :
    Calls Tryz.prog 10 #[.string ⟨#[97, 108, 108]⟩, .int .i64 p] w (IvE (parR [97, 108, 108] p) w) := by
  by_cases hp : p < 8 ∨ 512 < p
  case pos =>
    have HE := Lib.hid (show parR [97, 108, 108] p = ((zD, zD, false), 2) by unfold parR; rw [if_pos rfl, if_pos hp])
    by_cases h1 : p < 8
    case pos =>
      have d3 : decide (p < 8) = true := decide_eq_true h1
      go_enter Tryz.func10, Tryz.ntmps10
      go_wp2_with fail
      obtain ⟨w1, hw⟩ : ∃ z9 : World, z9 = (w.alloc (.cells #[.bool false, .slice none 0 0, .int .i64 0, .bool false, .slice none 0 0, .int .i64 0, .bool false] 27)) := ⟨_, rfl⟩
      have HB1 := Lib.hid (show Below w.heap.size w w1 by rw [hw]; exact below_a1 _ _)
      have F1r := Lib.hid (show Blk w1 (w.heap.size) 27 #[.bool false, .slice none 0 0, .int .i64 0, .bool false, .slice none 0 0, .int .i64 0, .bool false] by rw [hw]; exact Blk.new _ _ _)
      rw [← hw]
      clear hw
      obtain ⟨pr0, fr0, pr1, fr1, pr2, fr2, pr3, fr3, pr4, fr4, pr5, fr5, pr6, fr6⟩ := F1r.out.all7
      go_wp2_with fail
      try rw [store7_put F1r.out, F1r.out.put_self]
      refine bodyPost_ret (v := .tuple #[.agg #[.bool false, .slice none 0 0, .int .i64 0, .bool false, .slice none 0 0, .int .i64 0, .bool false], .int .i64 2]) (by simp [results, Tryz.results10, go_sem, pr0, pr1, pr2, pr3, pr4, pr5, pr6]) rfl ?_
      exact ive_no HE.out rfl HB1.out
    case neg =>
      have d3 : decide (p < 8) = false := decide_eq_false h1
      have d4 : decide (512 < p) = true := decide_eq_true (by omega)
      go_enter Tryz.func10, Tryz.ntmps10
      go_wp2_with fail
      obtain ⟨w1, hw⟩ : ∃ z9 : World, z9 = (w.alloc (.cells #[.bool false, .slice none 0 0, .int .i64 0, .bool false, .slice none 0 0, .int .i64 0, .bool false] 27)) := ⟨_, rfl⟩
      have HB1 := Lib.hid (show Below w.heap.size w w1 by rw [hw]; exact below_a1 _ _)
      have F1r := Lib.hid (show Blk w1 (w.heap.size) 27 #[.bool false, .slice none 0 0, .int .i64 0, .bool false, .slice none 0 0, .int .i64 0, .bool false] by rw [hw]; exact Blk.new _ _ _)
      rw [← hw]
      clear hw
      obtain ⟨pr0, fr0, pr1, fr1, pr2, fr2, pr3, fr3, pr4, fr4, pr5, fr5, pr6, fr6⟩ := F1r.out.all7
      go_wp2_with fail
      try rw [store7_put F1r.out, F1r.out.put_self]
      refine bodyPost_ret (v := .tuple #[.agg #[.bool false, .slice none 0 0, .int .i64 0, .bool false, .slice none 0 0, .int .i64 0, .bool false], .int .i64 2]) (by simp [results, Tryz.results10, go_sem, pr0, pr1, pr2, pr3, pr4, pr5, pr6]) rfl ?_
      exact ive_no HE.out rfl HB1.out
  case neg =>
    have HE := Lib.hid (show parR [97, 108, 108] p = ((zD, zD, true), 0) by unfold parR; rw [if_pos rfl, if_neg hp])
    have d3 : decide (p < 8) = false := decide_eq_false (by omega)
    have d4 : decide (512 < p) = false := decide_eq_false (by omega)
    go_enter Tryz.func10, Tryz.ntmps10
    go_wp2_with fail
    obtain ⟨w1, hw⟩ : ∃ z9 : World, z9 = (w.alloc (.cells #[.bool false, .slice none 0 0, .int .i64 0, .bool false, .slice none 0 0, .int .i64 0, .bool false] 27)) := ⟨_, rfl⟩
    have HB1 := Lib.hid (show Below w.heap.size w w1 by rw [hw]; exact below_a1 _ _)
    have F1r := Lib.hid (show Blk w1 (w.heap.size) 27 #[.bool false, .slice none 0 0, .int .i64 0, .bool false, .slice none 0 0, .int .i64 0, .bool false] by rw [hw]; exact Blk.new _ _ _)
    rw [← hw]
    clear hw
    obtain ⟨pr0, fr0, pr1, fr1, pr2, fr2, pr3, fr3, pr4, fr4, pr5, fr5, pr6, fr6⟩ := F1r.out.all7
    go_wp2_with fail
    refine (whole_any w1).mono ?_
    rintro e w2 ⟨rfl, HB2⟩
    have F2r := Lib.hid (F1r.out.belowW HB2.out)
    have HL2 := Lib.hid (HB1.out.trans (HB2.out.mono HB1.out.size))
    clear pr0 fr0 pr1 fr1 pr2 fr2 pr3 fr3 pr4 fr4 pr5 fr5 pr6 fr6
    obtain ⟨pr0, fr0, pr1, fr1, pr2, fr2, pr3, fr3, pr4, fr4, pr5, fr5, pr6, fr6⟩ := F2r.out.all7
    go_wp2_with fail
    rw [store7_put F2r.out]
    have FR9 := Lib.hid (F2r.out.put #[.bool false, .slice none 0 0, .int .i64 0, .bool false, .slice none 0 0, .int .i64 0, .bool true])
    have HL9 := Lib.hid (HL2.out.trans (putB_below w2 _ 27 #[.bool false, .slice none 0 0, .int .i64 0, .bool false, .slice none 0 0, .int .i64 0, .bool true] (Nat.le_refl _)))
    clear pr0 fr0 pr1 fr1 pr2 fr2 pr3 fr3 pr4 fr4 pr5 fr5 pr6 fr6
    obtain ⟨w9, hw⟩ : ∃ z9 : World, z9 = putB w2 w.heap.size 27 #[.bool false, .slice none 0 0, .int .i64 0, .bool false, .slice none 0 0, .int .i64 0, .bool true] := ⟨_, rfl⟩
    rw [← hw] at FR9 HL9  ⊢
    clear hw
    obtain ⟨pr0, fr0, pr1, fr1, pr2, fr2, pr3, fr3, pr4, fr4, pr5, fr5, pr6, fr6⟩ := FR9.out.all7
    refine bodyPost_ret (v := .tuple #[.agg #[.bool false, .slice none 0 0, .int .i64 0, .bool false, .slice none 0 0, .int .i64 0, .bool true], .int .i64 0]) (by simp [results, Tryz.results10, go_sem, pr0, pr1, pr2, pr3, pr4, pr5, pr6]) rfl ?_
    exact ive_no HE.out rfl HL9.out

set_option maxHeartbeats 8000000 in
theorem parse_plain (s : ByteArray) (p : Int) (w : World) (hs : s.size ≤ 3000) (hT : RB w) (hM : MXL w) (h0 : s.data.toList ≠ [97, 108, 108]) (h1 : Go.Lib.hasPrefix s.data.toList [91] = false) :
    Calls Tryz.prog 10 #[.string s, .int .i64 p] w (IvE (parR s.data.toList p) w) := by
  have HT := Lib.hid hT
  have HP1 := Lib.hid (show Go.Lib.hasPrefix s.data.toList (⟨#[91]⟩ : ByteArray).data.toList = false from h1)
  obtain ⟨f, hf⟩ : ∃ f, s.data.toList = f := ⟨_, rfl⟩
  have HF := Lib.hid hf
  have HR := Lib.hid (show parR s.data.toList p = parT (rdN f) (rdN f) p by unfold parR; rw [if_neg h0]; unfold brkD; rw [h1, hf]; rfl)
  have n0 : (s.toList == [97, 108, 108]) = false := by rw [bl_data, beq_eq_false_iff_ne]; exact h0
  obtain ⟨g, hg⟩ : ∃ g, f = g := ⟨_, rfl⟩
  have HG := Lib.hid (show s.data.toList = g by rw [hf, hg])
  have HR := Lib.hid (show parR s.data.toList p = parT (rdN f) (rdN g) p by rw [HR.out, hg])
  have hF := hs
  have hG := hs
  clear hT hM hf h0 h1 hg
  go_enter Tryz.func10, Tryz.ntmps10
  go_wp2_with fail
  obtain ⟨w1, hw⟩ : ∃ z9 : World, z9 = (w.alloc (.cells #[.bool false, .slice none 0 0, .int .i64 0, .bool false, .slice none 0 0, .int .i64 0, .bool false] 27)) := ⟨_, rfl⟩
  have HB1 := Lib.hid (show Below w.heap.size w w1 by rw [hw]; exact below_a1 _ _)
  have F1t := Lib.hid (HT.out.belowW HB1.out)
  have F1r := Lib.hid (show Blk w1 (w.heap.size) 27 #[.bool false, .slice none 0 0, .int .i64 0, .bool false, .slice none 0 0, .int .i64 0, .bool false] by rw [hw]; exact Blk.new _ _ _)
  rw [← hw]
  clear hw
  obtain ⟨pr0, fr0, pr1, fr1, pr2, fr2, pr3, fr3, pr4, fr4, pr5, fr5, pr6, fr6⟩ := F1r.out.all7
  go_wp2_with fail
  refine (Tryz.strings_CutPrefix s ⟨#[91]⟩ w1).mono ?_
  rintro e w' ⟨rfl, hw⟩
  obtain rfl := hw.symm
  clear hw
  obtain ⟨R, hR⟩ : ∃ R : ByteArray, R = ⟨(Go.Lib.trimPrefix s.data.toList (⟨#[91]⟩ : ByteArray).data.toList).toArray⟩ := ⟨_, rfl⟩
  have HRL := Lib.hid (show R.data.toList = Go.Lib.trimPrefix s.data.toList [91] by rw [hR])
  rw [← hR, HP1.out]
  clear hR
  go_wp2_with fail
  obtain ⟨⟨da, oka⟩, hra⟩ : ∃ r : DN × Bool, rdN f = r := ⟨_, rfl⟩
  obtain ⟨⟨db, okb⟩, hrb⟩ : ∃ r : DN × Bool, rdN g = r := ⟨_, rfl⟩
  have RA := Lib.hid hra
  have RBd := Lib.hid hrb
  obtain ⟨bva, bba, bna⟩ := rdN_bd hra
  obtain ⟨bvb, bbb, bnb⟩ := rdN_bd hrb
  have BNA := Lib.hid bna
  have BNB := Lib.hid bnb
  have BBA := Lib.hid bba
  have BBB := Lib.hid bbb
  have HQ := Lib.hid (show parR s.data.toList p = parT (da, oka) (db, okb) p by rw [HR.out, hra, hrb])
  clear hra hrb bna bnb bba bbb
  refine (read_at s f da oka w1 HF.out RA.out hF F1t.out).mono ?_
  rintro e w2 ⟨A, n, nc, rfl, HA, HB2⟩
  have F2t := Lib.hid (F1t.out.belowW HB2.out)
  have F2r := Lib.hid (F1r.out.belowW HB2.out)
  have HL2 := Lib.hid (HB1.out.trans (HB2.out.mono HB1.out.size))
  have F2a := Lib.hid (HA.out)
  go_upto_region 14 with (fail)
  obtain ⟨w3, hw⟩ : ∃ z9 : World, z9 = w2.alloc (.cells #[.bool da.neg, .slice A n nc, .int .i64 (da.b : Int), .int .i64 (da.t : Int)] 56) := ⟨_, rfl⟩
  have HB3 := Lib.hid (show Below w2.heap.size w2 w3 by rw [hw]; exact below_a1 _ _)
  have F3xa := Lib.hid (show Blk w3 w2.heap.size 56 #[.bool da.neg, .slice A n nc, .int .i64 (da.b : Int), .int .i64 (da.t : Int)] by rw [hw]; exact Blk.new _ _ _)
  rw [← hw]
  clear hw
  have F3t := Lib.hid (F2t.out.belowW HB3.out)
  have F3r := Lib.hid (F2r.out.belowW HB3.out)
  have F3a := Lib.hid (F2a.out.belowW HB3.out)
  have HL3 := Lib.hid (HL2.out.trans (HB3.out.mono HL2.out.size))
  go_wp2_with fail
  refine (read_at s g db okb w3 HG.out RBd.out hG F3t.out).mono ?_
  rintro e w4 ⟨B, m, mc, rfl, HYb, HB4⟩
  have F4t := Lib.hid (F3t.out.belowW HB4.out)
  have F4r := Lib.hid (F3r.out.belowW HB4.out)
  have F4a := Lib.hid (F3a.out.belowW HB4.out)
  have F4xa := Lib.hid (F3xa.out.belowW HB4.out)
  have HL4 := Lib.hid (HL3.out.trans (HB4.out.mono HL3.out.size))
  have F4b := Lib.hid (HYb.out)
  go_upto_region 15 with (fail)
  obtain ⟨w5, hw⟩ : ∃ z9 : World, z9 = w4.alloc (.cells #[.bool db.neg, .slice B m mc, .int .i64 (db.b : Int), .int .i64 (db.t : Int)] 56) := ⟨_, rfl⟩
  have HB5 := Lib.hid (show Below w4.heap.size w4 w5 by rw [hw]; exact below_a1 _ _)
  have F5xb := Lib.hid (show Blk w5 w4.heap.size 56 #[.bool db.neg, .slice B m mc, .int .i64 (db.b : Int), .int .i64 (db.t : Int)] by rw [hw]; exact Blk.new _ _ _)
  rw [← hw]
  clear hw
  have F5t := Lib.hid (F4t.out.belowW HB5.out)
  have F5r := Lib.hid (F4r.out.belowW HB5.out)
  have F5a := Lib.hid (F4a.out.belowW HB5.out)
  have F5xa := Lib.hid (F4xa.out.belowW HB5.out)
  have F5b := Lib.hid (F4b.out.belowW HB5.out)
  have HL5 := Lib.hid (HL4.out.trans (HB5.out.mono HL4.out.size))
  cases oka with
  | false =>
    have HE := Lib.hid (show parR s.data.toList p = ((zD, zD, false), 3) by rw [HQ.out]; rfl)
    clear pr0 fr0 pr1 fr1 pr2 fr2 pr3 fr3 pr4 fr4 pr5 fr5 pr6 fr6
    obtain ⟨pr0, fr0, pr1, fr1, pr2, fr2, pr3, fr3, pr4, fr4, pr5, fr5, pr6, fr6⟩ := F5r.out.all7
    go_wp2_with fail
    try rw [store7_put F5r.out, F5r.out.put_self]
    refine bodyPost_ret (v := .tuple #[.agg #[.bool false, .slice none 0 0, .int .i64 0, .bool false, .slice none 0 0, .int .i64 0, .bool false], .int .i64 3]) (by simp [results, Tryz.results10, go_sem, pr0, pr1, pr2, pr3, pr4, pr5, pr6]) rfl ?_
    exact ive_no HE.out rfl HL5.out
  | true =>
    cases okb with
    | false =>
      have HE := Lib.hid (show parR s.data.toList p = ((zD, zD, false), 3) by rw [HQ.out]; rfl)
      clear pr0 fr0 pr1 fr1 pr2 fr2 pr3 fr3 pr4 fr4 pr5 fr5 pr6 fr6
      obtain ⟨pr0, fr0, pr1, fr1, pr2, fr2, pr3, fr3, pr4, fr4, pr5, fr5, pr6, fr6⟩ := F5r.out.all7
      go_wp2_with fail
      try rw [store7_put F5r.out, F5r.out.put_self]
      refine bodyPost_ret (v := .tuple #[.agg #[.bool false, .slice none 0 0, .int .i64 0, .bool false, .slice none 0 0, .int .i64 0, .bool false], .int .i64 3]) (by simp [results, Tryz.results10, go_sem, pr0, pr1, pr2, pr3, pr4, pr5, pr6]) rfl ?_
      exact ive_no HE.out rfl HL5.out
    | true =>
      clear pr0 fr0 pr1 fr1 pr2 fr2 pr3 fr3 pr4 fr4 pr5 fr5 pr6 fr6
      obtain ⟨pr0, fr0, pr1, fr1, pr2, fr2, pr3, fr3, pr4, fr4, pr5, fr5, pr6, fr6⟩ := F5r.out.all7
      obtain ⟨pxa0, fxa0, pxa1, fxa1, pxa2, fxa2, pxa3, fxa3⟩ := F5xa.out.all4
      obtain ⟨pxb0, fxb0, pxb1, fxb1, pxb2, fxb2, pxb3, fxb3⟩ := F5xb.out.all4
      by_cases ht : 256 < da.t ∨ 256 < db.t
      case pos =>
        have HE := Lib.hid (show parR s.data.toList p = ((zD, zD, false), 5) from HQ.out.trans (parT_full ht))
        by_cases h1 : 256 < da.t
        case pos =>
          have d1 : decide ((256 : Int) < (da.t : Int)) = true := decide_eq_true (by omega)
          have d1' : decide (256 < da.t) = true := decide_eq_true h1
          go_wp2_with fail
          try rw [store7_put F5r.out, F5r.out.put_self]
          refine bodyPost_ret (v := .tuple #[.agg #[.bool false, .slice none 0 0, .int .i64 0, .bool false, .slice none 0 0, .int .i64 0, .bool false], .int .i64 5]) (by simp [results, Tryz.results10, go_sem, pr0, pr1, pr2, pr3, pr4, pr5, pr6]) rfl ?_
          exact ive_no HE.out rfl HL5.out
        case neg =>
          have d1 : decide ((256 : Int) < (da.t : Int)) = false := decide_eq_false (by omega)
          have d1' : decide (256 < da.t) = false := decide_eq_false h1
          have d2 : decide ((256 : Int) < (db.t : Int)) = true := decide_eq_true (by omega)
          have d2' : decide (256 < db.t) = true := decide_eq_true (by omega)
          go_wp2_with fail
          try rw [store7_put F5r.out, F5r.out.put_self]
          refine bodyPost_ret (v := .tuple #[.agg #[.bool false, .slice none 0 0, .int .i64 0, .bool false, .slice none 0 0, .int .i64 0, .bool false], .int .i64 5]) (by simp [results, Tryz.results10, go_sem, pr0, pr1, pr2, pr3, pr4, pr5, pr6]) rfl ?_
          exact ive_no HE.out rfl HL5.out
      case neg =>
        have t1 : da.t ≤ 256 := by omega
        have t2 : db.t ≤ 256 := by omega
        have d1 : decide ((256 : Int) < (da.t : Int)) = false := decide_eq_false (by omega)
        have d1' : decide (256 < da.t) = false := decide_eq_false (by omega)
        have d2 : decide ((256 : Int) < (db.t : Int)) = false := decide_eq_false (by omega)
        have d2' : decide (256 < db.t) = false := decide_eq_false (by omega)
        have HTT := Lib.hid ht
        clear ht
        by_cases hp : p < 8 ∨ 512 < p
        case pos =>
          have HE := Lib.hid (show parR s.data.toList p = ((zD, zD, false), 2) from HQ.out.trans (parT_range HTT.out hp))
          by_cases h1 : p < 8
          case pos =>
            have d3 : decide (p < 8) = true := decide_eq_true h1
            go_wp2_with fail
            try rw [store7_put F5r.out, F5r.out.put_self]
            refine bodyPost_ret (v := .tuple #[.agg #[.bool false, .slice none 0 0, .int .i64 0, .bool false, .slice none 0 0, .int .i64 0, .bool false], .int .i64 2]) (by simp [results, Tryz.results10, go_sem, pr0, pr1, pr2, pr3, pr4, pr5, pr6]) rfl ?_
            exact ive_no HE.out rfl HL5.out
          case neg =>
            have d3 : decide (p < 8) = false := decide_eq_false h1
            have d4 : decide (512 < p) = true := decide_eq_true (by omega)
            go_wp2_with fail
            try rw [store7_put F5r.out, F5r.out.put_self]
            refine bodyPost_ret (v := .tuple #[.agg #[.bool false, .slice none 0 0, .int .i64 0, .bool false, .slice none 0 0, .int .i64 0, .bool false], .int .i64 2]) (by simp [results, Tryz.results10, go_sem, pr0, pr1, pr2, pr3, pr4, pr5, pr6]) rfl ?_
            exact ive_no HE.out rfl HL5.out
        case neg =>
          have d3 : decide (p < 8) = false := decide_eq_false (by omega)
          have d4 : decide (512 < p) = false := decide_eq_false (by omega)
          have pb1 : 8 ≤ p := by omega
          have pb2 : p ≤ 512 := by omega
          obtain ⟨ab, hab⟩ : ∃ b, abvB da.neg da.v da.b db.neg db.v db.b = b := ⟨_, rfl⟩
          have HAB := Lib.hid hab
          have HPP := Lib.hid hp
          have ha256 := BBA.out t1
          have hb256 := BBB.out t2
          clear hp hab
          go_wp2_with fail
          refine (above_any da.neg db.neg A B n nc m mc da.v db.v da.b db.b (da.t : Int) (db.t : Int) w5 F5a.out F5b.out bva bvb ha256 hb256).mono ?_
          rw [HAB.out]
          rintro e w6 ⟨rfl, HB6⟩
          have F6t := Lib.hid (F5t.out.belowW HB6.out)
          have F6r := Lib.hid (F5r.out.belowW HB6.out)
          have F6a := Lib.hid (F5a.out.belowW HB6.out)
          have F6xa := Lib.hid (F5xa.out.belowW HB6.out)
          have F6b := Lib.hid (F5b.out.belowW HB6.out)
          have F6xb := Lib.hid (F5xb.out.belowW HB6.out)
          have HL6 := Lib.hid (HL5.out.trans (HB6.out.mono HL5.out.size))
          clear pr0 fr0 pr1 fr1 pr2 fr2 pr3 fr3 pr4 fr4 pr5 fr5 pr6 fr6 pxa0 fxa0 pxa1 fxa1 pxa2 fxa2 pxa3 fxa3 pxb0 fxb0 pxb1 fxb1 pxb2 fxb2 pxb3 fxb3
          obtain ⟨pr0, fr0, pr1, fr1, pr2, fr2, pr3, fr3, pr4, fr4, pr5, fr5, pr6, fr6⟩ := F6r.out.all7
          obtain ⟨pxa0, fxa0, pxa1, fxa1, pxa2, fxa2, pxa3, fxa3⟩ := F6xa.out.all4
          obtain ⟨pxb0, fxb0, pxb1, fxb1, pxb2, fxb2, pxb3, fxb3⟩ := F6xb.out.all4
          cases ab with
          | true =>
            have HE := Lib.hid (show parR s.data.toList p = ((zD, zD, false), 2) from HQ.out.trans (parT_above HTT.out HAB.out))
            go_wp2_with fail
            try rw [store7_put F6r.out, F6r.out.put_self]
            refine bodyPost_ret (v := .tuple #[.agg #[.bool false, .slice none 0 0, .int .i64 0, .bool false, .slice none 0 0, .int .i64 0, .bool false], .int .i64 2]) (by simp [results, Tryz.results10, go_sem, pr0, pr1, pr2, pr3, pr4, pr5, pr6]) rfl ?_
            exact ive_no HE.out rfl HL6.out
          | false =>
            obtain ⟨lo, el, hlo⟩ : ∃ x e, divE (canon da.neg da.v 0) (canon false (10 ^ da.b) 0) p false = (x, e) := ⟨_, _, rfl⟩
            obtain ⟨hi, eh, hhi⟩ : ∃ x e, divE (canon db.neg db.v 0) (canon false (10 ^ db.b) 0) p true = (x, e) := ⟨_, _, rfl⟩
            have HLO := Lib.hid hlo
            have HHI := Lib.hid hhi
            have HQ3 := Lib.hid (show parR s.data.toList p = if el ≠ 0 ∨ eh ≠ 0 then ((zD, zD, false), 9) else ((lo, hi, false), 0) from HQ.out.trans (parT_end HTT.out HPP.out HAB.out hlo hhi))
            clear hlo hhi
            go_wp2_with fail
            refine (rounded_any da.neg A n nc da.v da.b (da.t : Int) p false w6 F6a.out bva ha256 F6t.out).mono ?_
            rw [HLO.out]
            rintro e w7 ⟨U, u, uc, rfl, HU, HB7⟩
            have F7t := Lib.hid (F6t.out.belowW HB7.out)
            have F7r := Lib.hid (F6r.out.belowW HB7.out)
            have F7a := Lib.hid (F6a.out.belowW HB7.out)
            have F7xa := Lib.hid (F6xa.out.belowW HB7.out)
            have F7b := Lib.hid (F6b.out.belowW HB7.out)
            have F7xb := Lib.hid (F6xb.out.belowW HB7.out)
            have HL7 := Lib.hid (HL6.out.trans (HB7.out.mono HL6.out.size))
            have F7u := Lib.hid (HU.out)
            clear pr0 fr0 pr1 fr1 pr2 fr2 pr3 fr3 pr4 fr4 pr5 fr5 pr6 fr6 pxa0 fxa0 pxa1 fxa1 pxa2 fxa2 pxa3 fxa3 pxb0 fxb0 pxb1 fxb1 pxb2 fxb2 pxb3 fxb3
            go_upto_region 22 with (fail)
            obtain ⟨w8, hw⟩ : ∃ z9 : World, z9 = w7.alloc (.cells #[.bool lo.neg, .slice U u uc, .int .i64 lo.e] 25) := ⟨_, rfl⟩
            have HB8 := Lib.hid (show Below w7.heap.size w7 w8 by rw [hw]; exact below_a1 _ _)
            have F8lo := Lib.hid (show Blk w8 w7.heap.size 25 #[.bool lo.neg, .slice U u uc, .int .i64 lo.e] by rw [hw]; exact Blk.new _ _ _)
            rw [← hw]
            clear hw
            have F8t := Lib.hid (F7t.out.belowW HB8.out)
            have F8r := Lib.hid (F7r.out.belowW HB8.out)
            have F8a := Lib.hid (F7a.out.belowW HB8.out)
            have F8xa := Lib.hid (F7xa.out.belowW HB8.out)
            have F8b := Lib.hid (F7b.out.belowW HB8.out)
            have F8xb := Lib.hid (F7xb.out.belowW HB8.out)
            have F8u := Lib.hid (F7u.out.belowW HB8.out)
            have HL8 := Lib.hid (HL7.out.trans (HB8.out.mono HL7.out.size))
            obtain ⟨pxb0, fxb0, pxb1, fxb1, pxb2, fxb2, pxb3, fxb3⟩ := F8xb.out.all4
            go_wp2_with fail
            refine (rounded_any db.neg B m mc db.v db.b (db.t : Int) p true w8 F8b.out bvb hb256 F8t.out).mono ?_
            rw [HHI.out]
            rintro e w9 ⟨V, v, vc, rfl, HV, HB9⟩
            have F9t := Lib.hid (F8t.out.belowW HB9.out)
            have F9r := Lib.hid (F8r.out.belowW HB9.out)
            have F9a := Lib.hid (F8a.out.belowW HB9.out)
            have F9xa := Lib.hid (F8xa.out.belowW HB9.out)
            have F9b := Lib.hid (F8b.out.belowW HB9.out)
            have F9xb := Lib.hid (F8xb.out.belowW HB9.out)
            have F9u := Lib.hid (F8u.out.belowW HB9.out)
            have F9lo := Lib.hid (F8lo.out.belowW HB9.out)
            have HL9 := Lib.hid (HL8.out.trans (HB9.out.mono HL8.out.size))
            have F9v := Lib.hid (HV.out)
            clear pxb0 fxb0 pxb1 fxb1 pxb2 fxb2 pxb3 fxb3
            go_upto_region 23 with (fail)
            obtain ⟨w10, hw⟩ : ∃ z9 : World, z9 = w9.alloc (.cells #[.bool hi.neg, .slice V v vc, .int .i64 hi.e] 25) := ⟨_, rfl⟩
            have HB10 := Lib.hid (show Below w9.heap.size w9 w10 by rw [hw]; exact below_a1 _ _)
            have F10hi := Lib.hid (show Blk w10 w9.heap.size 25 #[.bool hi.neg, .slice V v vc, .int .i64 hi.e] by rw [hw]; exact Blk.new _ _ _)
            rw [← hw]
            clear hw
            have F10t := Lib.hid (F9t.out.belowW HB10.out)
            have F10r := Lib.hid (F9r.out.belowW HB10.out)
            have F10a := Lib.hid (F9a.out.belowW HB10.out)
            have F10xa := Lib.hid (F9xa.out.belowW HB10.out)
            have F10b := Lib.hid (F9b.out.belowW HB10.out)
            have F10xb := Lib.hid (F9xb.out.belowW HB10.out)
            have F10u := Lib.hid (F9u.out.belowW HB10.out)
            have F10lo := Lib.hid (F9lo.out.belowW HB10.out)
            have F10v := Lib.hid (F9v.out.belowW HB10.out)
            have HL10 := Lib.hid (HL9.out.trans (HB10.out.mono HL9.out.size))
            obtain ⟨pr0, fr0, pr1, fr1, pr2, fr2, pr3, fr3, pr4, fr4, pr5, fr5, pr6, fr6⟩ := F10r.out.all7
            obtain ⟨plo0, flo0, plo1, flo1, plo2, flo2⟩ := F10lo.out.all3
            obtain ⟨phi0, fhi0, phi1, fhi1, phi2, fhi2⟩ := F10hi.out.all3
            by_cases he1 : el = 0
            case neg =>
              have HE := Lib.hid (show parR s.data.toList p = ((zD, zD, false), 9) by rw [HQ3.out, if_pos (.inl he1)])
              have d5 : (el != 0) = true := by simpa using he1
              go_wp2_with fail
              try rw [store7_put F10r.out, F10r.out.put_self]
              refine bodyPost_ret (v := .tuple #[.agg #[.bool false, .slice none 0 0, .int .i64 0, .bool false, .slice none 0 0, .int .i64 0, .bool false], .int .i64 9]) (by simp [results, Tryz.results10, go_sem, pr0, pr1, pr2, pr3, pr4, pr5, pr6]) rfl ?_
              exact ive_no HE.out rfl HL10.out
            subst he1
            by_cases he2 : eh = 0
            case neg =>
              have HE := Lib.hid (show parR s.data.toList p = ((zD, zD, false), 9) by rw [HQ3.out, if_pos (.inr he2)])
              have d5 : (eh != 0) = true := by simpa using he2
              go_wp2_with fail
              try rw [store7_put F10r.out, F10r.out.put_self]
              refine bodyPost_ret (v := .tuple #[.agg #[.bool false, .slice none 0 0, .int .i64 0, .bool false, .slice none 0 0, .int .i64 0, .bool false], .int .i64 9]) (by simp [results, Tryz.results10, go_sem, pr0, pr1, pr2, pr3, pr4, pr5, pr6]) rfl ?_
              exact ive_no HE.out rfl HL10.out
            subst he2
            have HE := Lib.hid (show parR s.data.toList p = ((lo, hi, false), 0) by rw [HQ3.out, if_neg (by simp)])
            go_wp2_with fail
            rw [store7_put F10r.out]
            have FR9 := Lib.hid (F10r.out.put #[.bool lo.neg, .slice U u uc, .int .i64 lo.e, .bool hi.neg, .slice V v vc, .int .i64 hi.e, .bool false])
            have HL9 := Lib.hid (HL10.out.trans (putB_below w10 _ 27 #[.bool lo.neg, .slice U u uc, .int .i64 lo.e, .bool hi.neg, .slice V v vc, .int .i64 hi.e, .bool false] (Nat.le_refl _)))
            have S90 := Lib.hid (F10u.out.far F10r.out noU7 (putB_grown w10 w.heap.size 27 #[.bool lo.neg, .slice U u uc, .int .i64 lo.e, .bool hi.neg, .slice V v vc, .int .i64 hi.e, .bool false]))
            have S91 := Lib.hid (F10v.out.far F10r.out noU7 (putB_grown w10 w.heap.size 27 #[.bool lo.neg, .slice U u uc, .int .i64 lo.e, .bool hi.neg, .slice V v vc, .int .i64 hi.e, .bool false]))
            clear pr0 fr0 pr1 fr1 pr2 fr2 pr3 fr3 pr4 fr4 pr5 fr5 pr6 fr6 plo0 flo0 plo1 flo1 plo2 flo2 phi0 fhi0 phi1 fhi1 phi2 fhi2
            obtain ⟨w9, hw⟩ : ∃ z9 : World, z9 = putB w10 w.heap.size 27 #[.bool lo.neg, .slice U u uc, .int .i64 lo.e, .bool hi.neg, .slice V v vc, .int .i64 hi.e, .bool false] := ⟨_, rfl⟩
            rw [← hw] at FR9 HL9 S90 S91 ⊢
            clear hw
            obtain ⟨pr0, fr0, pr1, fr1, pr2, fr2, pr3, fr3, pr4, fr4, pr5, fr5, pr6, fr6⟩ := FR9.out.all7
            refine bodyPost_ret (v := .tuple #[.agg #[.bool lo.neg, .slice U u uc, .int .i64 lo.e, .bool hi.neg, .slice V v vc, .int .i64 hi.e, .bool false], .int .i64 0]) (by simp [results, Tryz.results10, go_sem, pr0, pr1, pr2, pr3, pr4, pr5, pr6]) rfl ?_
            rw [HE.out]
            exact ⟨U, V, u, uc, v, vc, rfl, S90, S91, HL9⟩

set_option maxHeartbeats 8000000 in
theorem parse_brk (s : ByteArray) (p : Int) (w : World) (hs : s.size ≤ 3000) (hT : RB w) (hM : MXL w) (h0 : s.data.toList ≠ [97, 108, 108]) (h1 : Go.Lib.hasPrefix s.data.toList [91] = true) :
    Calls Tryz.prog 10 #[.string s, .int .i64 p] w (IvE (parR s.data.toList p) w) := by
  have HT := Lib.hid hT
  have HM := Lib.hid hM
  have HP1 := Lib.hid (show Go.Lib.hasPrefix s.data.toList (⟨#[91]⟩ : ByteArray).data.toList = true from h1)
  obtain ⟨u, hu⟩ : ∃ u, Go.Lib.trimSuffix (Go.Lib.trimPrefix s.data.toList [91]) [93] = u := ⟨_, rfl⟩
  obtain ⟨k1, hk1⟩ : ∃ k, Go.Lib.hasSuffix (Go.Lib.trimPrefix s.data.toList [91]) [93] = k := ⟨_, rfl⟩
  obtain ⟨k2, hk2⟩ : ∃ k, (Go.Lib.cut u [44, 32]).2.2 = k := ⟨_, rfl⟩
  obtain ⟨f, hf⟩ : ∃ f, (Go.Lib.cut u [44, 32]).1 = f := ⟨_, rfl⟩
  obtain ⟨g, hg⟩ : ∃ g, (Go.Lib.cut u [44, 32]).2.1 = g := ⟨_, rfl⟩
  have HF9 := Lib.hid hf
  have HG9 := Lib.hid hg
  have HK2 := Lib.hid hk2
  have HK1 := Lib.hid hk1
  have HU := Lib.hid hu
  have HR0 := Lib.hid (show parR s.data.toList p = match (if (k1 && k2) = true then some (f, g) else none : Option (List UInt8 × List UInt8)) with
      | none => ((zD, zD, false), 3)
      | some (a, b) => parT (rdN a) (rdN b) p by
    unfold parR
    rw [if_neg h0]
    unfold brkD
    rw [h1, if_pos rfl, hu, hk1, hk2, hf, hg])
  have h2 : s.data.toList.length ≤ 3000 := by rw [length_data]; exact hs
  have hlt : (Go.Lib.trimPrefix s.data.toList [91]).length ≤ 3000 := Nat.le_trans (tp_len _ _) h2
  have hul : u.length ≤ 3000 := by rw [← hu]; exact Nat.le_trans (ts_len _ _) hlt
  have hfl : f.length ≤ 3000 := by rw [← hf]; exact Nat.le_trans (cut_len _ _).1 hul
  have hgl : g.length ≤ 3000 := by rw [← hg]; exact Nat.le_trans (cut_len _ _).2 hul
  have n0 : (s.toList == [97, 108, 108]) = false := by rw [bl_data, beq_eq_false_iff_ne]; exact h0
  clear hT hM hf hg h0 h1 hu hk1 hk2
  go_enter Tryz.func10, Tryz.ntmps10
  go_wp2_with fail
  obtain ⟨w1, hw⟩ : ∃ z9 : World, z9 = (w.alloc (.cells #[.bool false, .slice none 0 0, .int .i64 0, .bool false, .slice none 0 0, .int .i64 0, .bool false] 27)) := ⟨_, rfl⟩
  have HB1 := Lib.hid (show Below w.heap.size w w1 by rw [hw]; exact below_a1 _ _)
  have F1t := Lib.hid (HT.out.belowW HB1.out)
  have F1mx := Lib.hid (HM.out.belowW HB1.out)
  have F1r := Lib.hid (show Blk w1 (w.heap.size) 27 #[.bool false, .slice none 0 0, .int .i64 0, .bool false, .slice none 0 0, .int .i64 0, .bool false] by rw [hw]; exact Blk.new _ _ _)
  rw [← hw]
  clear hw
  obtain ⟨pr0, fr0, pr1, fr1, pr2, fr2, pr3, fr3, pr4, fr4, pr5, fr5, pr6, fr6⟩ := F1r.out.all7
  go_wp2_with fail
  refine (Tryz.strings_CutPrefix s ⟨#[91]⟩ w1).mono ?_
  rintro e w' ⟨rfl, hw⟩
  obtain rfl := hw.symm
  clear hw
  obtain ⟨R, hR⟩ : ∃ R : ByteArray, R = ⟨(Go.Lib.trimPrefix s.data.toList (⟨#[91]⟩ : ByteArray).data.toList).toArray⟩ := ⟨_, rfl⟩
  have HRL := Lib.hid (show R.data.toList = Go.Lib.trimPrefix s.data.toList [91] by rw [hR])
  rw [← hR, HP1.out]
  clear hR
  have hRs : R.size ≤ 9223372036854775807 := by rw [← length_data, HRL.out]; omega
  go_wp2_with fail
  refine (Tryz.strings_CutSuffix R ⟨#[93]⟩ w1 hRs).mono ?_
  rintro e w' ⟨rfl, hw⟩
  obtain rfl := hw.symm
  clear hw
  obtain ⟨T, hT⟩ : ∃ T : ByteArray, T = ⟨(Go.Lib.trimSuffix R.data.toList (⟨#[93]⟩ : ByteArray).data.toList).toArray⟩ := ⟨_, rfl⟩
  have HTL := Lib.hid (show T.data.toList = u by rw [hT, ← HU.out, HRL.out])
  rw [← hT, show Go.Lib.hasSuffix R.data.toList (⟨#[93]⟩ : ByteArray).data.toList = k1 by rw [HRL.out]; exact HK1.out]
  clear hT
  have hTs : T.size ≤ 3000 := by rw [← length_data, HTL.out]; exact hul
  go_wp2_with fail
  refine (cut2_any T u f g k2 w1 hTs F1mx.out HTL.out HF9.out HG9.out HK2.out).mono ?_
  rintro e w2 ⟨F, G, rfl, HF, HG, HB2⟩
  have F2t := Lib.hid (F1t.out.belowW HB2.out)
  have F2mx := Lib.hid (F1mx.out.belowW HB2.out)
  have F2r := Lib.hid (F1r.out.belowW HB2.out)
  have HL2 := Lib.hid (HB1.out.trans (HB2.out.mono HB1.out.size))
  have hF : F.size ≤ 3000 := by rw [← length_data, HF.out]; exact hfl
  have hG : G.size ≤ 3000 := by rw [← length_data, HG.out]; exact hgl
  cases k1 with
  | false =>
    have HE := Lib.hid (show parR s.data.toList p = ((zD, zD, false), 3) by rw [HR0.out]; rfl)
    clear pr0 fr0 pr1 fr1 pr2 fr2 pr3 fr3 pr4 fr4 pr5 fr5 pr6 fr6
    obtain ⟨pr0, fr0, pr1, fr1, pr2, fr2, pr3, fr3, pr4, fr4, pr5, fr5, pr6, fr6⟩ := F2r.out.all7
    go_wp2_with fail
    try rw [store7_put F2r.out, F2r.out.put_self]
    refine bodyPost_ret (v := .tuple #[.agg #[.bool false, .slice none 0 0, .int .i64 0, .bool false, .slice none 0 0, .int .i64 0, .bool false], .int .i64 3]) (by simp [results, Tryz.results10, go_sem, pr0, pr1, pr2, pr3, pr4, pr5, pr6]) rfl ?_
    exact ive_no HE.out rfl HL2.out
  | true =>
    cases k2 with
    | false =>
      have HE := Lib.hid (show parR s.data.toList p = ((zD, zD, false), 3) by rw [HR0.out]; rfl)
      clear pr0 fr0 pr1 fr1 pr2 fr2 pr3 fr3 pr4 fr4 pr5 fr5 pr6 fr6
      obtain ⟨pr0, fr0, pr1, fr1, pr2, fr2, pr3, fr3, pr4, fr4, pr5, fr5, pr6, fr6⟩ := F2r.out.all7
      go_wp2_with fail
      try rw [store7_put F2r.out, F2r.out.put_self]
      refine bodyPost_ret (v := .tuple #[.agg #[.bool false, .slice none 0 0, .int .i64 0, .bool false, .slice none 0 0, .int .i64 0, .bool false], .int .i64 3]) (by simp [results, Tryz.results10, go_sem, pr0, pr1, pr2, pr3, pr4, pr5, pr6]) rfl ?_
      exact ive_no HE.out rfl HL2.out
    | true =>
      have HR := Lib.hid (show parR s.data.toList p = parT (rdN f) (rdN g) p from HR0.out)
      clear pr0 fr0 pr1 fr1 pr2 fr2 pr3 fr3 pr4 fr4 pr5 fr5 pr6 fr6
      go_wp2_with fail
      obtain ⟨⟨da, oka⟩, hra⟩ : ∃ r : DN × Bool, rdN f = r := ⟨_, rfl⟩
      obtain ⟨⟨db, okb⟩, hrb⟩ : ∃ r : DN × Bool, rdN g = r := ⟨_, rfl⟩
      have RA := Lib.hid hra
      have RBd := Lib.hid hrb
      obtain ⟨bva, bba, bna⟩ := rdN_bd hra
      obtain ⟨bvb, bbb, bnb⟩ := rdN_bd hrb
      have BNA := Lib.hid bna
      have BNB := Lib.hid bnb
      have BBA := Lib.hid bba
      have BBB := Lib.hid bbb
      have HQ := Lib.hid (show parR s.data.toList p = parT (da, oka) (db, okb) p by rw [HR.out, hra, hrb])
      clear hra hrb bna bnb bba bbb
      refine (read_at F f da oka w2 HF.out RA.out hF F2t.out).mono ?_
      rintro e w3 ⟨A, n, nc, rfl, HA, HB3⟩
      have F3t := Lib.hid (F2t.out.belowW HB3.out)
      have F3mx := Lib.hid (F2mx.out.belowW HB3.out)
      have F3r := Lib.hid (F2r.out.belowW HB3.out)
      have HL3 := Lib.hid (HL2.out.trans (HB3.out.mono HL2.out.size))
      have F3a := Lib.hid (HA.out)
      go_upto_region 14 with (fail)
      obtain ⟨w4, hw⟩ : ∃ z9 : World, z9 = w3.alloc (.cells #[.bool da.neg, .slice A n nc, .int .i64 (da.b : Int), .int .i64 (da.t : Int)] 56) := ⟨_, rfl⟩
      have HB4 := Lib.hid (show Below w3.heap.size w3 w4 by rw [hw]; exact below_a1 _ _)
      have F4xa := Lib.hid (show Blk w4 w3.heap.size 56 #[.bool da.neg, .slice A n nc, .int .i64 (da.b : Int), .int .i64 (da.t : Int)] by rw [hw]; exact Blk.new _ _ _)
      rw [← hw]
      clear hw
      have F4t := Lib.hid (F3t.out.belowW HB4.out)
      have F4mx := Lib.hid (F3mx.out.belowW HB4.out)
      have F4r := Lib.hid (F3r.out.belowW HB4.out)
      have F4a := Lib.hid (F3a.out.belowW HB4.out)
      have HL4 := Lib.hid (HL3.out.trans (HB4.out.mono HL3.out.size))
      go_wp2_with fail
      refine (read_at G g db okb w4 HG.out RBd.out hG F4t.out).mono ?_
      rintro e w5 ⟨B, m, mc, rfl, HYb, HB5⟩
      have F5t := Lib.hid (F4t.out.belowW HB5.out)
      have F5mx := Lib.hid (F4mx.out.belowW HB5.out)
      have F5r := Lib.hid (F4r.out.belowW HB5.out)
      have F5a := Lib.hid (F4a.out.belowW HB5.out)
      have F5xa := Lib.hid (F4xa.out.belowW HB5.out)
      have HL5 := Lib.hid (HL4.out.trans (HB5.out.mono HL4.out.size))
      have F5b := Lib.hid (HYb.out)
      go_upto_region 15 with (fail)
      obtain ⟨w6, hw⟩ : ∃ z9 : World, z9 = w5.alloc (.cells #[.bool db.neg, .slice B m mc, .int .i64 (db.b : Int), .int .i64 (db.t : Int)] 56) := ⟨_, rfl⟩
      have HB6 := Lib.hid (show Below w5.heap.size w5 w6 by rw [hw]; exact below_a1 _ _)
      have F6xb := Lib.hid (show Blk w6 w5.heap.size 56 #[.bool db.neg, .slice B m mc, .int .i64 (db.b : Int), .int .i64 (db.t : Int)] by rw [hw]; exact Blk.new _ _ _)
      rw [← hw]
      clear hw
      have F6t := Lib.hid (F5t.out.belowW HB6.out)
      have F6mx := Lib.hid (F5mx.out.belowW HB6.out)
      have F6r := Lib.hid (F5r.out.belowW HB6.out)
      have F6a := Lib.hid (F5a.out.belowW HB6.out)
      have F6xa := Lib.hid (F5xa.out.belowW HB6.out)
      have F6b := Lib.hid (F5b.out.belowW HB6.out)
      have HL6 := Lib.hid (HL5.out.trans (HB6.out.mono HL5.out.size))
      cases oka with
      | false =>
        have HE := Lib.hid (show parR s.data.toList p = ((zD, zD, false), 3) by rw [HQ.out]; rfl)
        obtain ⟨pr0, fr0, pr1, fr1, pr2, fr2, pr3, fr3, pr4, fr4, pr5, fr5, pr6, fr6⟩ := F6r.out.all7
        go_wp2_with fail
        try rw [store7_put F6r.out, F6r.out.put_self]
        refine bodyPost_ret (v := .tuple #[.agg #[.bool false, .slice none 0 0, .int .i64 0, .bool false, .slice none 0 0, .int .i64 0, .bool false], .int .i64 3]) (by simp [results, Tryz.results10, go_sem, pr0, pr1, pr2, pr3, pr4, pr5, pr6]) rfl ?_
        exact ive_no HE.out rfl HL6.out
      | true =>
        cases okb with
        | false =>
          have HE := Lib.hid (show parR s.data.toList p = ((zD, zD, false), 3) by rw [HQ.out]; rfl)
          obtain ⟨pr0, fr0, pr1, fr1, pr2, fr2, pr3, fr3, pr4, fr4, pr5, fr5, pr6, fr6⟩ := F6r.out.all7
          go_wp2_with fail
          try rw [store7_put F6r.out, F6r.out.put_self]
          refine bodyPost_ret (v := .tuple #[.agg #[.bool false, .slice none 0 0, .int .i64 0, .bool false, .slice none 0 0, .int .i64 0, .bool false], .int .i64 3]) (by simp [results, Tryz.results10, go_sem, pr0, pr1, pr2, pr3, pr4, pr5, pr6]) rfl ?_
          exact ive_no HE.out rfl HL6.out
        | true =>
          obtain ⟨pr0, fr0, pr1, fr1, pr2, fr2, pr3, fr3, pr4, fr4, pr5, fr5, pr6, fr6⟩ := F6r.out.all7
          obtain ⟨pxa0, fxa0, pxa1, fxa1, pxa2, fxa2, pxa3, fxa3⟩ := F6xa.out.all4
          obtain ⟨pxb0, fxb0, pxb1, fxb1, pxb2, fxb2, pxb3, fxb3⟩ := F6xb.out.all4
          by_cases ht : 256 < da.t ∨ 256 < db.t
          case pos =>
            have HE := Lib.hid (show parR s.data.toList p = ((zD, zD, false), 5) from HQ.out.trans (parT_full ht))
            by_cases h1 : 256 < da.t
            case pos =>
              have d1 : decide ((256 : Int) < (da.t : Int)) = true := decide_eq_true (by omega)
              have d1' : decide (256 < da.t) = true := decide_eq_true h1
              go_wp2_with fail
              try rw [store7_put F6r.out, F6r.out.put_self]
              refine bodyPost_ret (v := .tuple #[.agg #[.bool false, .slice none 0 0, .int .i64 0, .bool false, .slice none 0 0, .int .i64 0, .bool false], .int .i64 5]) (by simp [results, Tryz.results10, go_sem, pr0, pr1, pr2, pr3, pr4, pr5, pr6]) rfl ?_
              exact ive_no HE.out rfl HL6.out
            case neg =>
              have d1 : decide ((256 : Int) < (da.t : Int)) = false := decide_eq_false (by omega)
              have d1' : decide (256 < da.t) = false := decide_eq_false h1
              have d2 : decide ((256 : Int) < (db.t : Int)) = true := decide_eq_true (by omega)
              have d2' : decide (256 < db.t) = true := decide_eq_true (by omega)
              go_wp2_with fail
              try rw [store7_put F6r.out, F6r.out.put_self]
              refine bodyPost_ret (v := .tuple #[.agg #[.bool false, .slice none 0 0, .int .i64 0, .bool false, .slice none 0 0, .int .i64 0, .bool false], .int .i64 5]) (by simp [results, Tryz.results10, go_sem, pr0, pr1, pr2, pr3, pr4, pr5, pr6]) rfl ?_
              exact ive_no HE.out rfl HL6.out
          case neg =>
            have t1 : da.t ≤ 256 := by omega
            have t2 : db.t ≤ 256 := by omega
            have d1 : decide ((256 : Int) < (da.t : Int)) = false := decide_eq_false (by omega)
            have d1' : decide (256 < da.t) = false := decide_eq_false (by omega)
            have d2 : decide ((256 : Int) < (db.t : Int)) = false := decide_eq_false (by omega)
            have d2' : decide (256 < db.t) = false := decide_eq_false (by omega)
            have HTT := Lib.hid ht
            clear ht
            by_cases hp : p < 8 ∨ 512 < p
            case pos =>
              have HE := Lib.hid (show parR s.data.toList p = ((zD, zD, false), 2) from HQ.out.trans (parT_range HTT.out hp))
              by_cases h1 : p < 8
              case pos =>
                have d3 : decide (p < 8) = true := decide_eq_true h1
                go_wp2_with fail
                try rw [store7_put F6r.out, F6r.out.put_self]
                refine bodyPost_ret (v := .tuple #[.agg #[.bool false, .slice none 0 0, .int .i64 0, .bool false, .slice none 0 0, .int .i64 0, .bool false], .int .i64 2]) (by simp [results, Tryz.results10, go_sem, pr0, pr1, pr2, pr3, pr4, pr5, pr6]) rfl ?_
                exact ive_no HE.out rfl HL6.out
              case neg =>
                have d3 : decide (p < 8) = false := decide_eq_false h1
                have d4 : decide (512 < p) = true := decide_eq_true (by omega)
                go_wp2_with fail
                try rw [store7_put F6r.out, F6r.out.put_self]
                refine bodyPost_ret (v := .tuple #[.agg #[.bool false, .slice none 0 0, .int .i64 0, .bool false, .slice none 0 0, .int .i64 0, .bool false], .int .i64 2]) (by simp [results, Tryz.results10, go_sem, pr0, pr1, pr2, pr3, pr4, pr5, pr6]) rfl ?_
                exact ive_no HE.out rfl HL6.out
            case neg =>
              have d3 : decide (p < 8) = false := decide_eq_false (by omega)
              have d4 : decide (512 < p) = false := decide_eq_false (by omega)
              have pb1 : 8 ≤ p := by omega
              have pb2 : p ≤ 512 := by omega
              obtain ⟨ab, hab⟩ : ∃ b, abvB da.neg da.v da.b db.neg db.v db.b = b := ⟨_, rfl⟩
              have HAB := Lib.hid hab
              have HPP := Lib.hid hp
              have ha256 := BBA.out t1
              have hb256 := BBB.out t2
              clear hp hab
              go_wp2_with fail
              refine (above_any da.neg db.neg A B n nc m mc da.v db.v da.b db.b (da.t : Int) (db.t : Int) w6 F6a.out F6b.out bva bvb ha256 hb256).mono ?_
              rw [HAB.out]
              rintro e w7 ⟨rfl, HB7⟩
              have F7t := Lib.hid (F6t.out.belowW HB7.out)
              have F7mx := Lib.hid (F6mx.out.belowW HB7.out)
              have F7r := Lib.hid (F6r.out.belowW HB7.out)
              have F7a := Lib.hid (F6a.out.belowW HB7.out)
              have F7xa := Lib.hid (F6xa.out.belowW HB7.out)
              have F7b := Lib.hid (F6b.out.belowW HB7.out)
              have F7xb := Lib.hid (F6xb.out.belowW HB7.out)
              have HL7 := Lib.hid (HL6.out.trans (HB7.out.mono HL6.out.size))
              clear pr0 fr0 pr1 fr1 pr2 fr2 pr3 fr3 pr4 fr4 pr5 fr5 pr6 fr6 pxa0 fxa0 pxa1 fxa1 pxa2 fxa2 pxa3 fxa3 pxb0 fxb0 pxb1 fxb1 pxb2 fxb2 pxb3 fxb3
              obtain ⟨pr0, fr0, pr1, fr1, pr2, fr2, pr3, fr3, pr4, fr4, pr5, fr5, pr6, fr6⟩ := F7r.out.all7
              obtain ⟨pxa0, fxa0, pxa1, fxa1, pxa2, fxa2, pxa3, fxa3⟩ := F7xa.out.all4
              obtain ⟨pxb0, fxb0, pxb1, fxb1, pxb2, fxb2, pxb3, fxb3⟩ := F7xb.out.all4
              cases ab with
              | true =>
                have HE := Lib.hid (show parR s.data.toList p = ((zD, zD, false), 2) from HQ.out.trans (parT_above HTT.out HAB.out))
                go_wp2_with fail
                try rw [store7_put F7r.out, F7r.out.put_self]
                refine bodyPost_ret (v := .tuple #[.agg #[.bool false, .slice none 0 0, .int .i64 0, .bool false, .slice none 0 0, .int .i64 0, .bool false], .int .i64 2]) (by simp [results, Tryz.results10, go_sem, pr0, pr1, pr2, pr3, pr4, pr5, pr6]) rfl ?_
                exact ive_no HE.out rfl HL7.out
              | false =>
                obtain ⟨lo, el, hlo⟩ : ∃ x e, divE (canon da.neg da.v 0) (canon false (10 ^ da.b) 0) p false = (x, e) := ⟨_, _, rfl⟩
                obtain ⟨hi, eh, hhi⟩ : ∃ x e, divE (canon db.neg db.v 0) (canon false (10 ^ db.b) 0) p true = (x, e) := ⟨_, _, rfl⟩
                have HLO := Lib.hid hlo
                have HHI := Lib.hid hhi
                have HQ3 := Lib.hid (show parR s.data.toList p = if el ≠ 0 ∨ eh ≠ 0 then ((zD, zD, false), 9) else ((lo, hi, false), 0) from HQ.out.trans (parT_end HTT.out HPP.out HAB.out hlo hhi))
                clear hlo hhi
                go_wp2_with fail
                refine (rounded_any da.neg A n nc da.v da.b (da.t : Int) p false w7 F7a.out bva ha256 F7t.out).mono ?_
                rw [HLO.out]
                rintro e w8 ⟨U, u, uc, rfl, HU, HB8⟩
                have F8t := Lib.hid (F7t.out.belowW HB8.out)
                have F8mx := Lib.hid (F7mx.out.belowW HB8.out)
                have F8r := Lib.hid (F7r.out.belowW HB8.out)
                have F8a := Lib.hid (F7a.out.belowW HB8.out)
                have F8xa := Lib.hid (F7xa.out.belowW HB8.out)
                have F8b := Lib.hid (F7b.out.belowW HB8.out)
                have F8xb := Lib.hid (F7xb.out.belowW HB8.out)
                have HL8 := Lib.hid (HL7.out.trans (HB8.out.mono HL7.out.size))
                have F8u := Lib.hid (HU.out)
                clear pr0 fr0 pr1 fr1 pr2 fr2 pr3 fr3 pr4 fr4 pr5 fr5 pr6 fr6 pxa0 fxa0 pxa1 fxa1 pxa2 fxa2 pxa3 fxa3 pxb0 fxb0 pxb1 fxb1 pxb2 fxb2 pxb3 fxb3
                go_upto_region 22 with (fail)
                obtain ⟨w9, hw⟩ : ∃ z9 : World, z9 = w8.alloc (.cells #[.bool lo.neg, .slice U u uc, .int .i64 lo.e] 25) := ⟨_, rfl⟩
                have HB9 := Lib.hid (show Below w8.heap.size w8 w9 by rw [hw]; exact below_a1 _ _)
                have F9lo := Lib.hid (show Blk w9 w8.heap.size 25 #[.bool lo.neg, .slice U u uc, .int .i64 lo.e] by rw [hw]; exact Blk.new _ _ _)
                rw [← hw]
                clear hw
                have F9t := Lib.hid (F8t.out.belowW HB9.out)
                have F9mx := Lib.hid (F8mx.out.belowW HB9.out)
                have F9r := Lib.hid (F8r.out.belowW HB9.out)
                have F9a := Lib.hid (F8a.out.belowW HB9.out)
                have F9xa := Lib.hid (F8xa.out.belowW HB9.out)
                have F9b := Lib.hid (F8b.out.belowW HB9.out)
                have F9xb := Lib.hid (F8xb.out.belowW HB9.out)
                have F9u := Lib.hid (F8u.out.belowW HB9.out)
                have HL9 := Lib.hid (HL8.out.trans (HB9.out.mono HL8.out.size))
                obtain ⟨pxb0, fxb0, pxb1, fxb1, pxb2, fxb2, pxb3, fxb3⟩ := F9xb.out.all4
                go_wp2_with fail
                refine (rounded_any db.neg B m mc db.v db.b (db.t : Int) p true w9 F9b.out bvb hb256 F9t.out).mono ?_
                rw [HHI.out]
                rintro e w10 ⟨V, v, vc, rfl, HV, HB10⟩
                have F10t := Lib.hid (F9t.out.belowW HB10.out)
                have F10mx := Lib.hid (F9mx.out.belowW HB10.out)
                have F10r := Lib.hid (F9r.out.belowW HB10.out)
                have F10a := Lib.hid (F9a.out.belowW HB10.out)
                have F10xa := Lib.hid (F9xa.out.belowW HB10.out)
                have F10b := Lib.hid (F9b.out.belowW HB10.out)
                have F10xb := Lib.hid (F9xb.out.belowW HB10.out)
                have F10u := Lib.hid (F9u.out.belowW HB10.out)
                have F10lo := Lib.hid (F9lo.out.belowW HB10.out)
                have HL10 := Lib.hid (HL9.out.trans (HB10.out.mono HL9.out.size))
                have F10v := Lib.hid (HV.out)
                clear pxb0 fxb0 pxb1 fxb1 pxb2 fxb2 pxb3 fxb3
                go_upto_region 23 with (fail)
                obtain ⟨w11, hw⟩ : ∃ z9 : World, z9 = w10.alloc (.cells #[.bool hi.neg, .slice V v vc, .int .i64 hi.e] 25) := ⟨_, rfl⟩
                have HB11 := Lib.hid (show Below w10.heap.size w10 w11 by rw [hw]; exact below_a1 _ _)
                have F11hi := Lib.hid (show Blk w11 w10.heap.size 25 #[.bool hi.neg, .slice V v vc, .int .i64 hi.e] by rw [hw]; exact Blk.new _ _ _)
                rw [← hw]
                clear hw
                have F11t := Lib.hid (F10t.out.belowW HB11.out)
                have F11mx := Lib.hid (F10mx.out.belowW HB11.out)
                have F11r := Lib.hid (F10r.out.belowW HB11.out)
                have F11a := Lib.hid (F10a.out.belowW HB11.out)
                have F11xa := Lib.hid (F10xa.out.belowW HB11.out)
                have F11b := Lib.hid (F10b.out.belowW HB11.out)
                have F11xb := Lib.hid (F10xb.out.belowW HB11.out)
                have F11u := Lib.hid (F10u.out.belowW HB11.out)
                have F11lo := Lib.hid (F10lo.out.belowW HB11.out)
                have F11v := Lib.hid (F10v.out.belowW HB11.out)
                have HL11 := Lib.hid (HL10.out.trans (HB11.out.mono HL10.out.size))
                obtain ⟨pr0, fr0, pr1, fr1, pr2, fr2, pr3, fr3, pr4, fr4, pr5, fr5, pr6, fr6⟩ := F11r.out.all7
                obtain ⟨plo0, flo0, plo1, flo1, plo2, flo2⟩ := F11lo.out.all3
                obtain ⟨phi0, fhi0, phi1, fhi1, phi2, fhi2⟩ := F11hi.out.all3
                by_cases he1 : el = 0
                case neg =>
                  have HE := Lib.hid (show parR s.data.toList p = ((zD, zD, false), 9) by rw [HQ3.out, if_pos (.inl he1)])
                  have d5 : (el != 0) = true := by simpa using he1
                  go_wp2_with fail
                  try rw [store7_put F11r.out, F11r.out.put_self]
                  refine bodyPost_ret (v := .tuple #[.agg #[.bool false, .slice none 0 0, .int .i64 0, .bool false, .slice none 0 0, .int .i64 0, .bool false], .int .i64 9]) (by simp [results, Tryz.results10, go_sem, pr0, pr1, pr2, pr3, pr4, pr5, pr6]) rfl ?_
                  exact ive_no HE.out rfl HL11.out
                subst he1
                by_cases he2 : eh = 0
                case neg =>
                  have HE := Lib.hid (show parR s.data.toList p = ((zD, zD, false), 9) by rw [HQ3.out, if_pos (.inr he2)])
                  have d5 : (eh != 0) = true := by simpa using he2
                  go_wp2_with fail
                  try rw [store7_put F11r.out, F11r.out.put_self]
                  refine bodyPost_ret (v := .tuple #[.agg #[.bool false, .slice none 0 0, .int .i64 0, .bool false, .slice none 0 0, .int .i64 0, .bool false], .int .i64 9]) (by simp [results, Tryz.results10, go_sem, pr0, pr1, pr2, pr3, pr4, pr5, pr6]) rfl ?_
                  exact ive_no HE.out rfl HL11.out
                subst he2
                have HE := Lib.hid (show parR s.data.toList p = ((lo, hi, false), 0) by rw [HQ3.out, if_neg (by simp)])
                go_wp2_with fail
                rw [store7_put F11r.out]
                have FR9 := Lib.hid (F11r.out.put #[.bool lo.neg, .slice U u uc, .int .i64 lo.e, .bool hi.neg, .slice V v vc, .int .i64 hi.e, .bool false])
                have HL9 := Lib.hid (HL11.out.trans (putB_below w11 _ 27 #[.bool lo.neg, .slice U u uc, .int .i64 lo.e, .bool hi.neg, .slice V v vc, .int .i64 hi.e, .bool false] (Nat.le_refl _)))
                have S90 := Lib.hid (F11u.out.far F11r.out noU7 (putB_grown w11 w.heap.size 27 #[.bool lo.neg, .slice U u uc, .int .i64 lo.e, .bool hi.neg, .slice V v vc, .int .i64 hi.e, .bool false]))
                have S91 := Lib.hid (F11v.out.far F11r.out noU7 (putB_grown w11 w.heap.size 27 #[.bool lo.neg, .slice U u uc, .int .i64 lo.e, .bool hi.neg, .slice V v vc, .int .i64 hi.e, .bool false]))
                clear pr0 fr0 pr1 fr1 pr2 fr2 pr3 fr3 pr4 fr4 pr5 fr5 pr6 fr6 plo0 flo0 plo1 flo1 plo2 flo2 phi0 fhi0 phi1 fhi1 phi2 fhi2
                obtain ⟨w9, hw⟩ : ∃ z9 : World, z9 = putB w11 w.heap.size 27 #[.bool lo.neg, .slice U u uc, .int .i64 lo.e, .bool hi.neg, .slice V v vc, .int .i64 hi.e, .bool false] := ⟨_, rfl⟩
                rw [← hw] at FR9 HL9 S90 S91 ⊢
                clear hw
                obtain ⟨pr0, fr0, pr1, fr1, pr2, fr2, pr3, fr3, pr4, fr4, pr5, fr5, pr6, fr6⟩ := FR9.out.all7
                refine bodyPost_ret (v := .tuple #[.agg #[.bool lo.neg, .slice U u uc, .int .i64 lo.e, .bool hi.neg, .slice V v vc, .int .i64 hi.e, .bool false], .int .i64 0]) (by simp [results, Tryz.results10, go_sem, pr0, pr1, pr2, pr3, pr4, pr5, pr6]) rfl ?_
                rw [HE.out]
                exact ⟨U, V, u, uc, v, vc, rfl, S90, S91, HL9⟩
theorem parse_at (s : ByteArray) (p : Int) (w : World) (hs : s.size ≤ 3000) (hT : RB w) (hM : MXL w) : Calls Tryz.prog 10 #[.string s, .int .i64 p] w (IvE (parR s.data.toList p) w) := by
  by_cases h0 : s.data.toList = [97, 108, 108]
  · have e : s = ⟨#[97, 108, 108]⟩ := ba_list h0
    subst e
    exact parse_all p w
  · cases h1 : Go.Lib.hasPrefix s.data.toList [91] with
    | false => exact parse_plain s p w hs hT hM h0 h1
    | true => exact parse_brk s p w hs hT hM h0 h1
end Go.Proofs.YtffdkakogeofmaaGreatDoor
