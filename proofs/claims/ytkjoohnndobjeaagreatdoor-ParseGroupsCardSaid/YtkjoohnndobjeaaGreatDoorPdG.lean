/-
  The walk of ParseGroups.
-/
import Derived.Test.YtkjoohnndobjeaaGreatDoorPdA
import Derived.Test.YtkjoohnndobjeaaGreatDoorPdD
import Derived.Test.YtkjoohnndobjeaaGreatDoorPdE
import Derived.Test.YtkjoohnndobjeaaGreatDoorPdF
import Derived.Test.YtkjoohnndobjeaaGreatDoorQY
import Derived.Test.YtkjoohnndobjeaaGreatDoorQZ
import Derived.Test.YtkjoohnndobjeaaGreatDoorTkD
set_option linter.unusedVariables false
namespace Go.Proofs.YtkjoohnndobjeaaGreatDoor
open Go.RowKit Go.Lib Go.Fl Go.Fl.Lx Go.Fl.Nm Go.Fl.Fm Go.Fl.Rt Go.Fl.Pa
open List (setIfInBounds_toArray set_cons_zero set_cons_succ getElem_toArray getElem_cons_zero getElem_cons_succ)
theorem no35g {a b : ByteArray} (h : decide (0 ≤ Lib.indexByte (a ++ b).data.toList 35) = false) : (35 : UInt8) ∉ a.data.toList ∧ (35 : UInt8) ∉ b.data.toList := by
  rw [decide_eq_false_iff_not, indexByte_nonneg] at h
  simp only [ByteArray.data_append, Array.toList_append, List.mem_append, not_or] at h
  exact h
theorem lszg (x : ByteArray) : x.data.toList.length = x.size := by simp
theorem in_blk1 {w : World} {g : Nat} {t : TypeId} (k m : Int) {a : TE} {x : Nd} (hb : Blk w g t x.cells.toArray) (hk : -1000 ≤ k ∧ k ≤ 1000) (hm : -1000 ≤ m ∧ m ≤ 1000) (ha : InE w a x) :
    InE w (.mk ⟨k, 0, 0, ⟨#[]⟩, m⟩ [a]) ⟨⟨k, 0, 0, ⟨#[]⟩, m⟩, some ⟨g, 0, none⟩, 1, 1⟩ :=
  .mk _ [a] _ 1 1 [x] (hd_mk k 0 0 m _ hk d0 d0 hm z0) rfl (Nat.le_refl _) (by decide) rfl
    (by
      refine ⟨rfl, fun _ => ⟨g, 0, rfl, hb.lt, fun j u hu => ?_⟩⟩
      have h := hb.cell j
      rw [Nat.zero_add, h, List.getElem?_toArray]
      have e : ndsCells [x] = x.cells := by show x.cells ++ [] = _; rw [List.append_nil]
      rw [e] at hu
      exact hu)
    (fun i T v h1 h2 => by
      match i with
      | 0 => injection h1 with h1; injection h2 with h2; subst h1 h2; exact ha
      | i + 1 => cases h1)
/-- The elements of the law's list. -/
def gCells (x : ByteArray × TE × Nd) : List Value := .string x.1 :: x.2.2.cells
theorem gl_cell : ∀ (l : List (ByteArray × TE × Nd)) (j : Nat) (x : ByteArray × TE × Nd), l[j]? = some x → ∀ i, i < 7 → (l.flatMap gCells)[j * 7 + i]? = (gCells x)[i]? := by
  intro l
  induction l with
  | nil => intro j x h; cases h
  | cons y l ih =>
    intro j x h i hi
    rw [List.flatMap_cons]
    cases j with
    | zero =>
      injection h with h
      subst h
      rw [Nat.zero_mul, Nat.zero_add, List.getElem?_append_left (by show i < 7; exact hi)]
    | succ j =>
      rw [List.getElem?_append_right (by show 7 ≤ _; omega), show (j + 1) * 7 + i - (gCells y).length = j * 7 + i by show (j + 1) * 7 + i - 7 = _; omega]
      exact ih j x h i hi
theorem all12 {α : Type} {P : α → Prop} {x0 x1 x2 x3 x4 x5 x6 x7 x8 x9 x10 x11 : α} (h0 : P x0) (h1 : P x1) (h2 : P x2) (h3 : P x3) (h4 : P x4) (h5 : P x5) (h6 : P x6) (h7 : P x7) (h8 : P x8) (h9 : P x9) (h10 : P x10) (h11 : P x11) :
    ∀ j : Nat, j < 12 → ∃ x, [x0, x1, x2, x3, x4, x5, x6, x7, x8, x9, x10, x11][j]? = some x ∧ P x := by
  intro j hj
  match j with
  | 0 => exact ⟨_, rfl, h0⟩
  | 1 => exact ⟨_, rfl, h1⟩
  | 2 => exact ⟨_, rfl, h2⟩
  | 3 => exact ⟨_, rfl, h3⟩
  | 4 => exact ⟨_, rfl, h4⟩
  | 5 => exact ⟨_, rfl, h5⟩
  | 6 => exact ⟨_, rfl, h6⟩
  | 7 => exact ⟨_, rfl, h7⟩
  | 8 => exact ⟨_, rfl, h8⟩
  | 9 => exact ⟨_, rfl, h9⟩
  | 10 => exact ⟨_, rfl, h10⟩
  | 11 => exact ⟨_, rfl, h11⟩
  | j + 12 => omega
/-- What is known of an element: its text is read as its tree. -/
structure GEl (w : World) (x : ByteArray × TE × Nd) : Prop where
  s : x.1.size ≤ maxLen
  e : exprR x.1.data.toList = ((0, 0, 0), some x.2.1)
  i : InE w x.2.1 x.2.2

set_option maxHeartbeats 40000000 in
set_option maxRecDepth 100000 in
theorem parseGroups_any (a0 a1 : ByteArray) (w : World) (w0 : a0.size ≤ maxLen) (w1 : a1.size ≤ maxLen) (hR : RX w) (hX : FX w) : Calls Tryz.prog 4 #[.string a0, .string a1] w (RetB (.bool true) w) := by
  have HR := Lib.hid hR
  have HX := Lib.hid hX
  clear hR hX
  have HL0 := Lib.hid (Below.refl w.heap.size w)
  go_enter Tryz.func4, Tryz.ntmps4
  go_wp2_with fail
  refine (awake14_any w HR.out HX.out).mono ?_
  rintro e ww1 ⟨rfl, HB1⟩
  have Z1l := Lib.hid (HL0.out.trans (HB1.out.mono HL0.out.size))
  have Z1r := Lib.hid (HR.out.belowW HB1.out)
  have Z1x := Lib.hid (HX.out.belowW HB1.out)
  by_cases h0 : a0.size ≤ 300
  case neg =>
    have d0 : decide ((300 : Int) < (a0.size : Int)) = true := decide_eq_true (by omega)
    have e0 : decide (300 < a0.size) = true := decide_eq_true (by omega)
    go_wp2_with fail
    refine (awake14_any ww1 Z1r.out Z1x.out).mono ?_
    rintro e ww2 ⟨rfl, HB2⟩
    have Z2l := Lib.hid (Z1l.out.trans (HB2.out.mono Z1l.out.size))
    have Z2r := Lib.hid (Z1r.out.belowW HB2.out)
    have Z2x := Lib.hid (Z1x.out.belowW HB2.out)
    go_wp2_with fail
    go_ret
    exact ⟨rfl, Z2l⟩
  have d0 : decide ((300 : Int) < (a0.size : Int)) = false := decide_eq_false (by omega)
  have e0 : decide (300 < a0.size) = false := decide_eq_false (by omega)
  by_cases h1 : a1.size ≤ 300
  case neg =>
    have d1 : decide ((300 : Int) < (a1.size : Int)) = true := decide_eq_true (by omega)
    have e1 : decide (300 < a1.size) = true := decide_eq_true (by omega)
    go_wp2_with fail
    refine (awake14_any ww1 Z1r.out Z1x.out).mono ?_
    rintro e ww3 ⟨rfl, HB3⟩
    have Z3l := Lib.hid (Z1l.out.trans (HB3.out.mono Z1l.out.size))
    have Z3r := Lib.hid (Z1r.out.belowW HB3.out)
    have Z3x := Lib.hid (Z1x.out.belowW HB3.out)
    go_wp2_with fail
    go_ret
    exact ⟨rfl, Z3l⟩
  have d1 : decide ((300 : Int) < (a1.size : Int)) = false := decide_eq_false (by omega)
  have e1 : decide (300 < a1.size) = false := decide_eq_false (by omega)
  have cc : ¬ 9223372036854775807 < a0.size + a1.size := by omega
  go_wp2_with fail
  refine (Tryz.strings_Contains_one (a0 ++ a1) 35 _).mono ?_
  obtain ⟨c, hc⟩ : ∃ c, decide (0 ≤ Lib.indexByte (a0 ++ a1).data.toList 35) = c := ⟨_, rfl⟩
  rw [hc]
  rintro e w' ⟨rfl, hw'⟩
  rw [hw']
  clear hw'
  cases c with
  | true =>
    clear hc
    go_wp2_with fail
    refine (awake14_any ww1 Z1r.out Z1x.out).mono ?_
    rintro e ww4 ⟨rfl, HB4⟩
    have Z4l := Lib.hid (Z1l.out.trans (HB4.out.mono Z1l.out.size))
    have Z4r := Lib.hid (Z1r.out.belowW HB4.out)
    have Z4x := Lib.hid (Z1x.out.belowW HB4.out)
    go_wp2_with fail
    go_ret
    exact ⟨rfl, Z4l⟩
  | false =>
    obtain ⟨n0, n1⟩ := no35g hc
    have N0 := Lib.hid n0
    have N1 := Lib.hid n1
    clear hc n0 n1 d0 d1 e0 e1 cc
    have IV0 := Lib.hid (fun h => expr_inv (l := a0.data.toList) h)
    go_wp2_with fail
    refine (pExpr a0 ww1 w0 Z1r.out Z1x.out).mono ?_
    rintro e ww5 ⟨v0, rfl, HB5, HO0⟩
    have Z5l := Lib.hid (Z1l.out.trans (HB5.out.mono Z1l.out.size))
    have Z5r := Lib.hid (Z1r.out.belowW HB5.out)
    have Z5x := Lib.hid (Z1x.out.belowW HB5.out)
    have HQ0 := Lib.hid HO0
    clear HO0
    obtain ⟨RR0, hRR0⟩ : ∃ z, z = exprR a0.data.toList := ⟨_, rfl⟩
    rw [← hRR0] at HQ0 IV0 ⊢
    clear hRR0
    obtain ⟨⟨ln0, co0, er0⟩, o0⟩ := RR0
    simp only at HQ0 IV0 ⊢
    have HM0 := Lib.hid (Below.refl ww5.heap.size ww5)
    go_upto_region 4 with (fail)
    obtain ⟨ww6, hw9⟩ : ∃ z9 : World, z9 = ((ww5.alloc (Obj.cells #[.int .i64 v0.h.kind, .int .i64 v0.h.n, .int .i64 v0.h.d, .string v0.h.name, .int .i64 v0.h.k, .slice v0.A v0.len v0.cap] 29)).alloc (Obj.cells #[.int .i64 (ln0 : Nat), .int .i64 (co0 : Nat)] 40)) := ⟨_, rfl⟩
    have HB6 := Lib.hid (show Below ww5.heap.size ww5 ww6 by rw [hw9]; exact (below_box _ _).trans ((below_box _ _).mono (by simp)))
    have Nb06 := Lib.hid (show Blk ww6 (ww5.heap.size) 29 #[.int .i64 v0.h.kind, .int .i64 v0.h.n, .int .i64 v0.h.d, .string v0.h.name, .int .i64 v0.h.k, .slice v0.A v0.len v0.cap] by rw [hw9]; exact Blk.belowW (Blk.new ww5 29 #[.int .i64 v0.h.kind, .int .i64 v0.h.n, .int .i64 v0.h.d, .string v0.h.name, .int .i64 v0.h.k, .slice v0.A v0.len v0.cap]) (below_box _ _))
    have Np06 := Lib.hid (show Blk ww6 (ww5.heap.size + 1) 40 #[.int .i64 (ln0 : Nat), .int .i64 (co0 : Nat)] by rw [hw9]; exact (by have := Blk.new (ww5.alloc (Obj.cells #[.int .i64 v0.h.kind, .int .i64 v0.h.n, .int .i64 v0.h.d, .string v0.h.name, .int .i64 v0.h.k, .slice v0.A v0.len v0.cap] 29)) 40 #[.int .i64 (ln0 : Nat), .int .i64 (co0 : Nat)]; simpa using this))
    rw [← hw9]
    clear hw9
    have Z6l := Lib.hid (Z5l.out.trans (HB6.out.mono Z5l.out.size))
    have Z6r := Lib.hid (Z5r.out.belowW HB6.out)
    have Z6x := Lib.hid (Z5x.out.belowW HB6.out)
    have Z6m0 := Lib.hid (HM0.out.trans (HB6.out.mono HM0.out.size))
    have hER0 : er0 = 0 ∨ (((er0 : Nat) : Int) != 0) = true := by
      by_cases h : er0 = 0
      · exact .inl h
      · exact .inr (by rw [bne_iff_ne]; omega)
    have IV1 := Lib.hid (fun h => expr_inv (l := a1.data.toList) h)
    go_wp2_with fail
    refine (pExpr a1 ww6 w1 Z6r.out Z6x.out).mono ?_
    rintro e ww7 ⟨v1, rfl, HB7, HO1⟩
    have Z7l := Lib.hid (Z6l.out.trans (HB7.out.mono Z6l.out.size))
    have Z7r := Lib.hid (Z6r.out.belowW HB7.out)
    have Z7x := Lib.hid (Z6x.out.belowW HB7.out)
    have Z7m0 := Lib.hid (Z6m0.out.trans (HB7.out.mono Z6m0.out.size))
    have Z7b0 := Lib.hid (Nb06.out.belowW HB7.out)
    have Z7p0 := Lib.hid (Np06.out.belowW HB7.out)
    have HQ1 := Lib.hid HO1
    clear HO1
    obtain ⟨RR1, hRR1⟩ : ∃ z, z = exprR a1.data.toList := ⟨_, rfl⟩
    rw [← hRR1] at HQ1 IV1 ⊢
    clear hRR1
    obtain ⟨⟨ln1, co1, er1⟩, o1⟩ := RR1
    simp only at HQ1 IV1 ⊢
    have HM1 := Lib.hid (Below.refl ww7.heap.size ww7)
    go_upto_region 5 with (fail)
    obtain ⟨ww8, hw9⟩ : ∃ z9 : World, z9 = ((ww7.alloc (Obj.cells #[.int .i64 v1.h.kind, .int .i64 v1.h.n, .int .i64 v1.h.d, .string v1.h.name, .int .i64 v1.h.k, .slice v1.A v1.len v1.cap] 29)).alloc (Obj.cells #[.int .i64 (ln1 : Nat), .int .i64 (co1 : Nat)] 40)) := ⟨_, rfl⟩
    have HB8 := Lib.hid (show Below ww7.heap.size ww7 ww8 by rw [hw9]; exact (below_box _ _).trans ((below_box _ _).mono (by simp)))
    have Nb18 := Lib.hid (show Blk ww8 (ww7.heap.size) 29 #[.int .i64 v1.h.kind, .int .i64 v1.h.n, .int .i64 v1.h.d, .string v1.h.name, .int .i64 v1.h.k, .slice v1.A v1.len v1.cap] by rw [hw9]; exact Blk.belowW (Blk.new ww7 29 #[.int .i64 v1.h.kind, .int .i64 v1.h.n, .int .i64 v1.h.d, .string v1.h.name, .int .i64 v1.h.k, .slice v1.A v1.len v1.cap]) (below_box _ _))
    have Np18 := Lib.hid (show Blk ww8 (ww7.heap.size + 1) 40 #[.int .i64 (ln1 : Nat), .int .i64 (co1 : Nat)] by rw [hw9]; exact (by have := Blk.new (ww7.alloc (Obj.cells #[.int .i64 v1.h.kind, .int .i64 v1.h.n, .int .i64 v1.h.d, .string v1.h.name, .int .i64 v1.h.k, .slice v1.A v1.len v1.cap] 29)) 40 #[.int .i64 (ln1 : Nat), .int .i64 (co1 : Nat)]; simpa using this))
    rw [← hw9]
    clear hw9
    have Z8l := Lib.hid (Z7l.out.trans (HB8.out.mono Z7l.out.size))
    have Z8r := Lib.hid (Z7r.out.belowW HB8.out)
    have Z8x := Lib.hid (Z7x.out.belowW HB8.out)
    have Z8m0 := Lib.hid (Z7m0.out.trans (HB8.out.mono Z7m0.out.size))
    have Z8b0 := Lib.hid (Z7b0.out.belowW HB8.out)
    have Z8p0 := Lib.hid (Z7p0.out.belowW HB8.out)
    have Z8m1 := Lib.hid (HM1.out.trans (HB8.out.mono HM1.out.size))
    have hER1 : er1 = 0 ∨ (((er1 : Nat) : Int) != 0) = true := by
      by_cases h : er1 = 0
      · exact .inl h
      · exact .inr (by rw [bne_iff_ne]; omega)
    rcases hER0 with hz0 | hz0
    case inr =>
      have HR261 := Lib.hid (below_dr ww8)
      have R261l := Lib.hid (Z8l.out.trans (HR261.out.mono Z8l.out.size))
      have R261r := Lib.hid (Z8r.out.belowW HR261.out)
      have R261x := Lib.hid (Z8x.out.belowW HR261.out)
      have R261b0 := Lib.hid (Z8b0.out.belowW HR261.out)
      have R261b1 := Lib.hid (Nb18.out.belowW HR261.out)
      refine wp_region_held_drew (S := fun w' => w'.cell? ⟨ww5.heap.size, 0, none⟩ = some (.int .i64 v0.h.kind)) (by kernel_rfl) ?_ (fun hHeld => ?_)
      case refine_1 => exact R261b0.out.cell 0
      obtain ⟨wd261, hwd⟩ : ∃ z9 : World, z9 = ww8.drew := ⟨_, rfl⟩
      rw [← hwd] at HR261 R261l R261r R261x R261b0 R261b1 hHeld ⊢
      clear hwd
      refine tkY 0 rfl (v := ?_) (.inl ⟨by rfl, ?_⟩) ?_
      case refine_2 => intro w9 hSw; (try dsimp only at hSw); go_simp; (try with_reducible rfl)
      try simp only [Act.put, setIfInBounds_toArray, set_cons_zero, set_cons_succ, getElem_toArray, getElem_cons_zero]
      refine tkY 1 rfl (v := ?_) (.inl ⟨by rfl, ?_⟩) ?_
      case refine_2 => intro w9 hSw; (try dsimp only at hSw); go_simp; (try with_reducible rfl)
      try simp only [Act.put, setIfInBounds_toArray, set_cons_zero, set_cons_succ, getElem_toArray, getElem_cons_zero, getElem_cons_succ]
      refine tkY 2 rfl (v := ?_) (.inl ⟨by rfl, ?_⟩) ?_
      case refine_2 => intro w9 hSw; (try dsimp only at hSw); go_simp; (try with_reducible rfl)
      try simp only [Act.put, setIfInBounds_toArray, set_cons_zero, set_cons_succ, getElem_toArray, getElem_cons_zero, getElem_cons_succ]
      refine tkY 3 rfl (v := _) (.inr ⟨by rfl, rfl⟩) ?_
      try simp only [Act.put, setIfInBounds_toArray, set_cons_zero, set_cons_succ, getElem_toArray, getElem_cons_zero, getElem_cons_succ]
      refine tkY 4 rfl (v := _) (.inr ⟨by rfl, rfl⟩) ?_
      try simp only [Act.put, setIfInBounds_toArray, set_cons_zero, set_cons_succ, getElem_toArray, getElem_cons_zero, getElem_cons_succ]
      refine tkY 5 rfl (v := ?_) (.inl ⟨by rfl, ?_⟩) ?_
      case refine_2 => intro w9 hSw; (try dsimp only at hSw); go_simp; (try with_reducible rfl)
      try simp only [Act.put, setIfInBounds_toArray, set_cons_zero, set_cons_succ, getElem_toArray, getElem_cons_zero, getElem_cons_succ]
      refine tkY 6 rfl (v := ?_) (.inl ⟨by rfl, ?_⟩) ?_
      case refine_2 => intro w9 hSw; (try dsimp only at hSw); go_simp; (try with_reducible rfl)
      try simp only [Act.put, setIfInBounds_toArray, set_cons_zero, set_cons_succ, getElem_toArray, getElem_cons_zero, getElem_cons_succ]
      refine tkY 7 rfl (v := _) (.inr ⟨by rfl, rfl⟩) ?_
      try simp only [Act.put, setIfInBounds_toArray, set_cons_zero, set_cons_succ, getElem_toArray, getElem_cons_zero, getElem_cons_succ]
      refine tkY 8 rfl (v := _) (.inr ⟨by rfl, rfl⟩) ?_
      try simp only [Act.put, setIfInBounds_toArray, set_cons_zero, set_cons_succ, getElem_toArray, getElem_cons_zero, getElem_cons_succ]
      refine tkY 9 rfl (v := _) (.inr ⟨by rfl, rfl⟩) ?_
      try simp only [Act.put, setIfInBounds_toArray, set_cons_zero, set_cons_succ, getElem_toArray, getElem_cons_zero, getElem_cons_succ]
      refine tkY 10 rfl (v := ?_) (.inl ⟨by rfl, ?_⟩) ?_
      case refine_2 => intro w9 hSw; (try dsimp only at hSw); go_simp; (try with_reducible rfl)
      try simp only [Act.put, setIfInBounds_toArray, set_cons_zero, set_cons_succ, getElem_toArray, getElem_cons_zero, getElem_cons_succ]
      refine tkY 11 rfl (v := ?_) (.inl ⟨by rfl, ?_⟩) ?_
      case refine_2 => intro w9 hSw; (try dsimp only at hSw); go_simp; (try with_reducible rfl)
      try simp only [Act.put, setIfInBounds_toArray, set_cons_zero, set_cons_succ, getElem_toArray, getElem_cons_zero, getElem_cons_succ]
      refine tkY 12 rfl (v := _) (.inr ⟨by rfl, rfl⟩) ?_
      try simp only [Act.put, setIfInBounds_toArray, set_cons_zero, set_cons_succ, getElem_toArray, getElem_cons_zero, getElem_cons_succ]
      refine tkY 13 rfl (v := _) (.inr ⟨by rfl, rfl⟩) ?_
      try simp only [Act.put, setIfInBounds_toArray, set_cons_zero, set_cons_succ, getElem_toArray, getElem_cons_zero, getElem_cons_succ]
      refine tkY 14 rfl (v := _) (.inr ⟨by rfl, rfl⟩) ?_
      try simp only [Act.put, setIfInBounds_toArray, set_cons_zero, set_cons_succ, getElem_toArray, getElem_cons_zero, getElem_cons_succ]
      refine tkY 15 rfl (v := ?_) (.inl ⟨by rfl, ?_⟩) ?_
      case refine_2 => intro w9 hSw; (try dsimp only at hSw); go_simp; (try with_reducible rfl)
      try simp only [Act.put, setIfInBounds_toArray, set_cons_zero, set_cons_succ, getElem_toArray, getElem_cons_zero, getElem_cons_succ]
      refine tkY 16 rfl (v := ?_) (.inl ⟨by rfl, ?_⟩) ?_
      case refine_2 => intro w9 hSw; (try dsimp only at hSw); go_simp; (try with_reducible rfl)
      try simp only [Act.put, setIfInBounds_toArray, set_cons_zero, set_cons_succ, getElem_toArray, getElem_cons_zero, getElem_cons_succ]
      refine tkY 17 rfl (v := _) (.inr ⟨by rfl, rfl⟩) ?_
      try simp only [Act.put, setIfInBounds_toArray, set_cons_zero, set_cons_succ, getElem_toArray, getElem_cons_zero, getElem_cons_succ]
      refine tkY 18 rfl (v := _) (.inr ⟨by rfl, rfl⟩) ?_
      try simp only [Act.put, setIfInBounds_toArray, set_cons_zero, set_cons_succ, getElem_toArray, getElem_cons_zero, getElem_cons_succ]
      refine tkY 19 rfl (v := _) (.inr ⟨by rfl, rfl⟩) ?_
      try simp only [Act.put, setIfInBounds_toArray, set_cons_zero, set_cons_succ, getElem_toArray, getElem_cons_zero, getElem_cons_succ]
      refine tkY 20 rfl (v := _) (.inr ⟨by rfl, rfl⟩) ?_
      try simp only [Act.put, setIfInBounds_toArray, set_cons_zero, set_cons_succ, getElem_toArray, getElem_cons_zero, getElem_cons_succ]
      refine tkY 21 rfl (v := _) (.inr ⟨by rfl, rfl⟩) ?_
      try simp only [Act.put, setIfInBounds_toArray, set_cons_zero, set_cons_succ, getElem_toArray, getElem_cons_zero, getElem_cons_succ]
      refine tkY 22 rfl (v := _) (.inr ⟨by rfl, rfl⟩) ?_
      try simp only [Act.put, setIfInBounds_toArray, set_cons_zero, set_cons_succ, getElem_toArray, getElem_cons_zero, getElem_cons_succ]
      refine tkY 23 rfl (v := ?_) (.inl ⟨by rfl, ?_⟩) ?_
      case refine_2 => intro w9 hSw; (try dsimp only at hSw); go_simp; (try with_reducible rfl)
      try simp only [Act.put, setIfInBounds_toArray, set_cons_zero, set_cons_succ, getElem_toArray, getElem_cons_zero, getElem_cons_succ]
      refine wpAnyH_done (by kernel_rfl) ?_ _
      go_wp2_with fail
      go_ret
      exact ⟨rfl, R261l⟩
    subst hz0
    rcases hER1 with hz1 | hz1
    case inr =>
      have HR261 := Lib.hid (below_dr ww8)
      have R261l := Lib.hid (Z8l.out.trans (HR261.out.mono Z8l.out.size))
      have R261r := Lib.hid (Z8r.out.belowW HR261.out)
      have R261x := Lib.hid (Z8x.out.belowW HR261.out)
      have R261b0 := Lib.hid (Z8b0.out.belowW HR261.out)
      have R261b1 := Lib.hid (Nb18.out.belowW HR261.out)
      refine wp_region_held_drew (S := fun w' => w'.cell? ⟨ww5.heap.size, 0, none⟩ = some (.int .i64 v0.h.kind)) (by kernel_rfl) ?_ (fun hHeld => ?_)
      case refine_1 => exact R261b0.out.cell 0
      obtain ⟨wd261, hwd⟩ : ∃ z9 : World, z9 = ww8.drew := ⟨_, rfl⟩
      rw [← hwd] at HR261 R261l R261r R261x R261b0 R261b1 hHeld ⊢
      clear hwd
      refine tkY 0 rfl (v := ?_) (.inl ⟨by rfl, ?_⟩) ?_
      case refine_2 => intro w9 hSw; (try dsimp only at hSw); go_simp; (try with_reducible rfl)
      try simp only [Act.put, setIfInBounds_toArray, set_cons_zero, set_cons_succ, getElem_toArray, getElem_cons_zero]
      refine tkY 1 rfl (v := ?_) (.inl ⟨by rfl, ?_⟩) ?_
      case refine_2 => intro w9 hSw; (try dsimp only at hSw); go_simp; (try with_reducible rfl)
      try simp only [Act.put, setIfInBounds_toArray, set_cons_zero, set_cons_succ, getElem_toArray, getElem_cons_zero, getElem_cons_succ]
      refine tkY 2 rfl (v := ?_) (.inl ⟨by rfl, ?_⟩) ?_
      case refine_2 => intro w9 hSw; (try dsimp only at hSw); go_simp; (try with_reducible rfl)
      try simp only [Act.put, setIfInBounds_toArray, set_cons_zero, set_cons_succ, getElem_toArray, getElem_cons_zero, getElem_cons_succ]
      refine tkY 3 rfl (v := ?_) (.inl ⟨by rfl, ?_⟩) ?_
      case refine_2 => intro w9 hSw; (try dsimp only at hSw); go_simp; (try with_reducible rfl)
      try simp only [Act.put, setIfInBounds_toArray, set_cons_zero, set_cons_succ, getElem_toArray, getElem_cons_zero, getElem_cons_succ]
      refine tkY 4 rfl (v := ?_) (.inl ⟨by rfl, ?_⟩) ?_
      case refine_2 => intro w9 hSw; (try dsimp only at hSw); go_simp; (try with_reducible rfl)
      try simp only [Act.put, setIfInBounds_toArray, set_cons_zero, set_cons_succ, getElem_toArray, getElem_cons_zero, getElem_cons_succ]
      refine tkY 5 rfl (v := ?_) (.inl ⟨by rfl, ?_⟩) ?_
      case refine_2 => intro w9 hSw; (try dsimp only at hSw); go_simp; (try with_reducible rfl)
      try simp only [Act.put, setIfInBounds_toArray, set_cons_zero, set_cons_succ, getElem_toArray, getElem_cons_zero, getElem_cons_succ]
      refine tkY 6 rfl (v := ?_) (.inl ⟨by rfl, ?_⟩) ?_
      case refine_2 => intro w9 hSw; (try dsimp only at hSw); go_simp; (try with_reducible rfl)
      try simp only [Act.put, setIfInBounds_toArray, set_cons_zero, set_cons_succ, getElem_toArray, getElem_cons_zero, getElem_cons_succ]
      refine tkY 7 rfl (v := _) (.inr ⟨by rfl, rfl⟩) ?_
      try simp only [Act.put, setIfInBounds_toArray, set_cons_zero, set_cons_succ, getElem_toArray, getElem_cons_zero, getElem_cons_succ]
      refine tkY 8 rfl (v := _) (.inr ⟨by rfl, rfl⟩) ?_
      try simp only [Act.put, setIfInBounds_toArray, set_cons_zero, set_cons_succ, getElem_toArray, getElem_cons_zero, getElem_cons_succ]
      refine tkY 9 rfl (v := _) (.inr ⟨by rfl, rfl⟩) ?_
      try simp only [Act.put, setIfInBounds_toArray, set_cons_zero, set_cons_succ, getElem_toArray, getElem_cons_zero, getElem_cons_succ]
      refine tkY 10 rfl (v := ?_) (.inl ⟨by rfl, ?_⟩) ?_
      case refine_2 => intro w9 hSw; (try dsimp only at hSw); go_simp; (try with_reducible rfl)
      try simp only [Act.put, setIfInBounds_toArray, set_cons_zero, set_cons_succ, getElem_toArray, getElem_cons_zero, getElem_cons_succ]
      refine tkY 11 rfl (v := ?_) (.inl ⟨by rfl, ?_⟩) ?_
      case refine_2 => intro w9 hSw; (try dsimp only at hSw); go_simp; (try with_reducible rfl)
      try simp only [Act.put, setIfInBounds_toArray, set_cons_zero, set_cons_succ, getElem_toArray, getElem_cons_zero, getElem_cons_succ]
      refine tkY 12 rfl (v := _) (.inr ⟨by rfl, rfl⟩) ?_
      try simp only [Act.put, setIfInBounds_toArray, set_cons_zero, set_cons_succ, getElem_toArray, getElem_cons_zero, getElem_cons_succ]
      refine tkY 13 rfl (v := _) (.inr ⟨by rfl, rfl⟩) ?_
      try simp only [Act.put, setIfInBounds_toArray, set_cons_zero, set_cons_succ, getElem_toArray, getElem_cons_zero, getElem_cons_succ]
      refine tkY 14 rfl (v := _) (.inr ⟨by rfl, rfl⟩) ?_
      try simp only [Act.put, setIfInBounds_toArray, set_cons_zero, set_cons_succ, getElem_toArray, getElem_cons_zero, getElem_cons_succ]
      refine tkY 15 rfl (v := ?_) (.inl ⟨by rfl, ?_⟩) ?_
      case refine_2 => intro w9 hSw; (try dsimp only at hSw); go_simp; (try with_reducible rfl)
      try simp only [Act.put, setIfInBounds_toArray, set_cons_zero, set_cons_succ, getElem_toArray, getElem_cons_zero, getElem_cons_succ]
      refine tkY 16 rfl (v := ?_) (.inl ⟨by rfl, ?_⟩) ?_
      case refine_2 => intro w9 hSw; (try dsimp only at hSw); go_simp; (try with_reducible rfl)
      try simp only [Act.put, setIfInBounds_toArray, set_cons_zero, set_cons_succ, getElem_toArray, getElem_cons_zero, getElem_cons_succ]
      refine tkY 17 rfl (v := _) (.inr ⟨by rfl, rfl⟩) ?_
      try simp only [Act.put, setIfInBounds_toArray, set_cons_zero, set_cons_succ, getElem_toArray, getElem_cons_zero, getElem_cons_succ]
      refine tkY 18 rfl (v := _) (.inr ⟨by rfl, rfl⟩) ?_
      try simp only [Act.put, setIfInBounds_toArray, set_cons_zero, set_cons_succ, getElem_toArray, getElem_cons_zero, getElem_cons_succ]
      refine tkY 19 rfl (v := _) (.inr ⟨by rfl, rfl⟩) ?_
      try simp only [Act.put, setIfInBounds_toArray, set_cons_zero, set_cons_succ, getElem_toArray, getElem_cons_zero, getElem_cons_succ]
      refine tkY 20 rfl (v := _) (.inr ⟨by rfl, rfl⟩) ?_
      try simp only [Act.put, setIfInBounds_toArray, set_cons_zero, set_cons_succ, getElem_toArray, getElem_cons_zero, getElem_cons_succ]
      refine tkY 21 rfl (v := _) (.inr ⟨by rfl, rfl⟩) ?_
      try simp only [Act.put, setIfInBounds_toArray, set_cons_zero, set_cons_succ, getElem_toArray, getElem_cons_zero, getElem_cons_succ]
      refine tkY 22 rfl (v := _) (.inr ⟨by rfl, rfl⟩) ?_
      try simp only [Act.put, setIfInBounds_toArray, set_cons_zero, set_cons_succ, getElem_toArray, getElem_cons_zero, getElem_cons_succ]
      refine tkY 23 rfl (v := ?_) (.inl ⟨by rfl, ?_⟩) ?_
      case refine_2 => intro w9 hSw; (try dsimp only at hSw); go_simp; (try with_reducible rfl)
      try simp only [Act.put, setIfInBounds_toArray, set_cons_zero, set_cons_succ, getElem_toArray, getElem_cons_zero, getElem_cons_succ]
      refine wpAnyH_done (by kernel_rfl) ?_ _
      go_wp2_with fail
      go_ret
      exact ⟨rfl, R261l⟩
    subst hz1
    obtain ⟨us, X, i1, i2, i3⟩ := IV0.out rfl
    obtain ⟨vs, Y, i4, i5, i6⟩ := IV1.out rfl
    subst i3 i6
    obtain ⟨T0, t0, z0⟩ := HQ0.out.2 rfl
    obtain ⟨T1, t1, z1⟩ := HQ1.out.2 rfl
    injection t0 with t0
    injection t1 with t1
    subst t0 t1
    have HN0 := Lib.hid (z0.toE.go Z8m0.out)
    have HN1 := Lib.hid (z1.toE.go Z8m1.out)
    clear z0 z1
    have OK0 := Lib.hid i2.o
    have OK1 := Lib.hid i5.o
    have I1 := Lib.hid i1
    have I2 := Lib.hid i2
    have I4 := Lib.hid i4
    have I5 := Lib.hid i5
    clear i1 i2 i4 i5 IV0 IV1 HQ0 HQ1
    obtain ⟨DA, hDA⟩ : ∃ z, dpT 20 X = z := ⟨_, rfl⟩
    have HDA := Lib.hid hDA
    obtain ⟨DB, hDB⟩ : ∃ z, dpT 20 Y = z := ⟨_, rfl⟩
    have HDB := Lib.hid hDB
    obtain ⟨SA, hSA⟩ : ∃ z, cR 20 X = z := ⟨_, rfl⟩
    have HSA := Lib.hid hSA
    obtain ⟨SB, hSB⟩ : ∃ z, cR 20 Y = z := ⟨_, rfl⟩
    have HSB := Lib.hid hSB
    have hSA2 : SA ≤ 200 := by rw [← hSA]; exact okE_iff.1 OK0.out
    have hSB2 : SB ≤ 200 := by rw [← hSB]; exact okE_iff.1 OK1.out
    have hDA2 : DA ≤ 20 := by rw [← hDA]; exact dpT_le 20 X
    have hDB2 : DB ≤ 20 := by rw [← hDB]; exact dpT_le 20 Y
    have wss : IntKind.i64.wrap ((SA : Int) + (SB : Int)) = (SA : Int) + (SB : Int) := by rw [IntKind.wrap_i64]; omega
    clear hDA hDB hSA hSB
    by_cases hqa : 17 < DA
    case pos =>
      have dqa : decide ((17 : Int) < (DA : Int)) = true := decide_eq_true (by omega)
      have dqa' : decide (17 < DA) = true := decide_eq_true (by omega)
      have HR261 := Lib.hid (below_dr ww8)
      have R261l := Lib.hid (Z8l.out.trans (HR261.out.mono Z8l.out.size))
      have R261r := Lib.hid (Z8r.out.belowW HR261.out)
      have R261x := Lib.hid (Z8x.out.belowW HR261.out)
      have R261b0 := Lib.hid (Z8b0.out.belowW HR261.out)
      have R261b1 := Lib.hid (Nb18.out.belowW HR261.out)
      have R261n0 := Lib.hid (HN0.out.belowW HR261.out)
      have R261n1 := Lib.hid (HN1.out.belowW HR261.out)
      refine wp_region_held_drew (S := fun w' => w'.cell? ⟨ww5.heap.size, 0, none⟩ = some (.int .i64 v0.h.kind) ∧ w'.cell? ⟨ww5.heap.size, 1, none⟩ = some (.int .i64 v0.h.n) ∧ w'.cell? ⟨ww5.heap.size, 2, none⟩ = some (.int .i64 v0.h.d) ∧ w'.cell? ⟨ww5.heap.size, 3, none⟩ = some (.string v0.h.name) ∧ w'.cell? ⟨ww5.heap.size, 4, none⟩ = some (.int .i64 v0.h.k) ∧ w'.cell? ⟨ww5.heap.size, 5, none⟩ = some (.slice v0.A v0.len v0.cap) ∧ w'.cell? ⟨ww7.heap.size, 0, none⟩ = some (.int .i64 v1.h.kind) ∧ w'.cell? ⟨ww7.heap.size, 1, none⟩ = some (.int .i64 v1.h.n) ∧ w'.cell? ⟨ww7.heap.size, 2, none⟩ = some (.int .i64 v1.h.d) ∧ w'.cell? ⟨ww7.heap.size, 3, none⟩ = some (.string v1.h.name) ∧ w'.cell? ⟨ww7.heap.size, 4, none⟩ = some (.int .i64 v1.h.k) ∧ w'.cell? ⟨ww7.heap.size, 5, none⟩ = some (.slice v1.A v1.len v1.cap)) (by kernel_rfl) ?_ (fun hHeld => ?_)
      case refine_1 => exact ⟨R261b0.out.cell 0, R261b0.out.cell 1, R261b0.out.cell 2, R261b0.out.cell 3, R261b0.out.cell 4, R261b0.out.cell 5, R261b1.out.cell 0, R261b1.out.cell 1, R261b1.out.cell 2, R261b1.out.cell 3, R261b1.out.cell 4, R261b1.out.cell 5⟩
      obtain ⟨wd261, hwd⟩ : ∃ z9 : World, z9 = ww8.drew := ⟨_, rfl⟩
      rw [← hwd] at HR261 R261l R261r R261x R261b0 R261b1 R261n0 R261n1 hHeld ⊢
      clear hwd
      refine tkY 0 rfl (v := ?_) (.inl ⟨by rfl, ?_⟩) ?_
      case refine_2 => intro w9 hSw; (try dsimp only at hSw); go_simp; (try with_reducible rfl)
      try simp only [Act.put, setIfInBounds_toArray, set_cons_zero, set_cons_succ, getElem_toArray, getElem_cons_zero]
      refine tkY 1 rfl (v := ?_) (.inl ⟨by rfl, ?_⟩) ?_
      case refine_2 => intro w9 hSw; (try dsimp only at hSw); go_simp; (try with_reducible rfl)
      try simp only [Act.put, setIfInBounds_toArray, set_cons_zero, set_cons_succ, getElem_toArray, getElem_cons_zero, getElem_cons_succ]
      refine tkY 2 rfl (v := ?_) (.inl ⟨by rfl, ?_⟩) ?_
      case refine_2 => intro w9 hSw; (try dsimp only at hSw); go_simp; (try with_reducible rfl)
      try simp only [Act.put, setIfInBounds_toArray, set_cons_zero, set_cons_succ, getElem_toArray, getElem_cons_zero, getElem_cons_succ]
      refine tkY 3 rfl (v := ?_) (.inl ⟨by rfl, ?_⟩) ?_
      case refine_2 => intro w9 hSw; (try dsimp only at hSw); go_simp; (try with_reducible rfl)
      try simp only [Act.put, setIfInBounds_toArray, set_cons_zero, set_cons_succ, getElem_toArray, getElem_cons_zero, getElem_cons_succ]
      refine tkY 4 rfl (v := ?_) (.inl ⟨by rfl, ?_⟩) ?_
      case refine_2 => intro w9 hSw; (try dsimp only at hSw); go_simp; (try with_reducible rfl)
      try simp only [Act.put, setIfInBounds_toArray, set_cons_zero, set_cons_succ, getElem_toArray, getElem_cons_zero, getElem_cons_succ]
      refine tkY 5 rfl (v := ?_) (.inl ⟨by rfl, ?_⟩) ?_
      case refine_2 => intro w9 hSw; (try dsimp only at hSw); go_simp; (try with_reducible rfl)
      try simp only [Act.put, setIfInBounds_toArray, set_cons_zero, set_cons_succ, getElem_toArray, getElem_cons_zero, getElem_cons_succ]
      refine tkY 6 rfl (v := ?_) (.inl ⟨by rfl, ?_⟩) ?_
      case refine_2 => intro w9 hSw; (try dsimp only at hSw); go_simp; (try with_reducible rfl)
      try simp only [Act.put, setIfInBounds_toArray, set_cons_zero, set_cons_succ, getElem_toArray, getElem_cons_zero, getElem_cons_succ]
      refine tkY 7 rfl (v := ?_) (.inl ⟨by rfl, ?_⟩) ?_
      case refine_2 => intro w9 hSw; (try dsimp only at hSw); go_simp; (try with_reducible rfl)
      try simp only [Act.put, setIfInBounds_toArray, set_cons_zero, set_cons_succ, getElem_toArray, getElem_cons_zero, getElem_cons_succ]
      refine wpAnyH_ready (rs := [8]) (by kernel_rfl) (by simp) ?_
      refine (AllReadyH.cons rfl (fun K hK => ?_) AllReadyH.nil)
      go_simp
      (with_reducible refine (show Calls Tryz.prog 22 #[.agg #[.int .i64 v0.h.kind, .int .i64 v0.h.n, .int .i64 v0.h.d, .string v0.h.name, .int .i64 v0.h.k, .slice v0.A v0.len v0.cap]] wd261 (RetB (.int .i64 (DA : Nat)) wd261) from by have h := eDepth_any X v0 wd261 R261n0.out OK0.out; rwa [HDA.out] at h).mono ?_)
      rintro e w262 ⟨rfl, HC262⟩
      have R262l := Lib.hid (R261l.out.trans (HC262.out.mono R261l.out.size))
      have R262r := Lib.hid (R261r.out.belowW HC262.out)
      have R262x := Lib.hid (R261x.out.belowW HC262.out)
      have R262b0 := Lib.hid (R261b0.out.belowW HC262.out)
      have R262b1 := Lib.hid (R261b1.out.belowW HC262.out)
      have R262n0 := Lib.hid (R261n0.out.belowW HC262.out)
      have R262n1 := Lib.hid (R261n1.out.belowW HC262.out)
      go_wp2_with fail
      clear hHeld
      refine hK.out _ _ ?_ (fun hHeld => ?_)
      case refine_1 => exact ⟨R262b0.out.cell 0, R262b0.out.cell 1, R262b0.out.cell 2, R262b0.out.cell 3, R262b0.out.cell 4, R262b0.out.cell 5, R262b1.out.cell 0, R262b1.out.cell 1, R262b1.out.cell 2, R262b1.out.cell 3, R262b1.out.cell 4, R262b1.out.cell 5⟩
      clear hK K
      try simp only [setIfInBounds_toArray, set_cons_zero, set_cons_succ]
      refine tkY 9 rfl (v := ?_) (.inl ⟨by rfl, ?_⟩) ?_
      case refine_2 => intro w9 hSw; (try dsimp only at hSw); go_simp; (try with_reducible rfl)
      try simp only [Act.put, setIfInBounds_toArray, set_cons_zero, set_cons_succ, getElem_toArray, getElem_cons_zero, getElem_cons_succ]
      refine tkY 10 rfl (v := ?_) (.inl ⟨by rfl, ?_⟩) ?_
      case refine_2 => intro w9 hSw; (try dsimp only at hSw); go_simp; (try with_reducible rfl)
      try simp only [Act.put, setIfInBounds_toArray, set_cons_zero, set_cons_succ, getElem_toArray, getElem_cons_zero, getElem_cons_succ]
      refine tkY 11 rfl (v := ?_) (.inl ⟨by rfl, ?_⟩) ?_
      case refine_2 => intro w9 hSw; (try dsimp only at hSw); go_simp; (try with_reducible rfl)
      try simp only [Act.put, setIfInBounds_toArray, set_cons_zero, set_cons_succ, getElem_toArray, getElem_cons_zero, getElem_cons_succ]
      refine tkY 12 rfl (v := _) (.inr ⟨by rfl, rfl⟩) ?_
      try simp only [Act.put, setIfInBounds_toArray, set_cons_zero, set_cons_succ, getElem_toArray, getElem_cons_zero, getElem_cons_succ]
      refine tkY 13 rfl (v := _) (.inr ⟨by rfl, rfl⟩) ?_
      try simp only [Act.put, setIfInBounds_toArray, set_cons_zero, set_cons_succ, getElem_toArray, getElem_cons_zero, getElem_cons_succ]
      refine tkY 14 rfl (v := _) (.inr ⟨by rfl, rfl⟩) ?_
      try simp only [Act.put, setIfInBounds_toArray, set_cons_zero, set_cons_succ, getElem_toArray, getElem_cons_zero, getElem_cons_succ]
      refine tkY 15 rfl (v := ?_) (.inl ⟨by rfl, ?_⟩) ?_
      case refine_2 => intro w9 hSw; (try dsimp only at hSw); go_simp; (try with_reducible rfl)
      try simp only [Act.put, setIfInBounds_toArray, set_cons_zero, set_cons_succ, getElem_toArray, getElem_cons_zero, getElem_cons_succ]
      refine tkY 16 rfl (v := ?_) (.inl ⟨by rfl, ?_⟩) ?_
      case refine_2 => intro w9 hSw; (try dsimp only at hSw); go_simp; (try with_reducible rfl)
      try simp only [Act.put, setIfInBounds_toArray, set_cons_zero, set_cons_succ, getElem_toArray, getElem_cons_zero, getElem_cons_succ]
      refine tkY 17 rfl (v := _) (.inr ⟨by rfl, rfl⟩) ?_
      try simp only [Act.put, setIfInBounds_toArray, set_cons_zero, set_cons_succ, getElem_toArray, getElem_cons_zero, getElem_cons_succ]
      refine tkY 18 rfl (v := _) (.inr ⟨by rfl, rfl⟩) ?_
      try simp only [Act.put, setIfInBounds_toArray, set_cons_zero, set_cons_succ, getElem_toArray, getElem_cons_zero, getElem_cons_succ]
      refine tkY 19 rfl (v := _) (.inr ⟨by rfl, rfl⟩) ?_
      try simp only [Act.put, setIfInBounds_toArray, set_cons_zero, set_cons_succ, getElem_toArray, getElem_cons_zero, getElem_cons_succ]
      refine tkY 20 rfl (v := _) (.inr ⟨by rfl, rfl⟩) ?_
      try simp only [Act.put, setIfInBounds_toArray, set_cons_zero, set_cons_succ, getElem_toArray, getElem_cons_zero, getElem_cons_succ]
      refine tkY 21 rfl (v := _) (.inr ⟨by rfl, rfl⟩) ?_
      try simp only [Act.put, setIfInBounds_toArray, set_cons_zero, set_cons_succ, getElem_toArray, getElem_cons_zero, getElem_cons_succ]
      refine tkY 22 rfl (v := _) (.inr ⟨by rfl, rfl⟩) ?_
      try simp only [Act.put, setIfInBounds_toArray, set_cons_zero, set_cons_succ, getElem_toArray, getElem_cons_zero, getElem_cons_succ]
      refine tkY 23 rfl (v := ?_) (.inl ⟨by rfl, ?_⟩) ?_
      case refine_2 => intro w9 hSw; (try dsimp only at hSw); go_simp; (try with_reducible rfl)
      try simp only [Act.put, setIfInBounds_toArray, set_cons_zero, set_cons_succ, getElem_toArray, getElem_cons_zero, getElem_cons_succ]
      refine wpAnyH_done (by kernel_rfl) ?_ _
      go_wp2_with fail
      go_ret
      exact ⟨rfl, R262l⟩
    have dqa : decide ((17 : Int) < (DA : Int)) = false := decide_eq_false (by omega)
    have dqa' : decide (17 < DA) = false := decide_eq_false (by omega)
    by_cases hqb : 17 < DB
    case pos =>
      have dqb : decide ((17 : Int) < (DB : Int)) = true := decide_eq_true (by omega)
      have dqb' : decide (17 < DB) = true := decide_eq_true (by omega)
      have HR261 := Lib.hid (below_dr ww8)
      have R261l := Lib.hid (Z8l.out.trans (HR261.out.mono Z8l.out.size))
      have R261r := Lib.hid (Z8r.out.belowW HR261.out)
      have R261x := Lib.hid (Z8x.out.belowW HR261.out)
      have R261b0 := Lib.hid (Z8b0.out.belowW HR261.out)
      have R261b1 := Lib.hid (Nb18.out.belowW HR261.out)
      have R261n0 := Lib.hid (HN0.out.belowW HR261.out)
      have R261n1 := Lib.hid (HN1.out.belowW HR261.out)
      refine wp_region_held_drew (S := fun w' => w'.cell? ⟨ww5.heap.size, 0, none⟩ = some (.int .i64 v0.h.kind) ∧ w'.cell? ⟨ww5.heap.size, 1, none⟩ = some (.int .i64 v0.h.n) ∧ w'.cell? ⟨ww5.heap.size, 2, none⟩ = some (.int .i64 v0.h.d) ∧ w'.cell? ⟨ww5.heap.size, 3, none⟩ = some (.string v0.h.name) ∧ w'.cell? ⟨ww5.heap.size, 4, none⟩ = some (.int .i64 v0.h.k) ∧ w'.cell? ⟨ww5.heap.size, 5, none⟩ = some (.slice v0.A v0.len v0.cap) ∧ w'.cell? ⟨ww7.heap.size, 0, none⟩ = some (.int .i64 v1.h.kind) ∧ w'.cell? ⟨ww7.heap.size, 1, none⟩ = some (.int .i64 v1.h.n) ∧ w'.cell? ⟨ww7.heap.size, 2, none⟩ = some (.int .i64 v1.h.d) ∧ w'.cell? ⟨ww7.heap.size, 3, none⟩ = some (.string v1.h.name) ∧ w'.cell? ⟨ww7.heap.size, 4, none⟩ = some (.int .i64 v1.h.k) ∧ w'.cell? ⟨ww7.heap.size, 5, none⟩ = some (.slice v1.A v1.len v1.cap)) (by kernel_rfl) ?_ (fun hHeld => ?_)
      case refine_1 => exact ⟨R261b0.out.cell 0, R261b0.out.cell 1, R261b0.out.cell 2, R261b0.out.cell 3, R261b0.out.cell 4, R261b0.out.cell 5, R261b1.out.cell 0, R261b1.out.cell 1, R261b1.out.cell 2, R261b1.out.cell 3, R261b1.out.cell 4, R261b1.out.cell 5⟩
      obtain ⟨wd261, hwd⟩ : ∃ z9 : World, z9 = ww8.drew := ⟨_, rfl⟩
      rw [← hwd] at HR261 R261l R261r R261x R261b0 R261b1 R261n0 R261n1 hHeld ⊢
      clear hwd
      refine tkY 0 rfl (v := ?_) (.inl ⟨by rfl, ?_⟩) ?_
      case refine_2 => intro w9 hSw; (try dsimp only at hSw); go_simp; (try with_reducible rfl)
      try simp only [Act.put, setIfInBounds_toArray, set_cons_zero, set_cons_succ, getElem_toArray, getElem_cons_zero]
      refine tkY 1 rfl (v := ?_) (.inl ⟨by rfl, ?_⟩) ?_
      case refine_2 => intro w9 hSw; (try dsimp only at hSw); go_simp; (try with_reducible rfl)
      try simp only [Act.put, setIfInBounds_toArray, set_cons_zero, set_cons_succ, getElem_toArray, getElem_cons_zero, getElem_cons_succ]
      refine tkY 2 rfl (v := ?_) (.inl ⟨by rfl, ?_⟩) ?_
      case refine_2 => intro w9 hSw; (try dsimp only at hSw); go_simp; (try with_reducible rfl)
      try simp only [Act.put, setIfInBounds_toArray, set_cons_zero, set_cons_succ, getElem_toArray, getElem_cons_zero, getElem_cons_succ]
      refine tkY 3 rfl (v := ?_) (.inl ⟨by rfl, ?_⟩) ?_
      case refine_2 => intro w9 hSw; (try dsimp only at hSw); go_simp; (try with_reducible rfl)
      try simp only [Act.put, setIfInBounds_toArray, set_cons_zero, set_cons_succ, getElem_toArray, getElem_cons_zero, getElem_cons_succ]
      refine tkY 4 rfl (v := ?_) (.inl ⟨by rfl, ?_⟩) ?_
      case refine_2 => intro w9 hSw; (try dsimp only at hSw); go_simp; (try with_reducible rfl)
      try simp only [Act.put, setIfInBounds_toArray, set_cons_zero, set_cons_succ, getElem_toArray, getElem_cons_zero, getElem_cons_succ]
      refine tkY 5 rfl (v := ?_) (.inl ⟨by rfl, ?_⟩) ?_
      case refine_2 => intro w9 hSw; (try dsimp only at hSw); go_simp; (try with_reducible rfl)
      try simp only [Act.put, setIfInBounds_toArray, set_cons_zero, set_cons_succ, getElem_toArray, getElem_cons_zero, getElem_cons_succ]
      refine tkY 6 rfl (v := ?_) (.inl ⟨by rfl, ?_⟩) ?_
      case refine_2 => intro w9 hSw; (try dsimp only at hSw); go_simp; (try with_reducible rfl)
      try simp only [Act.put, setIfInBounds_toArray, set_cons_zero, set_cons_succ, getElem_toArray, getElem_cons_zero, getElem_cons_succ]
      refine tkY 7 rfl (v := ?_) (.inl ⟨by rfl, ?_⟩) ?_
      case refine_2 => intro w9 hSw; (try dsimp only at hSw); go_simp; (try with_reducible rfl)
      try simp only [Act.put, setIfInBounds_toArray, set_cons_zero, set_cons_succ, getElem_toArray, getElem_cons_zero, getElem_cons_succ]
      refine wpAnyH_ready (rs := [8]) (by kernel_rfl) (by simp) ?_
      refine (AllReadyH.cons rfl (fun K hK => ?_) AllReadyH.nil)
      go_simp
      (with_reducible refine (show Calls Tryz.prog 22 #[.agg #[.int .i64 v0.h.kind, .int .i64 v0.h.n, .int .i64 v0.h.d, .string v0.h.name, .int .i64 v0.h.k, .slice v0.A v0.len v0.cap]] wd261 (RetB (.int .i64 (DA : Nat)) wd261) from by have h := eDepth_any X v0 wd261 R261n0.out OK0.out; rwa [HDA.out] at h).mono ?_)
      rintro e w262 ⟨rfl, HC262⟩
      have R262l := Lib.hid (R261l.out.trans (HC262.out.mono R261l.out.size))
      have R262r := Lib.hid (R261r.out.belowW HC262.out)
      have R262x := Lib.hid (R261x.out.belowW HC262.out)
      have R262b0 := Lib.hid (R261b0.out.belowW HC262.out)
      have R262b1 := Lib.hid (R261b1.out.belowW HC262.out)
      have R262n0 := Lib.hid (R261n0.out.belowW HC262.out)
      have R262n1 := Lib.hid (R261n1.out.belowW HC262.out)
      go_wp2_with fail
      clear hHeld
      refine hK.out _ _ ?_ (fun hHeld => ?_)
      case refine_1 => exact ⟨R262b0.out.cell 0, R262b0.out.cell 1, R262b0.out.cell 2, R262b0.out.cell 3, R262b0.out.cell 4, R262b0.out.cell 5, R262b1.out.cell 0, R262b1.out.cell 1, R262b1.out.cell 2, R262b1.out.cell 3, R262b1.out.cell 4, R262b1.out.cell 5⟩
      clear hK K
      try simp only [setIfInBounds_toArray, set_cons_zero, set_cons_succ]
      refine tkY 9 rfl (v := ?_) (.inl ⟨by rfl, ?_⟩) ?_
      case refine_2 => intro w9 hSw; (try dsimp only at hSw); go_simp; (try with_reducible rfl)
      try simp only [Act.put, setIfInBounds_toArray, set_cons_zero, set_cons_succ, getElem_toArray, getElem_cons_zero, getElem_cons_succ]
      refine tkY 10 rfl (v := ?_) (.inl ⟨by rfl, ?_⟩) ?_
      case refine_2 => intro w9 hSw; (try dsimp only at hSw); go_simp; (try with_reducible rfl)
      try simp only [Act.put, setIfInBounds_toArray, set_cons_zero, set_cons_succ, getElem_toArray, getElem_cons_zero, getElem_cons_succ]
      refine tkY 11 rfl (v := ?_) (.inl ⟨by rfl, ?_⟩) ?_
      case refine_2 => intro w9 hSw; (try dsimp only at hSw); go_simp; (try with_reducible rfl)
      try simp only [Act.put, setIfInBounds_toArray, set_cons_zero, set_cons_succ, getElem_toArray, getElem_cons_zero, getElem_cons_succ]
      refine tkY 12 rfl (v := ?_) (.inl ⟨by rfl, ?_⟩) ?_
      case refine_2 => intro w9 hSw; (try dsimp only at hSw); go_simp; (try with_reducible rfl)
      try simp only [Act.put, setIfInBounds_toArray, set_cons_zero, set_cons_succ, getElem_toArray, getElem_cons_zero, getElem_cons_succ]
      refine wpAnyH_ready (rs := [13]) (by kernel_rfl) (by simp) ?_
      refine (AllReadyH.cons rfl (fun K hK => ?_) AllReadyH.nil)
      go_simp
      (with_reducible refine (show Calls Tryz.prog 22 #[.agg #[.int .i64 v1.h.kind, .int .i64 v1.h.n, .int .i64 v1.h.d, .string v1.h.name, .int .i64 v1.h.k, .slice v1.A v1.len v1.cap]] w262 (RetB (.int .i64 (DB : Nat)) w262) from by have h := eDepth_any Y v1 w262 R262n1.out OK1.out; rwa [HDB.out] at h).mono ?_)
      rintro e w263 ⟨rfl, HC263⟩
      have R263l := Lib.hid (R262l.out.trans (HC263.out.mono R262l.out.size))
      have R263r := Lib.hid (R262r.out.belowW HC263.out)
      have R263x := Lib.hid (R262x.out.belowW HC263.out)
      have R263b0 := Lib.hid (R262b0.out.belowW HC263.out)
      have R263b1 := Lib.hid (R262b1.out.belowW HC263.out)
      have R263n0 := Lib.hid (R262n0.out.belowW HC263.out)
      have R263n1 := Lib.hid (R262n1.out.belowW HC263.out)
      go_wp2_with fail
      clear hHeld
      refine hK.out _ _ ?_ (fun hHeld => ?_)
      case refine_1 => exact ⟨R263b0.out.cell 0, R263b0.out.cell 1, R263b0.out.cell 2, R263b0.out.cell 3, R263b0.out.cell 4, R263b0.out.cell 5, R263b1.out.cell 0, R263b1.out.cell 1, R263b1.out.cell 2, R263b1.out.cell 3, R263b1.out.cell 4, R263b1.out.cell 5⟩
      clear hK K
      try simp only [setIfInBounds_toArray, set_cons_zero, set_cons_succ]
      refine tkY 14 rfl (v := ?_) (.inl ⟨by rfl, ?_⟩) ?_
      case refine_2 => intro w9 hSw; (try dsimp only at hSw); go_simp; (try with_reducible rfl)
      try simp only [Act.put, setIfInBounds_toArray, set_cons_zero, set_cons_succ, getElem_toArray, getElem_cons_zero, getElem_cons_succ]
      refine tkY 15 rfl (v := ?_) (.inl ⟨by rfl, ?_⟩) ?_
      case refine_2 => intro w9 hSw; (try dsimp only at hSw); go_simp; (try with_reducible rfl)
      try simp only [Act.put, setIfInBounds_toArray, set_cons_zero, set_cons_succ, getElem_toArray, getElem_cons_zero, getElem_cons_succ]
      refine tkY 16 rfl (v := ?_) (.inl ⟨by rfl, ?_⟩) ?_
      case refine_2 => intro w9 hSw; (try dsimp only at hSw); go_simp; (try with_reducible rfl)
      try simp only [Act.put, setIfInBounds_toArray, set_cons_zero, set_cons_succ, getElem_toArray, getElem_cons_zero, getElem_cons_succ]
      refine tkY 17 rfl (v := _) (.inr ⟨by rfl, rfl⟩) ?_
      try simp only [Act.put, setIfInBounds_toArray, set_cons_zero, set_cons_succ, getElem_toArray, getElem_cons_zero, getElem_cons_succ]
      refine tkY 18 rfl (v := _) (.inr ⟨by rfl, rfl⟩) ?_
      try simp only [Act.put, setIfInBounds_toArray, set_cons_zero, set_cons_succ, getElem_toArray, getElem_cons_zero, getElem_cons_succ]
      refine tkY 19 rfl (v := _) (.inr ⟨by rfl, rfl⟩) ?_
      try simp only [Act.put, setIfInBounds_toArray, set_cons_zero, set_cons_succ, getElem_toArray, getElem_cons_zero, getElem_cons_succ]
      refine tkY 20 rfl (v := _) (.inr ⟨by rfl, rfl⟩) ?_
      try simp only [Act.put, setIfInBounds_toArray, set_cons_zero, set_cons_succ, getElem_toArray, getElem_cons_zero, getElem_cons_succ]
      refine tkY 21 rfl (v := _) (.inr ⟨by rfl, rfl⟩) ?_
      try simp only [Act.put, setIfInBounds_toArray, set_cons_zero, set_cons_succ, getElem_toArray, getElem_cons_zero, getElem_cons_succ]
      refine tkY 22 rfl (v := _) (.inr ⟨by rfl, rfl⟩) ?_
      try simp only [Act.put, setIfInBounds_toArray, set_cons_zero, set_cons_succ, getElem_toArray, getElem_cons_zero, getElem_cons_succ]
      refine tkY 23 rfl (v := ?_) (.inl ⟨by rfl, ?_⟩) ?_
      case refine_2 => intro w9 hSw; (try dsimp only at hSw); go_simp; (try with_reducible rfl)
      try simp only [Act.put, setIfInBounds_toArray, set_cons_zero, set_cons_succ, getElem_toArray, getElem_cons_zero, getElem_cons_succ]
      refine wpAnyH_done (by kernel_rfl) ?_ _
      go_wp2_with fail
      go_ret
      exact ⟨rfl, R263l⟩
    have dqb : decide ((17 : Int) < (DB : Int)) = false := decide_eq_false (by omega)
    have dqb' : decide (17 < DB) = false := decide_eq_false (by omega)
    by_cases hqs : 90 < SA + SB
    case pos =>
      have dqs : decide ((90 : Int) < (SA : Int) + (SB : Int)) = true := decide_eq_true (by omega)
      have dqs' : decide (90 < SA + SB) = true := decide_eq_true (by omega)
      have HR261 := Lib.hid (below_dr ww8)
      have R261l := Lib.hid (Z8l.out.trans (HR261.out.mono Z8l.out.size))
      have R261r := Lib.hid (Z8r.out.belowW HR261.out)
      have R261x := Lib.hid (Z8x.out.belowW HR261.out)
      have R261b0 := Lib.hid (Z8b0.out.belowW HR261.out)
      have R261b1 := Lib.hid (Nb18.out.belowW HR261.out)
      have R261n0 := Lib.hid (HN0.out.belowW HR261.out)
      have R261n1 := Lib.hid (HN1.out.belowW HR261.out)
      refine wp_region_held_drew (S := fun w' => w'.cell? ⟨ww5.heap.size, 0, none⟩ = some (.int .i64 v0.h.kind) ∧ w'.cell? ⟨ww5.heap.size, 1, none⟩ = some (.int .i64 v0.h.n) ∧ w'.cell? ⟨ww5.heap.size, 2, none⟩ = some (.int .i64 v0.h.d) ∧ w'.cell? ⟨ww5.heap.size, 3, none⟩ = some (.string v0.h.name) ∧ w'.cell? ⟨ww5.heap.size, 4, none⟩ = some (.int .i64 v0.h.k) ∧ w'.cell? ⟨ww5.heap.size, 5, none⟩ = some (.slice v0.A v0.len v0.cap) ∧ w'.cell? ⟨ww7.heap.size, 0, none⟩ = some (.int .i64 v1.h.kind) ∧ w'.cell? ⟨ww7.heap.size, 1, none⟩ = some (.int .i64 v1.h.n) ∧ w'.cell? ⟨ww7.heap.size, 2, none⟩ = some (.int .i64 v1.h.d) ∧ w'.cell? ⟨ww7.heap.size, 3, none⟩ = some (.string v1.h.name) ∧ w'.cell? ⟨ww7.heap.size, 4, none⟩ = some (.int .i64 v1.h.k) ∧ w'.cell? ⟨ww7.heap.size, 5, none⟩ = some (.slice v1.A v1.len v1.cap)) (by kernel_rfl) ?_ (fun hHeld => ?_)
      case refine_1 => exact ⟨R261b0.out.cell 0, R261b0.out.cell 1, R261b0.out.cell 2, R261b0.out.cell 3, R261b0.out.cell 4, R261b0.out.cell 5, R261b1.out.cell 0, R261b1.out.cell 1, R261b1.out.cell 2, R261b1.out.cell 3, R261b1.out.cell 4, R261b1.out.cell 5⟩
      obtain ⟨wd261, hwd⟩ : ∃ z9 : World, z9 = ww8.drew := ⟨_, rfl⟩
      rw [← hwd] at HR261 R261l R261r R261x R261b0 R261b1 R261n0 R261n1 hHeld ⊢
      clear hwd
      refine tkY 0 rfl (v := ?_) (.inl ⟨by rfl, ?_⟩) ?_
      case refine_2 => intro w9 hSw; (try dsimp only at hSw); go_simp; (try with_reducible rfl)
      try simp only [Act.put, setIfInBounds_toArray, set_cons_zero, set_cons_succ, getElem_toArray, getElem_cons_zero]
      refine tkY 1 rfl (v := ?_) (.inl ⟨by rfl, ?_⟩) ?_
      case refine_2 => intro w9 hSw; (try dsimp only at hSw); go_simp; (try with_reducible rfl)
      try simp only [Act.put, setIfInBounds_toArray, set_cons_zero, set_cons_succ, getElem_toArray, getElem_cons_zero, getElem_cons_succ]
      refine tkY 2 rfl (v := ?_) (.inl ⟨by rfl, ?_⟩) ?_
      case refine_2 => intro w9 hSw; (try dsimp only at hSw); go_simp; (try with_reducible rfl)
      try simp only [Act.put, setIfInBounds_toArray, set_cons_zero, set_cons_succ, getElem_toArray, getElem_cons_zero, getElem_cons_succ]
      refine tkY 3 rfl (v := ?_) (.inl ⟨by rfl, ?_⟩) ?_
      case refine_2 => intro w9 hSw; (try dsimp only at hSw); go_simp; (try with_reducible rfl)
      try simp only [Act.put, setIfInBounds_toArray, set_cons_zero, set_cons_succ, getElem_toArray, getElem_cons_zero, getElem_cons_succ]
      refine tkY 4 rfl (v := ?_) (.inl ⟨by rfl, ?_⟩) ?_
      case refine_2 => intro w9 hSw; (try dsimp only at hSw); go_simp; (try with_reducible rfl)
      try simp only [Act.put, setIfInBounds_toArray, set_cons_zero, set_cons_succ, getElem_toArray, getElem_cons_zero, getElem_cons_succ]
      refine tkY 5 rfl (v := ?_) (.inl ⟨by rfl, ?_⟩) ?_
      case refine_2 => intro w9 hSw; (try dsimp only at hSw); go_simp; (try with_reducible rfl)
      try simp only [Act.put, setIfInBounds_toArray, set_cons_zero, set_cons_succ, getElem_toArray, getElem_cons_zero, getElem_cons_succ]
      refine tkY 6 rfl (v := ?_) (.inl ⟨by rfl, ?_⟩) ?_
      case refine_2 => intro w9 hSw; (try dsimp only at hSw); go_simp; (try with_reducible rfl)
      try simp only [Act.put, setIfInBounds_toArray, set_cons_zero, set_cons_succ, getElem_toArray, getElem_cons_zero, getElem_cons_succ]
      refine tkY 7 rfl (v := ?_) (.inl ⟨by rfl, ?_⟩) ?_
      case refine_2 => intro w9 hSw; (try dsimp only at hSw); go_simp; (try with_reducible rfl)
      try simp only [Act.put, setIfInBounds_toArray, set_cons_zero, set_cons_succ, getElem_toArray, getElem_cons_zero, getElem_cons_succ]
      refine wpAnyH_ready (rs := [8]) (by kernel_rfl) (by simp) ?_
      refine (AllReadyH.cons rfl (fun K hK => ?_) AllReadyH.nil)
      go_simp
      (with_reducible refine (show Calls Tryz.prog 22 #[.agg #[.int .i64 v0.h.kind, .int .i64 v0.h.n, .int .i64 v0.h.d, .string v0.h.name, .int .i64 v0.h.k, .slice v0.A v0.len v0.cap]] wd261 (RetB (.int .i64 (DA : Nat)) wd261) from by have h := eDepth_any X v0 wd261 R261n0.out OK0.out; rwa [HDA.out] at h).mono ?_)
      rintro e w262 ⟨rfl, HC262⟩
      have R262l := Lib.hid (R261l.out.trans (HC262.out.mono R261l.out.size))
      have R262r := Lib.hid (R261r.out.belowW HC262.out)
      have R262x := Lib.hid (R261x.out.belowW HC262.out)
      have R262b0 := Lib.hid (R261b0.out.belowW HC262.out)
      have R262b1 := Lib.hid (R261b1.out.belowW HC262.out)
      have R262n0 := Lib.hid (R261n0.out.belowW HC262.out)
      have R262n1 := Lib.hid (R261n1.out.belowW HC262.out)
      go_wp2_with fail
      clear hHeld
      refine hK.out _ _ ?_ (fun hHeld => ?_)
      case refine_1 => exact ⟨R262b0.out.cell 0, R262b0.out.cell 1, R262b0.out.cell 2, R262b0.out.cell 3, R262b0.out.cell 4, R262b0.out.cell 5, R262b1.out.cell 0, R262b1.out.cell 1, R262b1.out.cell 2, R262b1.out.cell 3, R262b1.out.cell 4, R262b1.out.cell 5⟩
      clear hK K
      try simp only [setIfInBounds_toArray, set_cons_zero, set_cons_succ]
      refine tkY 9 rfl (v := ?_) (.inl ⟨by rfl, ?_⟩) ?_
      case refine_2 => intro w9 hSw; (try dsimp only at hSw); go_simp; (try with_reducible rfl)
      try simp only [Act.put, setIfInBounds_toArray, set_cons_zero, set_cons_succ, getElem_toArray, getElem_cons_zero, getElem_cons_succ]
      refine tkY 10 rfl (v := ?_) (.inl ⟨by rfl, ?_⟩) ?_
      case refine_2 => intro w9 hSw; (try dsimp only at hSw); go_simp; (try with_reducible rfl)
      try simp only [Act.put, setIfInBounds_toArray, set_cons_zero, set_cons_succ, getElem_toArray, getElem_cons_zero, getElem_cons_succ]
      refine tkY 11 rfl (v := ?_) (.inl ⟨by rfl, ?_⟩) ?_
      case refine_2 => intro w9 hSw; (try dsimp only at hSw); go_simp; (try with_reducible rfl)
      try simp only [Act.put, setIfInBounds_toArray, set_cons_zero, set_cons_succ, getElem_toArray, getElem_cons_zero, getElem_cons_succ]
      refine tkY 12 rfl (v := ?_) (.inl ⟨by rfl, ?_⟩) ?_
      case refine_2 => intro w9 hSw; (try dsimp only at hSw); go_simp; (try with_reducible rfl)
      try simp only [Act.put, setIfInBounds_toArray, set_cons_zero, set_cons_succ, getElem_toArray, getElem_cons_zero, getElem_cons_succ]
      refine wpAnyH_ready (rs := [13]) (by kernel_rfl) (by simp) ?_
      refine (AllReadyH.cons rfl (fun K hK => ?_) AllReadyH.nil)
      go_simp
      (with_reducible refine (show Calls Tryz.prog 22 #[.agg #[.int .i64 v1.h.kind, .int .i64 v1.h.n, .int .i64 v1.h.d, .string v1.h.name, .int .i64 v1.h.k, .slice v1.A v1.len v1.cap]] w262 (RetB (.int .i64 (DB : Nat)) w262) from by have h := eDepth_any Y v1 w262 R262n1.out OK1.out; rwa [HDB.out] at h).mono ?_)
      rintro e w263 ⟨rfl, HC263⟩
      have R263l := Lib.hid (R262l.out.trans (HC263.out.mono R262l.out.size))
      have R263r := Lib.hid (R262r.out.belowW HC263.out)
      have R263x := Lib.hid (R262x.out.belowW HC263.out)
      have R263b0 := Lib.hid (R262b0.out.belowW HC263.out)
      have R263b1 := Lib.hid (R262b1.out.belowW HC263.out)
      have R263n0 := Lib.hid (R262n0.out.belowW HC263.out)
      have R263n1 := Lib.hid (R262n1.out.belowW HC263.out)
      go_wp2_with fail
      clear hHeld
      refine hK.out _ _ ?_ (fun hHeld => ?_)
      case refine_1 => exact ⟨R263b0.out.cell 0, R263b0.out.cell 1, R263b0.out.cell 2, R263b0.out.cell 3, R263b0.out.cell 4, R263b0.out.cell 5, R263b1.out.cell 0, R263b1.out.cell 1, R263b1.out.cell 2, R263b1.out.cell 3, R263b1.out.cell 4, R263b1.out.cell 5⟩
      clear hK K
      try simp only [setIfInBounds_toArray, set_cons_zero, set_cons_succ]
      refine tkY 14 rfl (v := ?_) (.inl ⟨by rfl, ?_⟩) ?_
      case refine_2 => intro w9 hSw; (try dsimp only at hSw); go_simp; (try with_reducible rfl)
      try simp only [Act.put, setIfInBounds_toArray, set_cons_zero, set_cons_succ, getElem_toArray, getElem_cons_zero, getElem_cons_succ]
      refine tkY 15 rfl (v := ?_) (.inl ⟨by rfl, ?_⟩) ?_
      case refine_2 => intro w9 hSw; (try dsimp only at hSw); go_simp; (try with_reducible rfl)
      try simp only [Act.put, setIfInBounds_toArray, set_cons_zero, set_cons_succ, getElem_toArray, getElem_cons_zero, getElem_cons_succ]
      refine tkY 16 rfl (v := ?_) (.inl ⟨by rfl, ?_⟩) ?_
      case refine_2 => intro w9 hSw; (try dsimp only at hSw); go_simp; (try with_reducible rfl)
      try simp only [Act.put, setIfInBounds_toArray, set_cons_zero, set_cons_succ, getElem_toArray, getElem_cons_zero, getElem_cons_succ]
      refine tkY 17 rfl (v := ?_) (.inl ⟨by rfl, ?_⟩) ?_
      case refine_2 => intro w9 hSw; (try dsimp only at hSw); go_simp; (try with_reducible rfl)
      try simp only [Act.put, setIfInBounds_toArray, set_cons_zero, set_cons_succ, getElem_toArray, getElem_cons_zero, getElem_cons_succ]
      refine tkY 19 rfl (v := ?_) (.inl ⟨by rfl, ?_⟩) ?_
      case refine_2 => intro w9 hSw; (try dsimp only at hSw); go_simp; (try with_reducible rfl)
      try simp only [Act.put, setIfInBounds_toArray, set_cons_zero, set_cons_succ, getElem_toArray, getElem_cons_zero, getElem_cons_succ]
      refine wpAnyH_ready (rs := [18]) (by kernel_rfl) (by simp) ?_
      refine (AllReadyH.cons rfl (fun K hK => ?_) AllReadyH.nil)
      go_simp
      (with_reducible refine (show Calls Tryz.prog 23 #[.agg #[.int .i64 v0.h.kind, .int .i64 v0.h.n, .int .i64 v0.h.d, .string v0.h.name, .int .i64 v0.h.k, .slice v0.A v0.len v0.cap]] w263 (RetB (.int .i64 (SA : Nat)) w263) from by have h := eSize_any X v0 w263 R263n0.out OK0.out; rwa [HSA.out] at h).mono ?_)
      rintro e w264 ⟨rfl, HC264⟩
      have R264l := Lib.hid (R263l.out.trans (HC264.out.mono R263l.out.size))
      have R264r := Lib.hid (R263r.out.belowW HC264.out)
      have R264x := Lib.hid (R263x.out.belowW HC264.out)
      have R264b0 := Lib.hid (R263b0.out.belowW HC264.out)
      have R264b1 := Lib.hid (R263b1.out.belowW HC264.out)
      have R264n0 := Lib.hid (R263n0.out.belowW HC264.out)
      have R264n1 := Lib.hid (R263n1.out.belowW HC264.out)
      go_wp2_with fail
      clear hHeld
      refine hK.out _ _ ?_ (fun hHeld => ?_)
      case refine_1 => exact ⟨R264b0.out.cell 0, R264b0.out.cell 1, R264b0.out.cell 2, R264b0.out.cell 3, R264b0.out.cell 4, R264b0.out.cell 5, R264b1.out.cell 0, R264b1.out.cell 1, R264b1.out.cell 2, R264b1.out.cell 3, R264b1.out.cell 4, R264b1.out.cell 5⟩
      clear hK K
      try simp only [setIfInBounds_toArray, set_cons_zero, set_cons_succ]
      refine wpAnyH_ready (rs := [20]) (by kernel_rfl) (by simp) ?_
      refine (AllReadyH.cons rfl (fun K hK => ?_) AllReadyH.nil)
      go_simp
      (with_reducible refine (show Calls Tryz.prog 23 #[.agg #[.int .i64 v1.h.kind, .int .i64 v1.h.n, .int .i64 v1.h.d, .string v1.h.name, .int .i64 v1.h.k, .slice v1.A v1.len v1.cap]] w264 (RetB (.int .i64 (SB : Nat)) w264) from by have h := eSize_any Y v1 w264 R264n1.out OK1.out; rwa [HSB.out] at h).mono ?_)
      rintro e w265 ⟨rfl, HC265⟩
      have R265l := Lib.hid (R264l.out.trans (HC265.out.mono R264l.out.size))
      have R265r := Lib.hid (R264r.out.belowW HC265.out)
      have R265x := Lib.hid (R264x.out.belowW HC265.out)
      have R265b0 := Lib.hid (R264b0.out.belowW HC265.out)
      have R265b1 := Lib.hid (R264b1.out.belowW HC265.out)
      have R265n0 := Lib.hid (R264n0.out.belowW HC265.out)
      have R265n1 := Lib.hid (R264n1.out.belowW HC265.out)
      go_wp2_with fail
      clear hHeld
      refine hK.out _ _ ?_ (fun hHeld => ?_)
      case refine_1 => exact ⟨R265b0.out.cell 0, R265b0.out.cell 1, R265b0.out.cell 2, R265b0.out.cell 3, R265b0.out.cell 4, R265b0.out.cell 5, R265b1.out.cell 0, R265b1.out.cell 1, R265b1.out.cell 2, R265b1.out.cell 3, R265b1.out.cell 4, R265b1.out.cell 5⟩
      clear hK K
      try simp only [setIfInBounds_toArray, set_cons_zero, set_cons_succ]
      refine tkY 21 rfl (v := ?_) (.inl ⟨by rfl, ?_⟩) ?_
      case refine_2 => intro w9 hSw; (try dsimp only at hSw); go_simp; (try with_reducible rfl)
      try simp only [Act.put, setIfInBounds_toArray, set_cons_zero, set_cons_succ, getElem_toArray, getElem_cons_zero, getElem_cons_succ]
      refine tkY 22 rfl (v := ?_) (.inl ⟨by rfl, ?_⟩) ?_
      case refine_2 => intro w9 hSw; (try dsimp only at hSw); go_simp; (try with_reducible rfl)
      try simp only [Act.put, setIfInBounds_toArray, set_cons_zero, set_cons_succ, getElem_toArray, getElem_cons_zero, getElem_cons_succ]
      refine tkY 23 rfl (v := ?_) (.inl ⟨by rfl, ?_⟩) ?_
      case refine_2 => intro w9 hSw; (try dsimp only at hSw); go_simp; (try with_reducible rfl)
      try simp only [Act.put, setIfInBounds_toArray, set_cons_zero, set_cons_succ, getElem_toArray, getElem_cons_zero, getElem_cons_succ]
      refine wpAnyH_done (by kernel_rfl) ?_ _
      go_wp2_with fail
      go_ret
      exact ⟨rfl, R265l⟩
    have dqs : decide ((90 : Int) < (SA : Int) + (SB : Int)) = false := decide_eq_false (by omega)
    have dqs' : decide (90 < SA + SB) = false := decide_eq_false (by omega)
    have HR261 := Lib.hid (below_dr ww8)
    have R261l := Lib.hid (Z8l.out.trans (HR261.out.mono Z8l.out.size))
    have R261r := Lib.hid (Z8r.out.belowW HR261.out)
    have R261x := Lib.hid (Z8x.out.belowW HR261.out)
    have R261b0 := Lib.hid (Z8b0.out.belowW HR261.out)
    have R261b1 := Lib.hid (Nb18.out.belowW HR261.out)
    have R261n0 := Lib.hid (HN0.out.belowW HR261.out)
    have R261n1 := Lib.hid (HN1.out.belowW HR261.out)
    refine wp_region_held_drew (S := fun w' => w'.cell? ⟨ww5.heap.size, 0, none⟩ = some (.int .i64 v0.h.kind) ∧ w'.cell? ⟨ww5.heap.size, 1, none⟩ = some (.int .i64 v0.h.n) ∧ w'.cell? ⟨ww5.heap.size, 2, none⟩ = some (.int .i64 v0.h.d) ∧ w'.cell? ⟨ww5.heap.size, 3, none⟩ = some (.string v0.h.name) ∧ w'.cell? ⟨ww5.heap.size, 4, none⟩ = some (.int .i64 v0.h.k) ∧ w'.cell? ⟨ww5.heap.size, 5, none⟩ = some (.slice v0.A v0.len v0.cap) ∧ w'.cell? ⟨ww7.heap.size, 0, none⟩ = some (.int .i64 v1.h.kind) ∧ w'.cell? ⟨ww7.heap.size, 1, none⟩ = some (.int .i64 v1.h.n) ∧ w'.cell? ⟨ww7.heap.size, 2, none⟩ = some (.int .i64 v1.h.d) ∧ w'.cell? ⟨ww7.heap.size, 3, none⟩ = some (.string v1.h.name) ∧ w'.cell? ⟨ww7.heap.size, 4, none⟩ = some (.int .i64 v1.h.k) ∧ w'.cell? ⟨ww7.heap.size, 5, none⟩ = some (.slice v1.A v1.len v1.cap)) (by kernel_rfl) ?_ (fun hHeld => ?_)
    case refine_1 => exact ⟨R261b0.out.cell 0, R261b0.out.cell 1, R261b0.out.cell 2, R261b0.out.cell 3, R261b0.out.cell 4, R261b0.out.cell 5, R261b1.out.cell 0, R261b1.out.cell 1, R261b1.out.cell 2, R261b1.out.cell 3, R261b1.out.cell 4, R261b1.out.cell 5⟩
    obtain ⟨wd261, hwd⟩ : ∃ z9 : World, z9 = ww8.drew := ⟨_, rfl⟩
    rw [← hwd] at HR261 R261l R261r R261x R261b0 R261b1 R261n0 R261n1 hHeld ⊢
    clear hwd
    refine tkY 0 rfl (v := ?_) (.inl ⟨by rfl, ?_⟩) ?_
    case refine_2 => intro w9 hSw; (try dsimp only at hSw); go_simp; (try with_reducible rfl)
    try simp only [Act.put, setIfInBounds_toArray, set_cons_zero, set_cons_succ, getElem_toArray, getElem_cons_zero]
    refine tkY 1 rfl (v := ?_) (.inl ⟨by rfl, ?_⟩) ?_
    case refine_2 => intro w9 hSw; (try dsimp only at hSw); go_simp; (try with_reducible rfl)
    try simp only [Act.put, setIfInBounds_toArray, set_cons_zero, set_cons_succ, getElem_toArray, getElem_cons_zero, getElem_cons_succ]
    refine tkY 2 rfl (v := ?_) (.inl ⟨by rfl, ?_⟩) ?_
    case refine_2 => intro w9 hSw; (try dsimp only at hSw); go_simp; (try with_reducible rfl)
    try simp only [Act.put, setIfInBounds_toArray, set_cons_zero, set_cons_succ, getElem_toArray, getElem_cons_zero, getElem_cons_succ]
    refine tkY 3 rfl (v := ?_) (.inl ⟨by rfl, ?_⟩) ?_
    case refine_2 => intro w9 hSw; (try dsimp only at hSw); go_simp; (try with_reducible rfl)
    try simp only [Act.put, setIfInBounds_toArray, set_cons_zero, set_cons_succ, getElem_toArray, getElem_cons_zero, getElem_cons_succ]
    refine tkY 4 rfl (v := ?_) (.inl ⟨by rfl, ?_⟩) ?_
    case refine_2 => intro w9 hSw; (try dsimp only at hSw); go_simp; (try with_reducible rfl)
    try simp only [Act.put, setIfInBounds_toArray, set_cons_zero, set_cons_succ, getElem_toArray, getElem_cons_zero, getElem_cons_succ]
    refine tkY 5 rfl (v := ?_) (.inl ⟨by rfl, ?_⟩) ?_
    case refine_2 => intro w9 hSw; (try dsimp only at hSw); go_simp; (try with_reducible rfl)
    try simp only [Act.put, setIfInBounds_toArray, set_cons_zero, set_cons_succ, getElem_toArray, getElem_cons_zero, getElem_cons_succ]
    refine tkY 6 rfl (v := ?_) (.inl ⟨by rfl, ?_⟩) ?_
    case refine_2 => intro w9 hSw; (try dsimp only at hSw); go_simp; (try with_reducible rfl)
    try simp only [Act.put, setIfInBounds_toArray, set_cons_zero, set_cons_succ, getElem_toArray, getElem_cons_zero, getElem_cons_succ]
    refine tkY 7 rfl (v := ?_) (.inl ⟨by rfl, ?_⟩) ?_
    case refine_2 => intro w9 hSw; (try dsimp only at hSw); go_simp; (try with_reducible rfl)
    try simp only [Act.put, setIfInBounds_toArray, set_cons_zero, set_cons_succ, getElem_toArray, getElem_cons_zero, getElem_cons_succ]
    refine wpAnyH_ready (rs := [8]) (by kernel_rfl) (by simp) ?_
    refine (AllReadyH.cons rfl (fun K hK => ?_) AllReadyH.nil)
    go_simp
    (with_reducible refine (show Calls Tryz.prog 22 #[.agg #[.int .i64 v0.h.kind, .int .i64 v0.h.n, .int .i64 v0.h.d, .string v0.h.name, .int .i64 v0.h.k, .slice v0.A v0.len v0.cap]] wd261 (RetB (.int .i64 (DA : Nat)) wd261) from by have h := eDepth_any X v0 wd261 R261n0.out OK0.out; rwa [HDA.out] at h).mono ?_)
    rintro e w262 ⟨rfl, HC262⟩
    have R262l := Lib.hid (R261l.out.trans (HC262.out.mono R261l.out.size))
    have R262r := Lib.hid (R261r.out.belowW HC262.out)
    have R262x := Lib.hid (R261x.out.belowW HC262.out)
    have R262b0 := Lib.hid (R261b0.out.belowW HC262.out)
    have R262b1 := Lib.hid (R261b1.out.belowW HC262.out)
    have R262n0 := Lib.hid (R261n0.out.belowW HC262.out)
    have R262n1 := Lib.hid (R261n1.out.belowW HC262.out)
    go_wp2_with fail
    clear hHeld
    refine hK.out _ _ ?_ (fun hHeld => ?_)
    case refine_1 => exact ⟨R262b0.out.cell 0, R262b0.out.cell 1, R262b0.out.cell 2, R262b0.out.cell 3, R262b0.out.cell 4, R262b0.out.cell 5, R262b1.out.cell 0, R262b1.out.cell 1, R262b1.out.cell 2, R262b1.out.cell 3, R262b1.out.cell 4, R262b1.out.cell 5⟩
    clear hK K
    try simp only [setIfInBounds_toArray, set_cons_zero, set_cons_succ]
    refine tkY 9 rfl (v := ?_) (.inl ⟨by rfl, ?_⟩) ?_
    case refine_2 => intro w9 hSw; (try dsimp only at hSw); go_simp; (try with_reducible rfl)
    try simp only [Act.put, setIfInBounds_toArray, set_cons_zero, set_cons_succ, getElem_toArray, getElem_cons_zero, getElem_cons_succ]
    refine tkY 10 rfl (v := ?_) (.inl ⟨by rfl, ?_⟩) ?_
    case refine_2 => intro w9 hSw; (try dsimp only at hSw); go_simp; (try with_reducible rfl)
    try simp only [Act.put, setIfInBounds_toArray, set_cons_zero, set_cons_succ, getElem_toArray, getElem_cons_zero, getElem_cons_succ]
    refine tkY 11 rfl (v := ?_) (.inl ⟨by rfl, ?_⟩) ?_
    case refine_2 => intro w9 hSw; (try dsimp only at hSw); go_simp; (try with_reducible rfl)
    try simp only [Act.put, setIfInBounds_toArray, set_cons_zero, set_cons_succ, getElem_toArray, getElem_cons_zero, getElem_cons_succ]
    refine tkY 12 rfl (v := ?_) (.inl ⟨by rfl, ?_⟩) ?_
    case refine_2 => intro w9 hSw; (try dsimp only at hSw); go_simp; (try with_reducible rfl)
    try simp only [Act.put, setIfInBounds_toArray, set_cons_zero, set_cons_succ, getElem_toArray, getElem_cons_zero, getElem_cons_succ]
    refine wpAnyH_ready (rs := [13]) (by kernel_rfl) (by simp) ?_
    refine (AllReadyH.cons rfl (fun K hK => ?_) AllReadyH.nil)
    go_simp
    (with_reducible refine (show Calls Tryz.prog 22 #[.agg #[.int .i64 v1.h.kind, .int .i64 v1.h.n, .int .i64 v1.h.d, .string v1.h.name, .int .i64 v1.h.k, .slice v1.A v1.len v1.cap]] w262 (RetB (.int .i64 (DB : Nat)) w262) from by have h := eDepth_any Y v1 w262 R262n1.out OK1.out; rwa [HDB.out] at h).mono ?_)
    rintro e w263 ⟨rfl, HC263⟩
    have R263l := Lib.hid (R262l.out.trans (HC263.out.mono R262l.out.size))
    have R263r := Lib.hid (R262r.out.belowW HC263.out)
    have R263x := Lib.hid (R262x.out.belowW HC263.out)
    have R263b0 := Lib.hid (R262b0.out.belowW HC263.out)
    have R263b1 := Lib.hid (R262b1.out.belowW HC263.out)
    have R263n0 := Lib.hid (R262n0.out.belowW HC263.out)
    have R263n1 := Lib.hid (R262n1.out.belowW HC263.out)
    go_wp2_with fail
    clear hHeld
    refine hK.out _ _ ?_ (fun hHeld => ?_)
    case refine_1 => exact ⟨R263b0.out.cell 0, R263b0.out.cell 1, R263b0.out.cell 2, R263b0.out.cell 3, R263b0.out.cell 4, R263b0.out.cell 5, R263b1.out.cell 0, R263b1.out.cell 1, R263b1.out.cell 2, R263b1.out.cell 3, R263b1.out.cell 4, R263b1.out.cell 5⟩
    clear hK K
    try simp only [setIfInBounds_toArray, set_cons_zero, set_cons_succ]
    refine tkY 14 rfl (v := ?_) (.inl ⟨by rfl, ?_⟩) ?_
    case refine_2 => intro w9 hSw; (try dsimp only at hSw); go_simp; (try with_reducible rfl)
    try simp only [Act.put, setIfInBounds_toArray, set_cons_zero, set_cons_succ, getElem_toArray, getElem_cons_zero, getElem_cons_succ]
    refine tkY 15 rfl (v := ?_) (.inl ⟨by rfl, ?_⟩) ?_
    case refine_2 => intro w9 hSw; (try dsimp only at hSw); go_simp; (try with_reducible rfl)
    try simp only [Act.put, setIfInBounds_toArray, set_cons_zero, set_cons_succ, getElem_toArray, getElem_cons_zero, getElem_cons_succ]
    refine tkY 16 rfl (v := ?_) (.inl ⟨by rfl, ?_⟩) ?_
    case refine_2 => intro w9 hSw; (try dsimp only at hSw); go_simp; (try with_reducible rfl)
    try simp only [Act.put, setIfInBounds_toArray, set_cons_zero, set_cons_succ, getElem_toArray, getElem_cons_zero, getElem_cons_succ]
    refine tkY 17 rfl (v := ?_) (.inl ⟨by rfl, ?_⟩) ?_
    case refine_2 => intro w9 hSw; (try dsimp only at hSw); go_simp; (try with_reducible rfl)
    try simp only [Act.put, setIfInBounds_toArray, set_cons_zero, set_cons_succ, getElem_toArray, getElem_cons_zero, getElem_cons_succ]
    refine tkY 19 rfl (v := ?_) (.inl ⟨by rfl, ?_⟩) ?_
    case refine_2 => intro w9 hSw; (try dsimp only at hSw); go_simp; (try with_reducible rfl)
    try simp only [Act.put, setIfInBounds_toArray, set_cons_zero, set_cons_succ, getElem_toArray, getElem_cons_zero, getElem_cons_succ]
    refine wpAnyH_ready (rs := [18]) (by kernel_rfl) (by simp) ?_
    refine (AllReadyH.cons rfl (fun K hK => ?_) AllReadyH.nil)
    go_simp
    (with_reducible refine (show Calls Tryz.prog 23 #[.agg #[.int .i64 v0.h.kind, .int .i64 v0.h.n, .int .i64 v0.h.d, .string v0.h.name, .int .i64 v0.h.k, .slice v0.A v0.len v0.cap]] w263 (RetB (.int .i64 (SA : Nat)) w263) from by have h := eSize_any X v0 w263 R263n0.out OK0.out; rwa [HSA.out] at h).mono ?_)
    rintro e w264 ⟨rfl, HC264⟩
    have R264l := Lib.hid (R263l.out.trans (HC264.out.mono R263l.out.size))
    have R264r := Lib.hid (R263r.out.belowW HC264.out)
    have R264x := Lib.hid (R263x.out.belowW HC264.out)
    have R264b0 := Lib.hid (R263b0.out.belowW HC264.out)
    have R264b1 := Lib.hid (R263b1.out.belowW HC264.out)
    have R264n0 := Lib.hid (R263n0.out.belowW HC264.out)
    have R264n1 := Lib.hid (R263n1.out.belowW HC264.out)
    go_wp2_with fail
    clear hHeld
    refine hK.out _ _ ?_ (fun hHeld => ?_)
    case refine_1 => exact ⟨R264b0.out.cell 0, R264b0.out.cell 1, R264b0.out.cell 2, R264b0.out.cell 3, R264b0.out.cell 4, R264b0.out.cell 5, R264b1.out.cell 0, R264b1.out.cell 1, R264b1.out.cell 2, R264b1.out.cell 3, R264b1.out.cell 4, R264b1.out.cell 5⟩
    clear hK K
    try simp only [setIfInBounds_toArray, set_cons_zero, set_cons_succ]
    refine wpAnyH_ready (rs := [20]) (by kernel_rfl) (by simp) ?_
    refine (AllReadyH.cons rfl (fun K hK => ?_) AllReadyH.nil)
    go_simp
    (with_reducible refine (show Calls Tryz.prog 23 #[.agg #[.int .i64 v1.h.kind, .int .i64 v1.h.n, .int .i64 v1.h.d, .string v1.h.name, .int .i64 v1.h.k, .slice v1.A v1.len v1.cap]] w264 (RetB (.int .i64 (SB : Nat)) w264) from by have h := eSize_any Y v1 w264 R264n1.out OK1.out; rwa [HSB.out] at h).mono ?_)
    rintro e w265 ⟨rfl, HC265⟩
    have R265l := Lib.hid (R264l.out.trans (HC265.out.mono R264l.out.size))
    have R265r := Lib.hid (R264r.out.belowW HC265.out)
    have R265x := Lib.hid (R264x.out.belowW HC265.out)
    have R265b0 := Lib.hid (R264b0.out.belowW HC265.out)
    have R265b1 := Lib.hid (R264b1.out.belowW HC265.out)
    have R265n0 := Lib.hid (R264n0.out.belowW HC265.out)
    have R265n1 := Lib.hid (R264n1.out.belowW HC265.out)
    go_wp2_with fail
    clear hHeld
    refine hK.out _ _ ?_ (fun hHeld => ?_)
    case refine_1 => exact ⟨R265b0.out.cell 0, R265b0.out.cell 1, R265b0.out.cell 2, R265b0.out.cell 3, R265b0.out.cell 4, R265b0.out.cell 5, R265b1.out.cell 0, R265b1.out.cell 1, R265b1.out.cell 2, R265b1.out.cell 3, R265b1.out.cell 4, R265b1.out.cell 5⟩
    clear hK K
    try simp only [setIfInBounds_toArray, set_cons_zero, set_cons_succ]
    refine tkY 21 rfl (v := ?_) (.inl ⟨by rfl, ?_⟩) ?_
    case refine_2 => intro w9 hSw; (try dsimp only at hSw); go_simp; (try with_reducible rfl)
    try simp only [Act.put, setIfInBounds_toArray, set_cons_zero, set_cons_succ, getElem_toArray, getElem_cons_zero, getElem_cons_succ]
    refine tkY 22 rfl (v := ?_) (.inl ⟨by rfl, ?_⟩) ?_
    case refine_2 => intro w9 hSw; (try dsimp only at hSw); go_simp; (try with_reducible rfl)
    try simp only [Act.put, setIfInBounds_toArray, set_cons_zero, set_cons_succ, getElem_toArray, getElem_cons_zero, getElem_cons_succ]
    refine tkY 23 rfl (v := ?_) (.inl ⟨by rfl, ?_⟩) ?_
    case refine_2 => intro w9 hSw; (try dsimp only at hSw); go_simp; (try with_reducible rfl)
    try simp only [Act.put, setIfInBounds_toArray, set_cons_zero, set_cons_succ, getElem_toArray, getElem_cons_zero, getElem_cons_succ]
    refine wpAnyH_done (by kernel_rfl) ?_ _
    have CUT := Lib.hid (And.intro (show dpT 20 X ≤ 17 by rw [HDA.out]; omega) (And.intro (show dpT 20 Y ≤ 17 by rw [HDB.out]; omega) (show cR 20 X + cR 20 Y ≤ 90 by rw [HSA.out, HSB.out]; omega)))
    clear wss dqa dqa' dqb dqb' dqs dqs' hSA2 hSB2 hDA2 hDB2 HDA HDB HSA HSB
    have c0 : ¬ 9223372036854775807 < 1 + a0.size := by omega
    have c1 : ¬ 9223372036854775807 < 1 + a0.size + 1 := by omega
    have c2 : ¬ 9223372036854775807 < 1 + a1.size := by omega
    have c3 : ¬ 9223372036854775807 < 1 + a1.size + 1 := by omega
    go_upto_region 10 with (fail)
    obtain ⟨S, hS⟩ : ∃ z : ByteArray, z = ⟨#[40]⟩ ++ a0 ++ ⟨#[41]⟩ := ⟨_, rfl⟩
    rw [← hS]
    have LS := Lib.hid (show S.data.toList = pX a0.data.toList by rw [hS]; simp [pX])
    have zS : S.size ≤ 302 := by rw [hS]; simp only [ByteArray.size_append, show (⟨#[40]⟩ : ByteArray).size = 1 from rfl, show (⟨#[41]⟩ : ByteArray).size = 1 from rfl]; omega
    clear hS
    obtain ⟨U, hU⟩ : ∃ z : ByteArray, z = ⟨#[40]⟩ ++ a1 ++ ⟨#[41]⟩ := ⟨_, rfl⟩
    rw [← hU]
    have LU := Lib.hid (show U.data.toList = pX a1.data.toList by rw [hU]; simp [pX])
    have zU : U.size ≤ 302 := by rw [hU]; simp only [ByteArray.size_append, show (⟨#[40]⟩ : ByteArray).size = 1 from rfl, show (⟨#[41]⟩ : ByteArray).size = 1 from rfl]; omega
    clear hU
    clear c0 c1 c2 c3
    have c0 : ¬ 9223372036854775807 < 2 + S.size := by omega
    have c1 : ¬ 9223372036854775807 < 2 + S.size + 2 := by omega
    obtain ⟨V0, hV0⟩ : ∃ z : ByteArray, z = ⟨#[40, 40]⟩ ++ S ++ ⟨#[41, 41]⟩ := ⟨_, rfl⟩
    have LV0 := Lib.hid (show V0.data.toList = 40 :: 40 :: (pX a0.data.toList ++ [41, 41]) by rw [hV0]; simp [LS.out])
    have zV0 : V0.size ≤ maxLen := by rw [hV0]; simp only [ByteArray.size_append, show (⟨#[40, 40]⟩ : ByteArray).size = 2 from rfl, show (⟨#[41, 41]⟩ : ByteArray).size = 2 from rfl]; unfold maxLen; omega
    have CK0 := Lib.hid (chk_law I1.out N0.out I2.out (show a0.data.toList.length ≤ 1000 by rw [lszg]; omega))
    rw [← LV0.out] at CK0
    have HV0 := Lib.hid hV0
    clear hV0
    go_wp2_with fail
    rw [← HV0.out]
    clear c0 c1
    refine (pExpr V0 w265 zV0 R265r.out R265x.out).mono ?_
    rintro e ww49 ⟨y0, rfl, HB49, HO⟩
    clear HO
    have Z49l := Lib.hid (R265l.out.trans (HB49.out.mono R265l.out.size))
    have Z49r := Lib.hid (R265r.out.belowW HB49.out)
    have Z49x := Lib.hid (R265x.out.belowW HB49.out)
    have Z49b0 := Lib.hid (R265b0.out.belowW HB49.out)
    have Z49b1 := Lib.hid (R265b1.out.belowW HB49.out)
    have Z49n0 := Lib.hid (R265n0.out.belowW HB49.out)
    have Z49n1 := Lib.hid (R265n1.out.belowW HB49.out)
    obtain ⟨RC0, hRC0⟩ : ∃ z, z = exprR V0.data.toList := ⟨_, rfl⟩
    rw [← hRC0] at CK0 ⊢
    clear hRC0
    obtain ⟨⟨lc0, cc0, ec0⟩, oc0⟩ := RC0
    simp only at CK0 ⊢
    go_upto_region 11 with (fail)
    obtain ⟨ww50, hw9⟩ : ∃ z9 : World, z9 = ((ww49.alloc (Obj.cells #[.int .i64 y0.h.kind, .int .i64 y0.h.n, .int .i64 y0.h.d, .string y0.h.name, .int .i64 y0.h.k, .slice y0.A y0.len y0.cap] 29)).alloc (Obj.cells #[.int .i64 (lc0 : Nat), .int .i64 (cc0 : Nat)] 40)) := ⟨_, rfl⟩
    have HB50 := Lib.hid (show Below ww49.heap.size ww49 ww50 by rw [hw9]; exact (below_box _ _).trans ((below_box _ _).mono (by simp)))
    have Ny050 := Lib.hid (show Blk ww50 (ww49.heap.size) 29 #[.int .i64 y0.h.kind, .int .i64 y0.h.n, .int .i64 y0.h.d, .string y0.h.name, .int .i64 y0.h.k, .slice y0.A y0.len y0.cap] by rw [hw9]; exact Blk.belowW (Blk.new ww49 29 #[.int .i64 y0.h.kind, .int .i64 y0.h.n, .int .i64 y0.h.d, .string y0.h.name, .int .i64 y0.h.k, .slice y0.A y0.len y0.cap]) (below_box _ _))
    have Nq050 := Lib.hid (show Blk ww50 (ww49.heap.size + 1) 40 #[.int .i64 (lc0 : Nat), .int .i64 (cc0 : Nat)] by rw [hw9]; exact (by have := Blk.new (ww49.alloc (Obj.cells #[.int .i64 y0.h.kind, .int .i64 y0.h.n, .int .i64 y0.h.d, .string y0.h.name, .int .i64 y0.h.k, .slice y0.A y0.len y0.cap] 29)) 40 #[.int .i64 (lc0 : Nat), .int .i64 (cc0 : Nat)]; simpa using this))
    rw [← hw9]
    clear hw9
    have Z50l := Lib.hid (Z49l.out.trans (HB50.out.mono Z49l.out.size))
    have Z50r := Lib.hid (Z49r.out.belowW HB50.out)
    have Z50x := Lib.hid (Z49x.out.belowW HB50.out)
    have Z50b0 := Lib.hid (Z49b0.out.belowW HB50.out)
    have Z50b1 := Lib.hid (Z49b1.out.belowW HB50.out)
    have Z50n0 := Lib.hid (Z49n0.out.belowW HB50.out)
    have Z50n1 := Lib.hid (Z49n1.out.belowW HB50.out)
    rcases CK0.out with ⟨hk, pt0⟩ | hk
    case inr =>
      subst hk
      go_wp2_with fail
      go_ret
      exact ⟨rfl, Z50l⟩
    subst hk
    have PT0 := Lib.hid pt0
    clear pt0 CK0
    have c0 : ¬ 9223372036854775807 < 2 + U.size := by omega
    have c1 : ¬ 9223372036854775807 < 2 + U.size + 2 := by omega
    obtain ⟨V1, hV1⟩ : ∃ z : ByteArray, z = ⟨#[40, 40]⟩ ++ U ++ ⟨#[41, 41]⟩ := ⟨_, rfl⟩
    have LV1 := Lib.hid (show V1.data.toList = 40 :: 40 :: (pX a1.data.toList ++ [41, 41]) by rw [hV1]; simp [LU.out])
    have zV1 : V1.size ≤ maxLen := by rw [hV1]; simp only [ByteArray.size_append, show (⟨#[40, 40]⟩ : ByteArray).size = 2 from rfl, show (⟨#[41, 41]⟩ : ByteArray).size = 2 from rfl]; unfold maxLen; omega
    have CK1 := Lib.hid (chk_law I4.out N1.out I5.out (show a1.data.toList.length ≤ 1000 by rw [lszg]; omega))
    rw [← LV1.out] at CK1
    have HV1 := Lib.hid hV1
    clear hV1
    go_wp2_with fail
    rw [← HV1.out]
    clear c0 c1
    refine (pExpr V1 ww50 zV1 Z50r.out Z50x.out).mono ?_
    rintro e ww51 ⟨y1, rfl, HB51, HO⟩
    clear HO
    have Z51l := Lib.hid (Z50l.out.trans (HB51.out.mono Z50l.out.size))
    have Z51r := Lib.hid (Z50r.out.belowW HB51.out)
    have Z51x := Lib.hid (Z50x.out.belowW HB51.out)
    have Z51b0 := Lib.hid (Z50b0.out.belowW HB51.out)
    have Z51b1 := Lib.hid (Z50b1.out.belowW HB51.out)
    have Z51n0 := Lib.hid (Z50n0.out.belowW HB51.out)
    have Z51n1 := Lib.hid (Z50n1.out.belowW HB51.out)
    obtain ⟨RC1, hRC1⟩ : ∃ z, z = exprR V1.data.toList := ⟨_, rfl⟩
    rw [← hRC1] at CK1 ⊢
    clear hRC1
    obtain ⟨⟨lc1, cc1, ec1⟩, oc1⟩ := RC1
    simp only at CK1 ⊢
    go_upto_region 14 with (fail)
    obtain ⟨ww52, hw9⟩ : ∃ z9 : World, z9 = ((ww51.alloc (Obj.cells #[.int .i64 y1.h.kind, .int .i64 y1.h.n, .int .i64 y1.h.d, .string y1.h.name, .int .i64 y1.h.k, .slice y1.A y1.len y1.cap] 29)).alloc (Obj.cells #[.int .i64 (lc1 : Nat), .int .i64 (cc1 : Nat)] 40)) := ⟨_, rfl⟩
    have HB52 := Lib.hid (show Below ww51.heap.size ww51 ww52 by rw [hw9]; exact (below_box _ _).trans ((below_box _ _).mono (by simp)))
    have Ny152 := Lib.hid (show Blk ww52 (ww51.heap.size) 29 #[.int .i64 y1.h.kind, .int .i64 y1.h.n, .int .i64 y1.h.d, .string y1.h.name, .int .i64 y1.h.k, .slice y1.A y1.len y1.cap] by rw [hw9]; exact Blk.belowW (Blk.new ww51 29 #[.int .i64 y1.h.kind, .int .i64 y1.h.n, .int .i64 y1.h.d, .string y1.h.name, .int .i64 y1.h.k, .slice y1.A y1.len y1.cap]) (below_box _ _))
    have Nq152 := Lib.hid (show Blk ww52 (ww51.heap.size + 1) 40 #[.int .i64 (lc1 : Nat), .int .i64 (cc1 : Nat)] by rw [hw9]; exact (by have := Blk.new (ww51.alloc (Obj.cells #[.int .i64 y1.h.kind, .int .i64 y1.h.n, .int .i64 y1.h.d, .string y1.h.name, .int .i64 y1.h.k, .slice y1.A y1.len y1.cap] 29)) 40 #[.int .i64 (lc1 : Nat), .int .i64 (cc1 : Nat)]; simpa using this))
    rw [← hw9]
    clear hw9
    have Z52l := Lib.hid (Z51l.out.trans (HB52.out.mono Z51l.out.size))
    have Z52r := Lib.hid (Z51r.out.belowW HB52.out)
    have Z52x := Lib.hid (Z51x.out.belowW HB52.out)
    have Z52b0 := Lib.hid (Z51b0.out.belowW HB52.out)
    have Z52b1 := Lib.hid (Z51b1.out.belowW HB52.out)
    have Z52n0 := Lib.hid (Z51n0.out.belowW HB52.out)
    have Z52n1 := Lib.hid (Z51n1.out.belowW HB52.out)
    rcases CK1.out with ⟨hk, pt1⟩ | hk
    case inr =>
      subst hk
      go_wp2_with fail
      go_ret
      exact ⟨rfl, Z52l⟩
    subst hk
    have PT1 := Lib.hid pt1
    clear pt1 CK1
    obtain ⟨cb00, _, cb01, _, cb02, _, cb03, _, cb04, _, cb05, _⟩ := Z52b0.out.all6
    go_upto_region 17 with (fail)
    obtain ⟨ww53, hw9⟩ : ∃ z9 : World, z9 = ((ww52.alloc (Obj.cells #[.int .i64 v0.h.kind, .int .i64 v0.h.n, .int .i64 v0.h.d, .string v0.h.name, .int .i64 v0.h.k, .slice v0.A v0.len v0.cap] 29)).alloc (Obj.cells #[.int .i64 8, .int .i64 0, .int .i64 0, .string ⟨#[]⟩, .int .i64 3, .slice (some ⟨ww52.heap.size, 0, none⟩) 1 1] 29)) := ⟨_, rfl⟩
    have HB53 := Lib.hid (show Below ww52.heap.size ww52 ww53 by rw [hw9]; exact (below_box _ _).trans ((below_box _ _).mono (by simp)))
    have Nsl53 := Lib.hid (show Blk ww53 (ww52.heap.size) 29 #[.int .i64 v0.h.kind, .int .i64 v0.h.n, .int .i64 v0.h.d, .string v0.h.name, .int .i64 v0.h.k, .slice v0.A v0.len v0.cap] by rw [hw9]; exact Blk.belowW (Blk.new ww52 29 #[.int .i64 v0.h.kind, .int .i64 v0.h.n, .int .i64 v0.h.d, .string v0.h.name, .int .i64 v0.h.k, .slice v0.A v0.len v0.cap]) (below_box _ _))
    have Npw53 := Lib.hid (show Blk ww53 (ww52.heap.size + 1) 29 #[.int .i64 8, .int .i64 0, .int .i64 0, .string ⟨#[]⟩, .int .i64 3, .slice (some ⟨ww52.heap.size, 0, none⟩) 1 1] by rw [hw9]; exact (by have := Blk.new (ww52.alloc (Obj.cells #[.int .i64 v0.h.kind, .int .i64 v0.h.n, .int .i64 v0.h.d, .string v0.h.name, .int .i64 v0.h.k, .slice v0.A v0.len v0.cap] 29)) 29 #[.int .i64 8, .int .i64 0, .int .i64 0, .string ⟨#[]⟩, .int .i64 3, .slice (some ⟨ww52.heap.size, 0, none⟩) 1 1]; simpa using this))
    rw [← hw9]
    clear hw9
    have Z53l := Lib.hid (Z52l.out.trans (HB53.out.mono Z52l.out.size))
    have Z53r := Lib.hid (Z52r.out.belowW HB53.out)
    have Z53x := Lib.hid (Z52x.out.belowW HB53.out)
    have Z53b0 := Lib.hid (Z52b0.out.belowW HB53.out)
    have Z53b1 := Lib.hid (Z52b1.out.belowW HB53.out)
    have Z53n0 := Lib.hid (Z52n0.out.belowW HB53.out)
    have Z53n1 := Lib.hid (Z52n1.out.belowW HB53.out)
    clear cb00 cb01 cb02 cb03 cb04 cb05
    have HPW := Lib.hid (show InE ww53 (powE 3 X) ⟨⟨8, 0, 0, ⟨#[]⟩, 3⟩, some ⟨ww52.heap.size, 0, none⟩, 1, 1⟩ from in_blk1 8 3 (x := v0) Nsl53.out (by decide) (by decide) Z53n0.out)
    obtain ⟨gs, hgs⟩ : ∃ z, z = ww52.heap.size := ⟨_, rfl⟩
    rw [← hgs] at Npw53 HPW ⊢
    clear hgs
    obtain ⟨vp, hvp⟩ : ∃ z : Nd, z = ⟨⟨8, 0, 0, ⟨#[]⟩, 3⟩, some ⟨gs, 0, none⟩, 1, 1⟩ := ⟨_, rfl⟩
    rw [← hvp] at HPW
    have HPB := Lib.hid (show Blk ww53 (gs + 1) 29 #[.int .i64 vp.h.kind, .int .i64 vp.h.n, .int .i64 vp.h.d, .string vp.h.name, .int .i64 vp.h.k, .slice vp.A vp.len vp.cap] by rw [hvp]; exact Npw53.out)
    clear hvp
    have cc0 : ¬ 9223372036854775807 < 1 + S.size := by omega
    have cc1 : ¬ 9223372036854775807 < 1 + S.size + 1 := by omega
    have cc2 : ¬ 9223372036854775807 < S.size + 1 := by omega
    have cc3 : ¬ 9223372036854775807 < S.size + 1 + U.size := by omega
    have cc4 : ¬ 9223372036854775807 < S.size + 1 + U.size + 1 := by omega
    have cc5 : ¬ 9223372036854775807 < S.size + 1 + U.size + 1 + S.size := by omega
    have cc6 : ¬ 9223372036854775807 < S.size + 2 := by omega
    have cc7 : ¬ 9223372036854775807 < 1 + S.size + 3 := by omega
    have cc8 : ¬ 9223372036854775807 < 1 + S.size + 3 + U.size := by omega
    have cc9 : ¬ 9223372036854775807 < 3 + S.size := by omega
    have cc10 : ¬ 9223372036854775807 < 4 + U.size := by omega
    have cc11 : ¬ 9223372036854775807 < 4 + U.size + 4 := by omega
    have cc12 : ¬ 9223372036854775807 < 4 + U.size + 4 + S.size := by omega
    have cc13 : ¬ 9223372036854775807 < 3 + S.size + 4 := by omega
    have cc14 : ¬ 9223372036854775807 < 3 + S.size + 4 + U.size := by omega
    have HR401 := Lib.hid (below_dr ww53)
    have R401l := Lib.hid (Z53l.out.trans (HR401.out.mono Z53l.out.size))
    have R401r := Lib.hid (Z53r.out.belowW HR401.out)
    have R401x := Lib.hid (Z53x.out.belowW HR401.out)
    have R401b0 := Lib.hid (Z53b0.out.belowW HR401.out)
    have R401b1 := Lib.hid (Z53b1.out.belowW HR401.out)
    have R401pw := Lib.hid (HPB.out.belowW HR401.out)
    have R401n0 := Lib.hid (Z53n0.out.belowW HR401.out)
    have R401n1 := Lib.hid (Z53n1.out.belowW HR401.out)
    have R401np := Lib.hid (HPW.out.belowW HR401.out)
    refine wp_region_held_drew (S := fun w' => w'.cell? ⟨ww5.heap.size, 0, none⟩ = some (.int .i64 v0.h.kind) ∧ w'.cell? ⟨ww5.heap.size, 1, none⟩ = some (.int .i64 v0.h.n) ∧ w'.cell? ⟨ww5.heap.size, 2, none⟩ = some (.int .i64 v0.h.d) ∧ w'.cell? ⟨ww5.heap.size, 3, none⟩ = some (.string v0.h.name) ∧ w'.cell? ⟨ww5.heap.size, 4, none⟩ = some (.int .i64 v0.h.k) ∧ w'.cell? ⟨ww5.heap.size, 5, none⟩ = some (.slice v0.A v0.len v0.cap) ∧ w'.cell? ⟨ww7.heap.size, 0, none⟩ = some (.int .i64 v1.h.kind) ∧ w'.cell? ⟨ww7.heap.size, 1, none⟩ = some (.int .i64 v1.h.n) ∧ w'.cell? ⟨ww7.heap.size, 2, none⟩ = some (.int .i64 v1.h.d) ∧ w'.cell? ⟨ww7.heap.size, 3, none⟩ = some (.string v1.h.name) ∧ w'.cell? ⟨ww7.heap.size, 4, none⟩ = some (.int .i64 v1.h.k) ∧ w'.cell? ⟨ww7.heap.size, 5, none⟩ = some (.slice v1.A v1.len v1.cap) ∧ w'.cell? ⟨gs + 1, 0, none⟩ = some (.int .i64 vp.h.kind) ∧ w'.cell? ⟨gs + 1, 1, none⟩ = some (.int .i64 vp.h.n) ∧ w'.cell? ⟨gs + 1, 2, none⟩ = some (.int .i64 vp.h.d) ∧ w'.cell? ⟨gs + 1, 3, none⟩ = some (.string vp.h.name) ∧ w'.cell? ⟨gs + 1, 4, none⟩ = some (.int .i64 vp.h.k) ∧ w'.cell? ⟨gs + 1, 5, none⟩ = some (.slice vp.A vp.len vp.cap)) (by kernel_rfl) ?_ (fun hHeld => ?_)
    case refine_1 => exact ⟨R401b0.out.cell 0, R401b0.out.cell 1, R401b0.out.cell 2, R401b0.out.cell 3, R401b0.out.cell 4, R401b0.out.cell 5, R401b1.out.cell 0, R401b1.out.cell 1, R401b1.out.cell 2, R401b1.out.cell 3, R401b1.out.cell 4, R401b1.out.cell 5, R401pw.out.cell 0, R401pw.out.cell 1, R401pw.out.cell 2, R401pw.out.cell 3, R401pw.out.cell 4, R401pw.out.cell 5⟩
    obtain ⟨wd401, hwd⟩ : ∃ z9 : World, z9 = ww53.drew := ⟨_, rfl⟩
    rw [← hwd] at HR401 R401l R401r R401x R401b0 R401b1 R401pw R401n0 R401n1 R401np hHeld ⊢
    clear hwd
    refine nmS 121 (fun HBR => ?_)
    refine tkD 0 113 1 HBR ?_
    refine tkD 1 114 3 HBR ?_
    refine tkD 2 115 7 HBR ?_
    refine tkD 3 116 15 HBR ?_
    refine tkD 4 117 31 HBR ?_
    refine tkD 5 118 63 HBR ?_
    refine tkD 6 119 127 HBR ?_
    refine tkD 7 120 255 HBR ?_
    refine tkD 8 121 511 HBR ?_
    refine tkD 9 122 1023 HBR ?_
    refine tkD 10 123 2047 HBR ?_
    refine tkD 11 124 4095 HBR ?_
    refine tkD 12 125 8191 HBR ?_
    refine tkD 13 126 16383 HBR ?_
    refine tkD 14 127 32767 HBR ?_
    refine tkD 17 130 163839 HBR ?_
    refine tkD 18 131 425983 HBR ?_
    refine tkD 19 132 950271 HBR ?_
    refine tkD 20 133 1998847 HBR ?_
    refine tkD 21 134 4095999 HBR ?_
    refine tkD 22 135 8290303 HBR ?_
    refine tkD 23 136 16678911 HBR ?_
    refine tkD 24 137 33456127 HBR ?_
    refine tkD 25 138 67010559 HBR ?_
    refine tkD 26 139 134119423 HBR ?_
    refine tkD 27 140 268337151 HBR ?_
    refine tkD 28 141 536772607 HBR ?_
    refine tkD 32 145 4831739903 HBR ?_
    refine tkD 33 146 13421674495 HBR ?_
    refine tkD 34 147 30601543679 HBR ?_
    refine tkD 35 148 64961282047 HBR ?_
    refine tkD 36 149 133680758783 HBR ?_
    refine tkD 37 150 271119712255 HBR ?_
    refine tkD 38 151 545997619199 HBR ?_
    refine tkD 39 152 1095753433087 HBR ?_
    refine tkD 40 153 2195265060863 HBR ?_
    refine tkD 41 154 4394288316415 HBR ?_
    refine tkD 42 155 8792334827519 HBR ?_
    refine tkD 44 157 26384520871935 HBR ?_
    refine tkD 47 160 167122009227263 HBR ?_
    refine tkD 48 161 448596985937919 HBR ?_
    refine tkD 49 162 1011546939359231 HBR ?_
    refine tkD 50 163 2137446846201855 HBR ?_
    refine tkD 51 164 4389246659887103 HBR ?_
    refine tkD 52 165 8892846287257599 HBR ?_
    refine tkD 53 166 17900045541998591 HBR ?_
    refine tkD 54 167 35914444051480575 HBR ?_
    refine tkD 55 168 71943241070444543 HBR ?_
    refine tkD 56 169 144000835108372479 HBR ?_
    refine tkD 57 170 288116023184228351 HBR ?_
    refine tkD 59 172 864576775487651839 HBR ?_
    refine tkD 62 175 5476262793915039743 HBR ?_
    refine tkD 63 176 14699634830769815551 HBR ?_
    refine tkD 64 177 33146378904479367167 HBR ?_
    refine tkD 65 178 70039867051898470399 HBR ?_
    refine tkD 68 181 365187772231251296255 HBR ?_
    refine tkD 69 182 955483582589956947967 HBR ?_
    refine tkD 70 183 2136075203307368251391 HBR ?_
    refine tkD 71 184 4497258444742190858239 HBR ?_
    refine tkD 72 185 9219624927611836071935 HBR ?_
    refine tkD 73 186 18664357893351126499327 HBR ?_
    refine tkD 74 187 37553823824829707354111 HBR ?_
    refine tkD 75 188 75332755687786869063679 HBR ?_
    refine tkD 76 189 150890619413701192482815 HBR ?_
    refine tkD 77 190 302006346865529839321087 HBR ?_
    refine tkD 78 191 604237801769187132997631 HBR ?_
    refine tkD 79 192 1208700711576501720350719 HBR ?_
    refine tkD 81 194 3626552350805760069763071 HBR ?_
    refine tkD 84 197 22969365464639826865061887 HBR ?_
    refine tkD 85 198 61654991692307960455659519 HBR ?_
    refine tkD 86 199 139026244147644227636854783 HBR ?_
    refine tkD 87 200 293768749058316761999245311 HBR ?_
    refine tkD 90 203 1531708788343697036898369535 HBR ?_
    refine tkD 91 204 4007588866914457586696617983 HBR ?_
    refine tkD 92 205 8959349024055978686293114879 HBR ?_
    refine tkD 93 206 18862869338339020885486108671 HBR ?_
    refine tkD 94 207 38669909966905105283872096255 HBR ?_
    refine tkD 95 208 78283991224037274080644071423 HBR ?_
    refine tkD 96 209 157512153738301611674188021759 HBR ?_
    refine tkD 97 210 315968478766830286861275922431 HBR ?_
    refine tkD 99 212 949793778880944987609627525119 HBR ?_
    refine tkD 100 213 2217444379109174389106330730495 HBR ?_
    refine tkD 104 217 22499853982760844813053582016511 HBR ?_
    refine tkD 105 218 63064673190064185660948084588543 HBR ?_
    refine tkD 106 219 144194311604670867356737089732607 HBR ?_
    refine tkD 107 220 306453588433884230748315100020735 HBR ?_
    refine tkD 108 221 630972142092310957531471120596991 HBR ?_
    refine tkD 109 222 1280009249409164411097783161749503 HBR ?_
    refine tkD 110 223 2578083464042871318230407244054527 HBR ?_
    refine tkD 111 224 5174231893310285132495655408664575 HBR ?_
    refine tkD 113 226 15558825610379940389556648067104767 HBR ?_
    refine tkD 114 227 36328013044519250903678633383985151 HBR ?_
    refine tkD 120 233 1365556008829435123807485693664329727 HBR ?_
    refine rdD (rs := [15]) HBR ?_
    refine (AllReadyH.cons rfl (fun K hK => ?_) AllReadyH.nil)
    go_simp
    (with_reducible refine (show Calls Tryz.prog 24 #[.int .i64 3, .agg #[.int .i64 v0.h.kind, .int .i64 v0.h.n, .int .i64 v0.h.d, .string v0.h.name, .int .i64 v0.h.k, .slice v0.A v0.len v0.cap], .agg #[.int .i64 v1.h.kind, .int .i64 v1.h.n, .int .i64 v1.h.d, .string v1.h.name, .int .i64 v1.h.k, .slice v1.A v1.len v1.cap]] wd401 _ from g2_any 3 X Y v0 v1 wd401 (by decide) R401n0.out R401n1.out).mono ?_)
    rintro e w402 ⟨z3, rfl, HZ15, HC402⟩
    have R402l := Lib.hid (R401l.out.trans (HC402.out.mono R401l.out.size))
    have R402r := Lib.hid (R401r.out.belowW HC402.out)
    have R402x := Lib.hid (R401x.out.belowW HC402.out)
    have R402b0 := Lib.hid (R401b0.out.belowW HC402.out)
    have R402b1 := Lib.hid (R401b1.out.belowW HC402.out)
    have R402pw := Lib.hid (R401pw.out.belowW HC402.out)
    have R402n0 := Lib.hid (R401n0.out.belowW HC402.out)
    have R402n1 := Lib.hid (R401n1.out.belowW HC402.out)
    have R402np := Lib.hid (R401np.out.belowW HC402.out)
    have R402iz3 := Lib.hid (HZ15.out)
    go_wp2_with fail
    clear hHeld
    refine hK.out _ _ ?_ (fun hHeld => ?_)
    case refine_1 => exact ⟨R402b0.out.cell 0, R402b0.out.cell 1, R402b0.out.cell 2, R402b0.out.cell 3, R402b0.out.cell 4, R402b0.out.cell 5, R402b1.out.cell 0, R402b1.out.cell 1, R402b1.out.cell 2, R402b1.out.cell 3, R402b1.out.cell 4, R402b1.out.cell 5, R402pw.out.cell 0, R402pw.out.cell 1, R402pw.out.cell 2, R402pw.out.cell 3, R402pw.out.cell 4, R402pw.out.cell 5⟩
    clear hK K
    refine nmL 15 1365556008829435123807485693664362495 ?_
    refine tkD 16 129 1365556008829435123807485693664428031 HBR ?_
    refine rdD (rs := [29]) HBR ?_
    refine (AllReadyH.cons rfl (fun K hK => ?_) AllReadyH.nil)
    go_simp
    (with_reducible refine (show Calls Tryz.prog 24 #[.int .i64 5, .agg #[.int .i64 v1.h.kind, .int .i64 v1.h.n, .int .i64 v1.h.d, .string v1.h.name, .int .i64 v1.h.k, .slice v1.A v1.len v1.cap], .agg #[.int .i64 v0.h.kind, .int .i64 v0.h.n, .int .i64 v0.h.d, .string v0.h.name, .int .i64 v0.h.k, .slice v0.A v0.len v0.cap]] w402 _ from g2_any 5 Y X v1 v0 w402 (by decide) R402n1.out R402n0.out).mono ?_)
    rintro e w403 ⟨y4, rfl, HZ29, HC403⟩
    have R403l := Lib.hid (R402l.out.trans (HC403.out.mono R402l.out.size))
    have R403r := Lib.hid (R402r.out.belowW HC403.out)
    have R403x := Lib.hid (R402x.out.belowW HC403.out)
    have R403b0 := Lib.hid (R402b0.out.belowW HC403.out)
    have R403b1 := Lib.hid (R402b1.out.belowW HC403.out)
    have R403pw := Lib.hid (R402pw.out.belowW HC403.out)
    have R403n0 := Lib.hid (R402n0.out.belowW HC403.out)
    have R403n1 := Lib.hid (R402n1.out.belowW HC403.out)
    have R403np := Lib.hid (R402np.out.belowW HC403.out)
    have R403iz3 := Lib.hid (R402iz3.out.belowW HC403.out)
    have R403iy4 := Lib.hid (HZ29.out)
    go_wp2_with fail
    clear hHeld
    refine hK.out _ _ ?_ (fun hHeld => ?_)
    case refine_1 => exact ⟨R403b0.out.cell 0, R403b0.out.cell 1, R403b0.out.cell 2, R403b0.out.cell 3, R403b0.out.cell 4, R403b0.out.cell 5, R403b1.out.cell 0, R403b1.out.cell 1, R403b1.out.cell 2, R403b1.out.cell 3, R403b1.out.cell 4, R403b1.out.cell 5, R403pw.out.cell 0, R403pw.out.cell 1, R403pw.out.cell 2, R403pw.out.cell 3, R403pw.out.cell 4, R403pw.out.cell 5⟩
    clear hK K
    refine nmL 29 1365556008829435123807485694201298943 ?_
    refine rdD (rs := [30]) HBR ?_
    refine (AllReadyH.cons rfl (fun K hK => ?_) AllReadyH.nil)
    go_simp
    (with_reducible refine (show Calls Tryz.prog 24 #[.int .i64 4, .agg #[.int .i64 v0.h.kind, .int .i64 v0.h.n, .int .i64 v0.h.d, .string v0.h.name, .int .i64 v0.h.k, .slice v0.A v0.len v0.cap], .agg #[.int .i64 y4.h.kind, .int .i64 y4.h.n, .int .i64 y4.h.d, .string y4.h.name, .int .i64 y4.h.k, .slice y4.A y4.len y4.cap]] w403 _ from g2_any 4 X (opE 5 [Y, X]) v0 y4 w403 (by decide) R403n0.out R403iy4.out).mono ?_)
    rintro e w404 ⟨z4, rfl, HZ30, HC404⟩
    have R404l := Lib.hid (R403l.out.trans (HC404.out.mono R403l.out.size))
    have R404r := Lib.hid (R403r.out.belowW HC404.out)
    have R404x := Lib.hid (R403x.out.belowW HC404.out)
    have R404b0 := Lib.hid (R403b0.out.belowW HC404.out)
    have R404b1 := Lib.hid (R403b1.out.belowW HC404.out)
    have R404pw := Lib.hid (R403pw.out.belowW HC404.out)
    have R404n0 := Lib.hid (R403n0.out.belowW HC404.out)
    have R404n1 := Lib.hid (R403n1.out.belowW HC404.out)
    have R404np := Lib.hid (R403np.out.belowW HC404.out)
    have R404iz3 := Lib.hid (R403iz3.out.belowW HC404.out)
    have R404iy4 := Lib.hid (R403iy4.out.belowW HC404.out)
    have R404iz4 := Lib.hid (HZ30.out)
    go_wp2_with fail
    clear hHeld
    refine hK.out _ _ ?_ (fun hHeld => ?_)
    case refine_1 => exact ⟨R404b0.out.cell 0, R404b0.out.cell 1, R404b0.out.cell 2, R404b0.out.cell 3, R404b0.out.cell 4, R404b0.out.cell 5, R404b1.out.cell 0, R404b1.out.cell 1, R404b1.out.cell 2, R404b1.out.cell 3, R404b1.out.cell 4, R404b1.out.cell 5, R404pw.out.cell 0, R404pw.out.cell 1, R404pw.out.cell 2, R404pw.out.cell 3, R404pw.out.cell 4, R404pw.out.cell 5⟩
    clear hK K
    refine nmL 30 1365556008829435123807485695275040767 ?_
    refine tkD 31 144 1365556008829435123807485697422524415 HBR ?_
    refine rdD (rs := [43]) HBR ?_
    refine (AllReadyH.cons rfl (fun K hK => ?_) AllReadyH.nil)
    go_simp
    (with_reducible refine (show Calls Tryz.prog 24 #[.int .i64 5, .agg #[.int .i64 v0.h.kind, .int .i64 v0.h.n, .int .i64 v0.h.d, .string v0.h.name, .int .i64 v0.h.k, .slice v0.A v0.len v0.cap], .agg #[.int .i64 v1.h.kind, .int .i64 v1.h.n, .int .i64 v1.h.d, .string v1.h.name, .int .i64 v1.h.k, .slice v1.A v1.len v1.cap]] w404 _ from g2_any 5 X Y v0 v1 w404 (by decide) R404n0.out R404n1.out).mono ?_)
    rintro e w405 ⟨y5, rfl, HZ43, HC405⟩
    have R405l := Lib.hid (R404l.out.trans (HC405.out.mono R404l.out.size))
    have R405r := Lib.hid (R404r.out.belowW HC405.out)
    have R405x := Lib.hid (R404x.out.belowW HC405.out)
    have R405b0 := Lib.hid (R404b0.out.belowW HC405.out)
    have R405b1 := Lib.hid (R404b1.out.belowW HC405.out)
    have R405pw := Lib.hid (R404pw.out.belowW HC405.out)
    have R405n0 := Lib.hid (R404n0.out.belowW HC405.out)
    have R405n1 := Lib.hid (R404n1.out.belowW HC405.out)
    have R405np := Lib.hid (R404np.out.belowW HC405.out)
    have R405iz3 := Lib.hid (R404iz3.out.belowW HC405.out)
    have R405iz4 := Lib.hid (R404iz4.out.belowW HC405.out)
    have R405iy5 := Lib.hid (HZ43.out)
    go_wp2_with fail
    clear hHeld
    refine hK.out _ _ ?_ (fun hHeld => ?_)
    case refine_1 => exact ⟨R405b0.out.cell 0, R405b0.out.cell 1, R405b0.out.cell 2, R405b0.out.cell 3, R405b0.out.cell 4, R405b0.out.cell 5, R405b1.out.cell 0, R405b1.out.cell 1, R405b1.out.cell 2, R405b1.out.cell 3, R405b1.out.cell 4, R405b1.out.cell 5, R405pw.out.cell 0, R405pw.out.cell 1, R405pw.out.cell 2, R405pw.out.cell 3, R405pw.out.cell 4, R405pw.out.cell 5⟩
    clear hK K
    refine nmL 43 1365556008829435123807494493515546623 ?_
    refine rdD (rs := [45]) HBR ?_
    refine (AllReadyH.cons rfl (fun K hK => ?_) AllReadyH.nil)
    go_simp
    (with_reducible refine (show Calls Tryz.prog 24 #[.int .i64 6, .agg #[.int .i64 y5.h.kind, .int .i64 y5.h.n, .int .i64 y5.h.d, .string y5.h.name, .int .i64 y5.h.k, .slice y5.A y5.len y5.cap], .agg #[.int .i64 v0.h.kind, .int .i64 v0.h.n, .int .i64 v0.h.d, .string v0.h.name, .int .i64 v0.h.k, .slice v0.A v0.len v0.cap]] w405 _ from g2_any 6 (opE 5 [X, Y]) X y5 v0 w405 (by decide) R405iy5.out R405n0.out).mono ?_)
    rintro e w406 ⟨z5, rfl, HZ45, HC406⟩
    have R406l := Lib.hid (R405l.out.trans (HC406.out.mono R405l.out.size))
    have R406r := Lib.hid (R405r.out.belowW HC406.out)
    have R406x := Lib.hid (R405x.out.belowW HC406.out)
    have R406b0 := Lib.hid (R405b0.out.belowW HC406.out)
    have R406b1 := Lib.hid (R405b1.out.belowW HC406.out)
    have R406pw := Lib.hid (R405pw.out.belowW HC406.out)
    have R406n0 := Lib.hid (R405n0.out.belowW HC406.out)
    have R406n1 := Lib.hid (R405n1.out.belowW HC406.out)
    have R406np := Lib.hid (R405np.out.belowW HC406.out)
    have R406iz3 := Lib.hid (R405iz3.out.belowW HC406.out)
    have R406iz4 := Lib.hid (R405iz4.out.belowW HC406.out)
    have R406iy5 := Lib.hid (R405iy5.out.belowW HC406.out)
    have R406iz5 := Lib.hid (HZ45.out)
    go_wp2_with fail
    clear hHeld
    refine hK.out _ _ ?_ (fun hHeld => ?_)
    case refine_1 => exact ⟨R406b0.out.cell 0, R406b0.out.cell 1, R406b0.out.cell 2, R406b0.out.cell 3, R406b0.out.cell 4, R406b0.out.cell 5, R406b1.out.cell 0, R406b1.out.cell 1, R406b1.out.cell 2, R406b1.out.cell 3, R406b1.out.cell 4, R406b1.out.cell 5, R406pw.out.cell 0, R406pw.out.cell 1, R406pw.out.cell 2, R406pw.out.cell 3, R406pw.out.cell 4, R406pw.out.cell 5⟩
    clear hK K
    refine nmL 45 1365556008829435123807529677887635455 ?_
    refine tkD 46 159 1365556008829435123807600046631813119 HBR ?_
    refine rdD (rs := [58]) HBR ?_
    refine (AllReadyH.cons rfl (fun K hK => ?_) AllReadyH.nil)
    go_simp
    (with_reducible refine (show Calls Tryz.prog 24 #[.int .i64 4, .agg #[.int .i64 v0.h.kind, .int .i64 v0.h.n, .int .i64 v0.h.d, .string v0.h.name, .int .i64 v0.h.k, .slice v0.A v0.len v0.cap], .agg #[.int .i64 v1.h.kind, .int .i64 v1.h.n, .int .i64 v1.h.d, .string v1.h.name, .int .i64 v1.h.k, .slice v1.A v1.len v1.cap]] w406 _ from g2_any 4 X Y v0 v1 w406 (by decide) R406n0.out R406n1.out).mono ?_)
    rintro e w407 ⟨y6, rfl, HZ58, HC407⟩
    have R407l := Lib.hid (R406l.out.trans (HC407.out.mono R406l.out.size))
    have R407r := Lib.hid (R406r.out.belowW HC407.out)
    have R407x := Lib.hid (R406x.out.belowW HC407.out)
    have R407b0 := Lib.hid (R406b0.out.belowW HC407.out)
    have R407b1 := Lib.hid (R406b1.out.belowW HC407.out)
    have R407pw := Lib.hid (R406pw.out.belowW HC407.out)
    have R407n0 := Lib.hid (R406n0.out.belowW HC407.out)
    have R407n1 := Lib.hid (R406n1.out.belowW HC407.out)
    have R407np := Lib.hid (R406np.out.belowW HC407.out)
    have R407iz3 := Lib.hid (R406iz3.out.belowW HC407.out)
    have R407iz4 := Lib.hid (R406iz4.out.belowW HC407.out)
    have R407iz5 := Lib.hid (R406iz5.out.belowW HC407.out)
    have R407iy6 := Lib.hid (HZ58.out)
    go_wp2_with fail
    clear hHeld
    refine hK.out _ _ ?_ (fun hHeld => ?_)
    case refine_1 => exact ⟨R407b0.out.cell 0, R407b0.out.cell 1, R407b0.out.cell 2, R407b0.out.cell 3, R407b0.out.cell 4, R407b0.out.cell 5, R407b1.out.cell 0, R407b1.out.cell 1, R407b1.out.cell 2, R407b1.out.cell 3, R407b1.out.cell 4, R407b1.out.cell 5, R407pw.out.cell 0, R407pw.out.cell 1, R407pw.out.cell 2, R407pw.out.cell 3, R407pw.out.cell 4, R407pw.out.cell 5⟩
    clear hK K
    refine nmL 58 1365556008829435124095830422783524863 ?_
    refine rdD (rs := [60]) HBR ?_
    refine (AllReadyH.cons rfl (fun K hK => ?_) AllReadyH.nil)
    go_simp
    (with_reducible refine (show Calls Tryz.prog 24 #[.int .i64 3, .agg #[.int .i64 y6.h.kind, .int .i64 y6.h.n, .int .i64 y6.h.d, .string y6.h.name, .int .i64 y6.h.k, .slice y6.A y6.len y6.cap], .agg #[.int .i64 v0.h.kind, .int .i64 v0.h.n, .int .i64 v0.h.d, .string v0.h.name, .int .i64 v0.h.k, .slice v0.A v0.len v0.cap]] w407 _ from g2_any 3 (opE 4 [X, Y]) X y6 v0 w407 (by decide) R407iy6.out R407n0.out).mono ?_)
    rintro e w408 ⟨z6, rfl, HZ60, HC408⟩
    have R408l := Lib.hid (R407l.out.trans (HC408.out.mono R407l.out.size))
    have R408r := Lib.hid (R407r.out.belowW HC408.out)
    have R408x := Lib.hid (R407x.out.belowW HC408.out)
    have R408b0 := Lib.hid (R407b0.out.belowW HC408.out)
    have R408b1 := Lib.hid (R407b1.out.belowW HC408.out)
    have R408pw := Lib.hid (R407pw.out.belowW HC408.out)
    have R408n0 := Lib.hid (R407n0.out.belowW HC408.out)
    have R408n1 := Lib.hid (R407n1.out.belowW HC408.out)
    have R408np := Lib.hid (R407np.out.belowW HC408.out)
    have R408iz3 := Lib.hid (R407iz3.out.belowW HC408.out)
    have R408iz4 := Lib.hid (R407iz4.out.belowW HC408.out)
    have R408iz5 := Lib.hid (R407iz5.out.belowW HC408.out)
    have R408iy6 := Lib.hid (R407iy6.out.belowW HC408.out)
    have R408iz6 := Lib.hid (HZ60.out)
    go_wp2_with fail
    clear hHeld
    refine hK.out _ _ ?_ (fun hHeld => ?_)
    case refine_1 => exact ⟨R408b0.out.cell 0, R408b0.out.cell 1, R408b0.out.cell 2, R408b0.out.cell 3, R408b0.out.cell 4, R408b0.out.cell 5, R408b1.out.cell 0, R408b1.out.cell 1, R408b1.out.cell 2, R408b1.out.cell 3, R408b1.out.cell 4, R408b1.out.cell 5, R408pw.out.cell 0, R408pw.out.cell 1, R408pw.out.cell 2, R408pw.out.cell 3, R408pw.out.cell 4, R408pw.out.cell 5⟩
    clear hK K
    refine nmL 60 1365556008829435125248751927390371839 ?_
    refine tkD 61 174 1365556008829435127554594936604065791 HBR ?_
    refine rdD (rs := [66]) HBR ?_
    refine (AllReadyH.cons rfl (fun K hK => ?_) AllReadyH.nil)
    go_simp
    (with_reducible refine (show Calls Tryz.prog 25 #[.int .i64 7, .agg #[.int .i64 v0.h.kind, .int .i64 v0.h.n, .int .i64 v0.h.d, .string v0.h.name, .int .i64 v0.h.k, .slice v0.A v0.len v0.cap]] w408 _ from g1_any 7 X v0 w408 (by decide) R408n0.out).mono ?_)
    rintro e w409 ⟨z7, rfl, HZ66, HC409⟩
    have R409l := Lib.hid (R408l.out.trans (HC409.out.mono R408l.out.size))
    have R409r := Lib.hid (R408r.out.belowW HC409.out)
    have R409x := Lib.hid (R408x.out.belowW HC409.out)
    have R409b0 := Lib.hid (R408b0.out.belowW HC409.out)
    have R409b1 := Lib.hid (R408b1.out.belowW HC409.out)
    have R409pw := Lib.hid (R408pw.out.belowW HC409.out)
    have R409n0 := Lib.hid (R408n0.out.belowW HC409.out)
    have R409n1 := Lib.hid (R408n1.out.belowW HC409.out)
    have R409np := Lib.hid (R408np.out.belowW HC409.out)
    have R409iz3 := Lib.hid (R408iz3.out.belowW HC409.out)
    have R409iz4 := Lib.hid (R408iz4.out.belowW HC409.out)
    have R409iz5 := Lib.hid (R408iz5.out.belowW HC409.out)
    have R409iz6 := Lib.hid (R408iz6.out.belowW HC409.out)
    have R409iz7 := Lib.hid (HZ66.out)
    go_wp2_with fail
    clear hHeld
    refine hK.out _ _ ?_ (fun hHeld => ?_)
    case refine_1 => exact ⟨R409b0.out.cell 0, R409b0.out.cell 1, R409b0.out.cell 2, R409b0.out.cell 3, R409b0.out.cell 4, R409b0.out.cell 5, R409b1.out.cell 0, R409b1.out.cell 1, R409b1.out.cell 2, R409b1.out.cell 3, R409b1.out.cell 4, R409b1.out.cell 5, R409pw.out.cell 0, R409pw.out.cell 1, R409pw.out.cell 2, R409pw.out.cell 3, R409pw.out.cell 4, R409pw.out.cell 5⟩
    clear hK K
    refine nmL 66 1365556008829435201341571231442272255 ?_
    refine tkD 67 180 1365556008829435348915523821118685183 HBR ?_
    refine rdD (rs := [80]) HBR ?_
    refine (AllReadyH.cons rfl (fun K hK => ?_) AllReadyH.nil)
    go_simp
    (with_reducible refine (show Calls Tryz.prog 25 #[.int .i64 7, .agg #[.int .i64 vp.h.kind, .int .i64 vp.h.n, .int .i64 vp.h.d, .string vp.h.name, .int .i64 vp.h.k, .slice vp.A vp.len vp.cap]] w409 _ from g1_any 7 (powE 3 X) vp w409 (by decide) R409np.out).mono ?_)
    rintro e w410 ⟨y9, rfl, HZ80, HC410⟩
    have R410l := Lib.hid (R409l.out.trans (HC410.out.mono R409l.out.size))
    have R410r := Lib.hid (R409r.out.belowW HC410.out)
    have R410x := Lib.hid (R409x.out.belowW HC410.out)
    have R410b0 := Lib.hid (R409b0.out.belowW HC410.out)
    have R410b1 := Lib.hid (R409b1.out.belowW HC410.out)
    have R410pw := Lib.hid (R409pw.out.belowW HC410.out)
    have R410n0 := Lib.hid (R409n0.out.belowW HC410.out)
    have R410n1 := Lib.hid (R409n1.out.belowW HC410.out)
    have R410np := Lib.hid (R409np.out.belowW HC410.out)
    have R410iz3 := Lib.hid (R409iz3.out.belowW HC410.out)
    have R410iz4 := Lib.hid (R409iz4.out.belowW HC410.out)
    have R410iz5 := Lib.hid (R409iz5.out.belowW HC410.out)
    have R410iz6 := Lib.hid (R409iz6.out.belowW HC410.out)
    have R410iz7 := Lib.hid (R409iz7.out.belowW HC410.out)
    have R410iy9 := Lib.hid (HZ80.out)
    go_wp2_with fail
    clear hHeld
    refine hK.out _ _ ?_ (fun hHeld => ?_)
    case refine_1 => exact ⟨R410b0.out.cell 0, R410b0.out.cell 1, R410b0.out.cell 2, R410b0.out.cell 3, R410b0.out.cell 4, R410b0.out.cell 5, R410b1.out.cell 0, R410b1.out.cell 1, R410b1.out.cell 2, R410b1.out.cell 3, R410b1.out.cell 4, R410b1.out.cell 5, R410pw.out.cell 0, R410pw.out.cell 1, R410pw.out.cell 2, R410pw.out.cell 3, R410pw.out.cell 4, R410pw.out.cell 5⟩
    clear hK K
    refine nmL 80 1365556008830644274735138450293391359 ?_
    refine rdD (rs := [82]) HBR ?_
    refine (AllReadyH.cons rfl (fun K hK => ?_) AllReadyH.nil)
    go_simp
    (with_reducible refine (show Calls Tryz.prog 24 #[.int .i64 5, .agg #[.int .i64 y9.h.kind, .int .i64 y9.h.n, .int .i64 y9.h.d, .string y9.h.name, .int .i64 y9.h.k, .slice y9.A y9.len y9.cap], .agg #[.int .i64 v1.h.kind, .int .i64 v1.h.n, .int .i64 v1.h.d, .string v1.h.name, .int .i64 v1.h.k, .slice v1.A v1.len v1.cap]] w410 _ from g2_any 5 (opE 7 [powE 3 X]) Y y9 v1 w410 (by decide) R410iy9.out R410n1.out).mono ?_)
    rintro e w411 ⟨zq, rfl, HZ82, HC411⟩
    have R411l := Lib.hid (R410l.out.trans (HC411.out.mono R410l.out.size))
    have R411r := Lib.hid (R410r.out.belowW HC411.out)
    have R411x := Lib.hid (R410x.out.belowW HC411.out)
    have R411b0 := Lib.hid (R410b0.out.belowW HC411.out)
    have R411b1 := Lib.hid (R410b1.out.belowW HC411.out)
    have R411pw := Lib.hid (R410pw.out.belowW HC411.out)
    have R411n0 := Lib.hid (R410n0.out.belowW HC411.out)
    have R411n1 := Lib.hid (R410n1.out.belowW HC411.out)
    have R411np := Lib.hid (R410np.out.belowW HC411.out)
    have R411iz3 := Lib.hid (R410iz3.out.belowW HC411.out)
    have R411iz4 := Lib.hid (R410iz4.out.belowW HC411.out)
    have R411iz5 := Lib.hid (R410iz5.out.belowW HC411.out)
    have R411iz6 := Lib.hid (R410iz6.out.belowW HC411.out)
    have R411iz7 := Lib.hid (R410iz7.out.belowW HC411.out)
    have R411iy9 := Lib.hid (R410iy9.out.belowW HC411.out)
    have R411izq := Lib.hid (HZ82.out)
    go_wp2_with fail
    clear hHeld
    refine hK.out _ _ ?_ (fun hHeld => ?_)
    case refine_1 => exact ⟨R411b0.out.cell 0, R411b0.out.cell 1, R411b0.out.cell 2, R411b0.out.cell 3, R411b0.out.cell 4, R411b0.out.cell 5, R411b1.out.cell 0, R411b1.out.cell 1, R411b1.out.cell 2, R411b1.out.cell 3, R411b1.out.cell 4, R411b1.out.cell 5, R411pw.out.cell 0, R411pw.out.cell 1, R411pw.out.cell 2, R411pw.out.cell 3, R411pw.out.cell 4, R411pw.out.cell 5⟩
    clear hK K
    refine nmL 82 1365556008835479978013596966992216063 ?_
    refine tkD 83 196 1365556008845151384570514000389865471 HBR ?_
    refine rdD (rs := [88]) HBR ?_
    refine (AllReadyH.cons rfl (fun K hK => ?_) AllReadyH.nil)
    go_simp
    (with_reducible refine (show Calls Tryz.prog 25 #[.int .i64 9, .agg #[.int .i64 v0.h.kind, .int .i64 v0.h.n, .int .i64 v0.h.d, .string v0.h.name, .int .i64 v0.h.k, .slice v0.A v0.len v0.cap]] w411 _ from g1_any 9 X v0 w411 (by decide) R411n0.out).mono ?_)
    rintro e w412 ⟨z10, rfl, HZ88, HC412⟩
    have R412l := Lib.hid (R411l.out.trans (HC412.out.mono R411l.out.size))
    have R412r := Lib.hid (R411r.out.belowW HC412.out)
    have R412x := Lib.hid (R411x.out.belowW HC412.out)
    have R412b0 := Lib.hid (R411b0.out.belowW HC412.out)
    have R412b1 := Lib.hid (R411b1.out.belowW HC412.out)
    have R412pw := Lib.hid (R411pw.out.belowW HC412.out)
    have R412n0 := Lib.hid (R411n0.out.belowW HC412.out)
    have R412n1 := Lib.hid (R411n1.out.belowW HC412.out)
    have R412np := Lib.hid (R411np.out.belowW HC412.out)
    have R412iz3 := Lib.hid (R411iz3.out.belowW HC412.out)
    have R412iz4 := Lib.hid (R411iz4.out.belowW HC412.out)
    have R412iz5 := Lib.hid (R411iz5.out.belowW HC412.out)
    have R412iz6 := Lib.hid (R411iz6.out.belowW HC412.out)
    have R412iz7 := Lib.hid (R411iz7.out.belowW HC412.out)
    have R412izq := Lib.hid (R411izq.out.belowW HC412.out)
    have R412iz10 := Lib.hid (HZ88.out)
    go_wp2_with fail
    clear hHeld
    refine hK.out _ _ ?_ (fun hHeld => ?_)
    case refine_1 => exact ⟨R412b0.out.cell 0, R412b0.out.cell 1, R412b0.out.cell 2, R412b0.out.cell 3, R412b0.out.cell 4, R412b0.out.cell 5, R412b1.out.cell 0, R412b1.out.cell 1, R412b1.out.cell 2, R412b1.out.cell 3, R412b1.out.cell 4, R412b1.out.cell 5, R412pw.out.cell 0, R412pw.out.cell 1, R412pw.out.cell 2, R412pw.out.cell 3, R412pw.out.cell 4, R412pw.out.cell 5⟩
    clear hK K
    refine nmL 88 1365556009154636394391859069114646527 ?_
    refine tkD 89 202 1365556009773606414034549206564208639 HBR ?_
    refine rdD (rs := [98]) HBR ?_
    refine (AllReadyH.cons rfl (fun K hK => ?_) AllReadyH.nil)
    go_simp
    (with_reducible refine (show Calls Tryz.prog 25 #[.int .i64 13, .agg #[.int .i64 v1.h.kind, .int .i64 v1.h.n, .int .i64 v1.h.d, .string v1.h.name, .int .i64 v1.h.k, .slice v1.A v1.len v1.cap]] w412 _ from g1_any 13 Y v1 w412 (by decide) R412n1.out).mono ?_)
    rintro e w413 ⟨ya, rfl, HZ98, HC413⟩
    have R413l := Lib.hid (R412l.out.trans (HC413.out.mono R412l.out.size))
    have R413r := Lib.hid (R412r.out.belowW HC413.out)
    have R413x := Lib.hid (R412x.out.belowW HC413.out)
    have R413b0 := Lib.hid (R412b0.out.belowW HC413.out)
    have R413b1 := Lib.hid (R412b1.out.belowW HC413.out)
    have R413pw := Lib.hid (R412pw.out.belowW HC413.out)
    have R413n0 := Lib.hid (R412n0.out.belowW HC413.out)
    have R413n1 := Lib.hid (R412n1.out.belowW HC413.out)
    have R413np := Lib.hid (R412np.out.belowW HC413.out)
    have R413iz3 := Lib.hid (R412iz3.out.belowW HC413.out)
    have R413iz4 := Lib.hid (R412iz4.out.belowW HC413.out)
    have R413iz5 := Lib.hid (R412iz5.out.belowW HC413.out)
    have R413iz6 := Lib.hid (R412iz6.out.belowW HC413.out)
    have R413iz7 := Lib.hid (R412iz7.out.belowW HC413.out)
    have R413izq := Lib.hid (R412izq.out.belowW HC413.out)
    have R413iz10 := Lib.hid (R412iz10.out.belowW HC413.out)
    have R413iya := Lib.hid (HZ98.out)
    go_wp2_with fail
    clear hHeld
    refine hK.out _ _ ?_ (fun hHeld => ?_)
    case refine_1 => exact ⟨R413b0.out.cell 0, R413b0.out.cell 1, R413b0.out.cell 2, R413b0.out.cell 3, R413b0.out.cell 4, R413b0.out.cell 5, R413b1.out.cell 0, R413b1.out.cell 1, R413b1.out.cell 2, R413b1.out.cell 3, R413b1.out.cell 4, R413b1.out.cell 5, R413pw.out.cell 0, R413pw.out.cell 1, R413pw.out.cell 2, R413pw.out.cell 3, R413pw.out.cell 4, R413pw.out.cell 5⟩
    clear hK K
    refine nmL 98 1365556326686256471091899580740009983 ?_
    refine rdD (rs := [101]) HBR ?_
    refine (AllReadyH.cons rfl (fun K hK => ?_) AllReadyH.nil)
    go_simp
    (with_reducible refine (show Calls Tryz.prog 25 #[.int .i64 10, .agg #[.int .i64 v0.h.kind, .int .i64 v0.h.n, .int .i64 v0.h.d, .string v0.h.name, .int .i64 v0.h.k, .slice v0.A v0.len v0.cap]] w413 _ from g1_any 10 X v0 w413 (by decide) R413n0.out).mono ?_)
    rintro e w414 ⟨yb, rfl, HZ101, HC414⟩
    have R414l := Lib.hid (R413l.out.trans (HC414.out.mono R413l.out.size))
    have R414r := Lib.hid (R413r.out.belowW HC414.out)
    have R414x := Lib.hid (R413x.out.belowW HC414.out)
    have R414b0 := Lib.hid (R413b0.out.belowW HC414.out)
    have R414b1 := Lib.hid (R413b1.out.belowW HC414.out)
    have R414pw := Lib.hid (R413pw.out.belowW HC414.out)
    have R414n0 := Lib.hid (R413n0.out.belowW HC414.out)
    have R414n1 := Lib.hid (R413n1.out.belowW HC414.out)
    have R414np := Lib.hid (R413np.out.belowW HC414.out)
    have R414iz3 := Lib.hid (R413iz3.out.belowW HC414.out)
    have R414iz4 := Lib.hid (R413iz4.out.belowW HC414.out)
    have R414iz5 := Lib.hid (R413iz5.out.belowW HC414.out)
    have R414iz6 := Lib.hid (R413iz6.out.belowW HC414.out)
    have R414iz7 := Lib.hid (R413iz7.out.belowW HC414.out)
    have R414izq := Lib.hid (R413izq.out.belowW HC414.out)
    have R414iz10 := Lib.hid (R413iz10.out.belowW HC414.out)
    have R414iya := Lib.hid (R413iya.out.belowW HC414.out)
    have R414iyb := Lib.hid (HZ101.out)
    go_wp2_with fail
    clear hHeld
    refine hK.out _ _ ?_ (fun hHeld => ?_)
    case refine_1 => exact ⟨R414b0.out.cell 0, R414b0.out.cell 1, R414b0.out.cell 2, R414b0.out.cell 3, R414b0.out.cell 4, R414b0.out.cell 5, R414b1.out.cell 0, R414b1.out.cell 1, R414b1.out.cell 2, R414b1.out.cell 3, R414b1.out.cell 4, R414b1.out.cell 5, R414pw.out.cell 0, R414pw.out.cell 1, R414pw.out.cell 2, R414pw.out.cell 3, R414pw.out.cell 4, R414pw.out.cell 5⟩
    clear hK K
    refine nmL 101 1365558861987456927550702574146420735 ?_
    refine rdD (rs := [102]) HBR ?_
    refine (AllReadyH.cons rfl (fun K hK => ?_) AllReadyH.nil)
    go_simp
    (with_reducible refine (show Calls Tryz.prog 24 #[.int .i64 3, .agg #[.int .i64 ya.h.kind, .int .i64 ya.h.n, .int .i64 ya.h.d, .string ya.h.name, .int .i64 ya.h.k, .slice ya.A ya.len ya.cap], .agg #[.int .i64 yb.h.kind, .int .i64 yb.h.n, .int .i64 yb.h.d, .string yb.h.name, .int .i64 yb.h.k, .slice yb.A yb.len yb.cap]] w414 _ from g2_any 3 (opE 13 [Y]) (opE 10 [X]) ya yb w414 (by decide) R414iya.out R414iyb.out).mono ?_)
    rintro e w415 ⟨z11, rfl, HZ102, HC415⟩
    have R415l := Lib.hid (R414l.out.trans (HC415.out.mono R414l.out.size))
    have R415r := Lib.hid (R414r.out.belowW HC415.out)
    have R415x := Lib.hid (R414x.out.belowW HC415.out)
    have R415b0 := Lib.hid (R414b0.out.belowW HC415.out)
    have R415b1 := Lib.hid (R414b1.out.belowW HC415.out)
    have R415pw := Lib.hid (R414pw.out.belowW HC415.out)
    have R415n0 := Lib.hid (R414n0.out.belowW HC415.out)
    have R415n1 := Lib.hid (R414n1.out.belowW HC415.out)
    have R415np := Lib.hid (R414np.out.belowW HC415.out)
    have R415iz3 := Lib.hid (R414iz3.out.belowW HC415.out)
    have R415iz4 := Lib.hid (R414iz4.out.belowW HC415.out)
    have R415iz5 := Lib.hid (R414iz5.out.belowW HC415.out)
    have R415iz6 := Lib.hid (R414iz6.out.belowW HC415.out)
    have R415iz7 := Lib.hid (R414iz7.out.belowW HC415.out)
    have R415izq := Lib.hid (R414izq.out.belowW HC415.out)
    have R415iz10 := Lib.hid (R414iz10.out.belowW HC415.out)
    have R415iya := Lib.hid (R414iya.out.belowW HC415.out)
    have R415iyb := Lib.hid (R414iyb.out.belowW HC415.out)
    have R415iz11 := Lib.hid (HZ102.out)
    go_wp2_with fail
    clear hHeld
    refine hK.out _ _ ?_ (fun hHeld => ?_)
    case refine_1 => exact ⟨R415b0.out.cell 0, R415b0.out.cell 1, R415b0.out.cell 2, R415b0.out.cell 3, R415b0.out.cell 4, R415b0.out.cell 5, R415b1.out.cell 0, R415b1.out.cell 1, R415b1.out.cell 2, R415b1.out.cell 3, R415b1.out.cell 4, R415b1.out.cell 5, R415pw.out.cell 0, R415pw.out.cell 1, R415pw.out.cell 2, R415pw.out.cell 3, R415pw.out.cell 4, R415pw.out.cell 5⟩
    clear hK K
    refine nmL 102 1365563932589857840468308560959242239 ?_
    refine tkD 103 216 1365574073794659666303520534584885247 HBR ?_
    refine rdD (rs := [112]) HBR ?_
    refine (AllReadyH.cons rfl (fun K hK => ?_) AllReadyH.nil)
    go_simp
    (with_reducible refine (show Calls Tryz.prog 25 #[.int .i64 11, .agg #[.int .i64 v0.h.kind, .int .i64 v0.h.n, .int .i64 v0.h.d, .string v0.h.name, .int .i64 v0.h.k, .slice v0.A v0.len v0.cap]] w415 _ from g1_any 11 X v0 w415 (by decide) R415n0.out).mono ?_)
    rintro e w416 ⟨yc, rfl, HZ112, HC416⟩
    have R416l := Lib.hid (R415l.out.trans (HC416.out.mono R415l.out.size))
    have R416r := Lib.hid (R415r.out.belowW HC416.out)
    have R416x := Lib.hid (R415x.out.belowW HC416.out)
    have R416b0 := Lib.hid (R415b0.out.belowW HC416.out)
    have R416b1 := Lib.hid (R415b1.out.belowW HC416.out)
    have R416pw := Lib.hid (R415pw.out.belowW HC416.out)
    have R416n0 := Lib.hid (R415n0.out.belowW HC416.out)
    have R416n1 := Lib.hid (R415n1.out.belowW HC416.out)
    have R416np := Lib.hid (R415np.out.belowW HC416.out)
    have R416iz3 := Lib.hid (R415iz3.out.belowW HC416.out)
    have R416iz4 := Lib.hid (R415iz4.out.belowW HC416.out)
    have R416iz5 := Lib.hid (R415iz5.out.belowW HC416.out)
    have R416iz6 := Lib.hid (R415iz6.out.belowW HC416.out)
    have R416iz7 := Lib.hid (R415iz7.out.belowW HC416.out)
    have R416izq := Lib.hid (R415izq.out.belowW HC416.out)
    have R416iz10 := Lib.hid (R415iz10.out.belowW HC416.out)
    have R416iz11 := Lib.hid (R415iz11.out.belowW HC416.out)
    have R416iyc := Lib.hid (HZ112.out)
    go_wp2_with fail
    clear hHeld
    refine hK.out _ _ ?_ (fun hHeld => ?_)
    case refine_1 => exact ⟨R416b0.out.cell 0, R416b0.out.cell 1, R416b0.out.cell 2, R416b0.out.cell 3, R416b0.out.cell 4, R416b0.out.cell 5, R416b1.out.cell 0, R416b1.out.cell 1, R416b1.out.cell 2, R416b1.out.cell 3, R416b1.out.cell 4, R416b1.out.cell 5, R416pw.out.cell 0, R416pw.out.cell 1, R416pw.out.cell 2, R416pw.out.cell 3, R416pw.out.cell 4, R416pw.out.cell 5⟩
    clear hK K
    refine nmL 112 1370766370653194493932051030914105343 ?_
    refine rdD (rs := [115]) HBR ?_
    refine (AllReadyH.cons rfl (fun K hK => ?_) AllReadyH.nil)
    go_simp
    (with_reducible refine (show Calls Tryz.prog 25 #[.int .i64 12, .agg #[.int .i64 v1.h.kind, .int .i64 v1.h.n, .int .i64 v1.h.d, .string v1.h.name, .int .i64 v1.h.k, .slice v1.A v1.len v1.cap]] w416 _ from g1_any 12 Y v1 w416 (by decide) R416n1.out).mono ?_)
    rintro e w417 ⟨yd, rfl, HZ115, HC417⟩
    have R417l := Lib.hid (R416l.out.trans (HC417.out.mono R416l.out.size))
    have R417r := Lib.hid (R416r.out.belowW HC417.out)
    have R417x := Lib.hid (R416x.out.belowW HC417.out)
    have R417b0 := Lib.hid (R416b0.out.belowW HC417.out)
    have R417b1 := Lib.hid (R416b1.out.belowW HC417.out)
    have R417pw := Lib.hid (R416pw.out.belowW HC417.out)
    have R417n0 := Lib.hid (R416n0.out.belowW HC417.out)
    have R417n1 := Lib.hid (R416n1.out.belowW HC417.out)
    have R417np := Lib.hid (R416np.out.belowW HC417.out)
    have R417iz3 := Lib.hid (R416iz3.out.belowW HC417.out)
    have R417iz4 := Lib.hid (R416iz4.out.belowW HC417.out)
    have R417iz5 := Lib.hid (R416iz5.out.belowW HC417.out)
    have R417iz6 := Lib.hid (R416iz6.out.belowW HC417.out)
    have R417iz7 := Lib.hid (R416iz7.out.belowW HC417.out)
    have R417izq := Lib.hid (R416izq.out.belowW HC417.out)
    have R417iz10 := Lib.hid (R416iz10.out.belowW HC417.out)
    have R417iz11 := Lib.hid (R416iz11.out.belowW HC417.out)
    have R417iyc := Lib.hid (R416iyc.out.belowW HC417.out)
    have R417iyd := Lib.hid (HZ115.out)
    go_wp2_with fail
    clear hHeld
    refine hK.out _ _ ?_ (fun hHeld => ?_)
    case refine_1 => exact ⟨R417b0.out.cell 0, R417b0.out.cell 1, R417b0.out.cell 2, R417b0.out.cell 3, R417b0.out.cell 4, R417b0.out.cell 5, R417b1.out.cell 0, R417b1.out.cell 1, R417b1.out.cell 2, R417b1.out.cell 3, R417b1.out.cell 4, R417b1.out.cell 5, R417pw.out.cell 0, R417pw.out.cell 1, R417pw.out.cell 2, R417pw.out.cell 3, R417pw.out.cell 4, R417pw.out.cell 5⟩
    clear hK K
    refine nmL 115 1412304745521473114960295001547866111 ?_
    refine rdD (rs := [116]) HBR ?_
    refine (AllReadyH.cons rfl (fun K hK => ?_) AllReadyH.nil)
    go_simp
    (with_reducible refine (show Calls Tryz.prog 24 #[.int .i64 5, .agg #[.int .i64 yc.h.kind, .int .i64 yc.h.n, .int .i64 yc.h.d, .string yc.h.name, .int .i64 yc.h.k, .slice yc.A yc.len yc.cap], .agg #[.int .i64 yd.h.kind, .int .i64 yd.h.n, .int .i64 yd.h.d, .string yd.h.name, .int .i64 yd.h.k, .slice yd.A yd.len yd.cap]] w417 _ from g2_any 5 (opE 11 [X]) (opE 12 [Y]) yc yd w417 (by decide) R417iyc.out R417iyd.out).mono ?_)
    rintro e w418 ⟨z12, rfl, HZ116, HC418⟩
    have R418l := Lib.hid (R417l.out.trans (HC418.out.mono R417l.out.size))
    have R418r := Lib.hid (R417r.out.belowW HC418.out)
    have R418x := Lib.hid (R417x.out.belowW HC418.out)
    have R418b0 := Lib.hid (R417b0.out.belowW HC418.out)
    have R418b1 := Lib.hid (R417b1.out.belowW HC418.out)
    have R418pw := Lib.hid (R417pw.out.belowW HC418.out)
    have R418n0 := Lib.hid (R417n0.out.belowW HC418.out)
    have R418n1 := Lib.hid (R417n1.out.belowW HC418.out)
    have R418np := Lib.hid (R417np.out.belowW HC418.out)
    have R418iz3 := Lib.hid (R417iz3.out.belowW HC418.out)
    have R418iz4 := Lib.hid (R417iz4.out.belowW HC418.out)
    have R418iz5 := Lib.hid (R417iz5.out.belowW HC418.out)
    have R418iz6 := Lib.hid (R417iz6.out.belowW HC418.out)
    have R418iz7 := Lib.hid (R417iz7.out.belowW HC418.out)
    have R418izq := Lib.hid (R417izq.out.belowW HC418.out)
    have R418iz10 := Lib.hid (R417iz10.out.belowW HC418.out)
    have R418iz11 := Lib.hid (R417iz11.out.belowW HC418.out)
    have R418iyc := Lib.hid (R417iyc.out.belowW HC418.out)
    have R418iyd := Lib.hid (R417iyd.out.belowW HC418.out)
    have R418iz12 := Lib.hid (HZ116.out)
    go_wp2_with fail
    clear hHeld
    refine hK.out _ _ ?_ (fun hHeld => ?_)
    case refine_1 => exact ⟨R418b0.out.cell 0, R418b0.out.cell 1, R418b0.out.cell 2, R418b0.out.cell 3, R418b0.out.cell 4, R418b0.out.cell 5, R418b1.out.cell 0, R418b1.out.cell 1, R418b1.out.cell 2, R418b1.out.cell 3, R418b1.out.cell 4, R418b1.out.cell 5, R418pw.out.cell 0, R418pw.out.cell 1, R418pw.out.cell 2, R418pw.out.cell 3, R418pw.out.cell 4, R418pw.out.cell 5⟩
    clear hK K
    refine nmL 116 1495381495258030357016782942815387647 ?_
    refine tkD 117 230 1661534994731144841129758825350430719 HBR ?_
    refine rdD (rs := [118]) HBR ?_
    refine (AllReadyH.cons rfl (fun K hK => ?_) AllReadyH.nil)
    go_simp
    obtain ⟨w419, hw⟩ : ∃ z9 : World, z9 = w418.alloc (Obj.cells #[.string (S), .int .i64 v0.h.kind, .int .i64 v0.h.n, .int .i64 v0.h.d, .string v0.h.name, .int .i64 v0.h.k, .slice v0.A v0.len v0.cap, .string (⟨#[40]⟩ ++ S ++ ⟨#[41]⟩), .int .i64 v0.h.kind, .int .i64 v0.h.n, .int .i64 v0.h.d, .string v0.h.name, .int .i64 v0.h.k, .slice v0.A v0.len v0.cap, .string (S ++ ⟨#[43]⟩ ++ U), .int .i64 z3.h.kind, .int .i64 z3.h.n, .int .i64 z3.h.d, .string z3.h.name, .int .i64 z3.h.k, .slice z3.A z3.len z3.cap, .string (S ++ ⟨#[45]⟩ ++ U ++ ⟨#[42]⟩ ++ S), .int .i64 z4.h.kind, .int .i64 z4.h.n, .int .i64 z4.h.d, .string z4.h.name, .int .i64 z4.h.k, .slice z4.A z4.len z4.cap, .string (S ++ ⟨#[42]⟩ ++ U ++ ⟨#[47]⟩ ++ S), .int .i64 z5.h.kind, .int .i64 z5.h.n, .int .i64 z5.h.d, .string z5.h.name, .int .i64 z5.h.k, .slice z5.A z5.len z5.cap, .string (S ++ ⟨#[45]⟩ ++ U ++ ⟨#[43]⟩ ++ S), .int .i64 z6.h.kind, .int .i64 z6.h.n, .int .i64 z6.h.d, .string z6.h.name, .int .i64 z6.h.k, .slice z6.A z6.len z6.cap, .string (⟨#[45]⟩ ++ S), .int .i64 z7.h.kind, .int .i64 z7.h.n, .int .i64 z7.h.d, .string z7.h.name, .int .i64 z7.h.k, .slice z7.A z7.len z7.cap, .string (S ++ ⟨#[94, 51]⟩), .int .i64 vp.h.kind, .int .i64 vp.h.n, .int .i64 vp.h.d, .string vp.h.name, .int .i64 vp.h.k, .slice vp.A vp.len vp.cap, .string (⟨#[45]⟩ ++ S ++ ⟨#[94, 51, 42]⟩ ++ U), .int .i64 zq.h.kind, .int .i64 zq.h.n, .int .i64 zq.h.d, .string zq.h.name, .int .i64 zq.h.k, .slice zq.A zq.len zq.cap, .string (⟨#[101, 120, 112]⟩ ++ S), .int .i64 z10.h.kind, .int .i64 z10.h.n, .int .i64 z10.h.d, .string z10.h.name, .int .i64 z10.h.k, .slice z10.A z10.len z10.cap, .string (⟨#[115, 113, 114, 116]⟩ ++ U ++ ⟨#[43, 108, 111, 103]⟩ ++ S), .int .i64 z11.h.kind, .int .i64 z11.h.n, .int .i64 z11.h.d, .string z11.h.name, .int .i64 z11.h.k, .slice z11.A z11.len z11.cap, .string (⟨#[115, 105, 110]⟩ ++ S ++ ⟨#[42, 99, 111, 115]⟩ ++ U), .int .i64 z12.h.kind, .int .i64 z12.h.n, .int .i64 z12.h.d, .string z12.h.name, .int .i64 z12.h.k, .slice z12.A z12.len z12.cap] 47) := ⟨_, rfl⟩
    have HC419 := Lib.hid (show Below w418.heap.size w418 w419 by rw [hw]; exact below_box _ _)
    have R419l := Lib.hid (R418l.out.trans (HC419.out.mono R418l.out.size))
    have R419r := Lib.hid (R418r.out.belowW HC419.out)
    have R419x := Lib.hid (R418x.out.belowW HC419.out)
    have R419b0 := Lib.hid (R418b0.out.belowW HC419.out)
    have R419b1 := Lib.hid (R418b1.out.belowW HC419.out)
    have R419pw := Lib.hid (R418pw.out.belowW HC419.out)
    have R419n0 := Lib.hid (R418n0.out.belowW HC419.out)
    have R419n1 := Lib.hid (R418n1.out.belowW HC419.out)
    have R419np := Lib.hid (R418np.out.belowW HC419.out)
    have R419iz3 := Lib.hid (R418iz3.out.belowW HC419.out)
    have R419iz4 := Lib.hid (R418iz4.out.belowW HC419.out)
    have R419iz5 := Lib.hid (R418iz5.out.belowW HC419.out)
    have R419iz6 := Lib.hid (R418iz6.out.belowW HC419.out)
    have R419iz7 := Lib.hid (R418iz7.out.belowW HC419.out)
    have R419izq := Lib.hid (R418izq.out.belowW HC419.out)
    have R419iz10 := Lib.hid (R418iz10.out.belowW HC419.out)
    have R419iz11 := Lib.hid (R418iz11.out.belowW HC419.out)
    have R419iz12 := Lib.hid (R418iz12.out.belowW HC419.out)
    have R419k := Lib.hid (show Blk w419 w418.heap.size 47 #[.string (S), .int .i64 v0.h.kind, .int .i64 v0.h.n, .int .i64 v0.h.d, .string v0.h.name, .int .i64 v0.h.k, .slice v0.A v0.len v0.cap, .string (⟨#[40]⟩ ++ S ++ ⟨#[41]⟩), .int .i64 v0.h.kind, .int .i64 v0.h.n, .int .i64 v0.h.d, .string v0.h.name, .int .i64 v0.h.k, .slice v0.A v0.len v0.cap, .string (S ++ ⟨#[43]⟩ ++ U), .int .i64 z3.h.kind, .int .i64 z3.h.n, .int .i64 z3.h.d, .string z3.h.name, .int .i64 z3.h.k, .slice z3.A z3.len z3.cap, .string (S ++ ⟨#[45]⟩ ++ U ++ ⟨#[42]⟩ ++ S), .int .i64 z4.h.kind, .int .i64 z4.h.n, .int .i64 z4.h.d, .string z4.h.name, .int .i64 z4.h.k, .slice z4.A z4.len z4.cap, .string (S ++ ⟨#[42]⟩ ++ U ++ ⟨#[47]⟩ ++ S), .int .i64 z5.h.kind, .int .i64 z5.h.n, .int .i64 z5.h.d, .string z5.h.name, .int .i64 z5.h.k, .slice z5.A z5.len z5.cap, .string (S ++ ⟨#[45]⟩ ++ U ++ ⟨#[43]⟩ ++ S), .int .i64 z6.h.kind, .int .i64 z6.h.n, .int .i64 z6.h.d, .string z6.h.name, .int .i64 z6.h.k, .slice z6.A z6.len z6.cap, .string (⟨#[45]⟩ ++ S), .int .i64 z7.h.kind, .int .i64 z7.h.n, .int .i64 z7.h.d, .string z7.h.name, .int .i64 z7.h.k, .slice z7.A z7.len z7.cap, .string (S ++ ⟨#[94, 51]⟩), .int .i64 vp.h.kind, .int .i64 vp.h.n, .int .i64 vp.h.d, .string vp.h.name, .int .i64 vp.h.k, .slice vp.A vp.len vp.cap, .string (⟨#[45]⟩ ++ S ++ ⟨#[94, 51, 42]⟩ ++ U), .int .i64 zq.h.kind, .int .i64 zq.h.n, .int .i64 zq.h.d, .string zq.h.name, .int .i64 zq.h.k, .slice zq.A zq.len zq.cap, .string (⟨#[101, 120, 112]⟩ ++ S), .int .i64 z10.h.kind, .int .i64 z10.h.n, .int .i64 z10.h.d, .string z10.h.name, .int .i64 z10.h.k, .slice z10.A z10.len z10.cap, .string (⟨#[115, 113, 114, 116]⟩ ++ U ++ ⟨#[43, 108, 111, 103]⟩ ++ S), .int .i64 z11.h.kind, .int .i64 z11.h.n, .int .i64 z11.h.d, .string z11.h.name, .int .i64 z11.h.k, .slice z11.A z11.len z11.cap, .string (⟨#[115, 105, 110]⟩ ++ S ++ ⟨#[42, 99, 111, 115]⟩ ++ U), .int .i64 z12.h.kind, .int .i64 z12.h.n, .int .i64 z12.h.d, .string z12.h.name, .int .i64 z12.h.k, .slice z12.A z12.len z12.cap] by rw [hw]; exact Blk.new _ _ _)
    rw [← hw]
    clear hw
    clear hHeld
    refine hK.out _ _ ?_ (fun hHeld => ?_)
    case refine_1 => exact ⟨R419b0.out.cell 0, R419b0.out.cell 1, R419b0.out.cell 2, R419b0.out.cell 3, R419b0.out.cell 4, R419b0.out.cell 5, R419b1.out.cell 0, R419b1.out.cell 1, R419b1.out.cell 2, R419b1.out.cell 3, R419b1.out.cell 4, R419b1.out.cell 5, R419pw.out.cell 0, R419pw.out.cell 1, R419pw.out.cell 2, R419pw.out.cell 3, R419pw.out.cell 4, R419pw.out.cell 5⟩
    clear hK K
    refine nmL 118 1993841993677373809355710590420516863 ?_
    refine tkD 119 232 2658455991569831745807614120560689151 HBR ?_
    refine dnD HBR ?_
    obtain ⟨ka, hka⟩ : ∃ z, z = w418.heap.size := ⟨_, rfl⟩
    rw [← hka] at R419k ⊢
    clear hka
    have hA : a0.data.toList.length ≤ 1000 := by rw [lszg]; omega
    have hB : a1.data.toList.length ≤ 1000 := by rw [lszg]; omega
    obtain ⟨s0, s1, s2, s3, s4, s5, s6, s7, s8, s9, s10, s11⟩ := gs_all LS.out LU.out zS zU PT0.out PT1.out hA hB OK0.out OK1.out CUT.out.1 CUT.out.2.1 CUT.out.2.2
    have S0 := Lib.hid s0
    have S1 := Lib.hid s1
    have S2 := Lib.hid s2
    have S3 := Lib.hid s3
    have S4 := Lib.hid s4
    have S5 := Lib.hid s5
    have S6 := Lib.hid s6
    have S7 := Lib.hid s7
    have S8 := Lib.hid s8
    have S9 := Lib.hid s9
    have S10 := Lib.hid s10
    have S11 := Lib.hid s11
    clear hA hB s0 s1 s2 s3 s4 s5 s6 s7 s8 s9 s10 s11
    have HG := Lib.hid (all12 (P := GEl w419) (x0 := (S, X, v0)) (x1 := (⟨#[40]⟩ ++ S ++ ⟨#[41]⟩, X, v0)) (x2 := (S ++ ⟨#[43]⟩ ++ U, opE 3 [X, Y], z3)) (x3 := (S ++ ⟨#[45]⟩ ++ U ++ ⟨#[42]⟩ ++ S, opE 4 [X, opE 5 [Y, X]], z4)) (x4 := (S ++ ⟨#[42]⟩ ++ U ++ ⟨#[47]⟩ ++ S, opE 6 [opE 5 [X, Y], X], z5)) (x5 := (S ++ ⟨#[45]⟩ ++ U ++ ⟨#[43]⟩ ++ S, opE 3 [opE 4 [X, Y], X], z6)) (x6 := (⟨#[45]⟩ ++ S, opE 7 [X], z7)) (x7 := (S ++ ⟨#[94, 51]⟩, powE 3 X, vp)) (x8 := (⟨#[45]⟩ ++ S ++ ⟨#[94, 51, 42]⟩ ++ U, opE 5 [opE 7 [powE 3 X], Y], zq)) (x9 := (⟨#[101, 120, 112]⟩ ++ S, opE 9 [X], z10)) (x10 := (⟨#[115, 113, 114, 116]⟩ ++ U ++ ⟨#[43, 108, 111, 103]⟩ ++ S, opE 3 [opE 13 [Y], opE 10 [X]], z11)) (x11 := (⟨#[115, 105, 110]⟩ ++ S ++ ⟨#[42, 99, 111, 115]⟩ ++ U, opE 5 [opE 11 [X], opE 12 [Y]], z12)) ⟨Nat.le_trans S0.out.n (by decide), S0.out.e, R419n0.out⟩ ⟨Nat.le_trans S1.out.n (by decide), S1.out.e, R419n0.out⟩ ⟨Nat.le_trans S2.out.n (by decide), S2.out.e, R419iz3.out⟩ ⟨Nat.le_trans S3.out.n (by decide), S3.out.e, R419iz4.out⟩ ⟨Nat.le_trans S4.out.n (by decide), S4.out.e, R419iz5.out⟩ ⟨Nat.le_trans S5.out.n (by decide), S5.out.e, R419iz6.out⟩ ⟨Nat.le_trans S6.out.n (by decide), S6.out.e, R419iz7.out⟩ ⟨Nat.le_trans S7.out.n (by decide), S7.out.e, R419np.out⟩ ⟨Nat.le_trans S8.out.n (by decide), S8.out.e, R419izq.out⟩ ⟨Nat.le_trans S9.out.n (by decide), S9.out.e, R419iz10.out⟩ ⟨Nat.le_trans S10.out.n (by decide), S10.out.e, R419iz11.out⟩ ⟨Nat.le_trans S11.out.n (by decide), S11.out.e, R419iz12.out⟩)
    clear S0 S1 S2 S3 S4 S5 S6 S7 S8 S9 S10 S11
    have HK := Lib.hid (show Blk w419 ka 47 (([(S, X, v0), (⟨#[40]⟩ ++ S ++ ⟨#[41]⟩, X, v0), (S ++ ⟨#[43]⟩ ++ U, opE 3 [X, Y], z3), (S ++ ⟨#[45]⟩ ++ U ++ ⟨#[42]⟩ ++ S, opE 4 [X, opE 5 [Y, X]], z4), (S ++ ⟨#[42]⟩ ++ U ++ ⟨#[47]⟩ ++ S, opE 6 [opE 5 [X, Y], X], z5), (S ++ ⟨#[45]⟩ ++ U ++ ⟨#[43]⟩ ++ S, opE 3 [opE 4 [X, Y], X], z6), (⟨#[45]⟩ ++ S, opE 7 [X], z7), (S ++ ⟨#[94, 51]⟩, powE 3 X, vp), (⟨#[45]⟩ ++ S ++ ⟨#[94, 51, 42]⟩ ++ U, opE 5 [opE 7 [powE 3 X], Y], zq), (⟨#[101, 120, 112]⟩ ++ S, opE 9 [X], z10), (⟨#[115, 113, 114, 116]⟩ ++ U ++ ⟨#[43, 108, 111, 103]⟩ ++ S, opE 3 [opE 13 [Y], opE 10 [X]], z11), (⟨#[115, 105, 110]⟩ ++ S ++ ⟨#[42, 99, 111, 115]⟩ ++ U, opE 5 [opE 11 [X], opE 12 [Y]], z12)] : List (ByteArray × TE × Nd)).flatMap gCells).toArray from R419k.out)
    obtain ⟨GL, hGL⟩ : ∃ z : List (ByteArray × TE × Nd), z = [(S, X, v0), (⟨#[40]⟩ ++ S ++ ⟨#[41]⟩, X, v0), (S ++ ⟨#[43]⟩ ++ U, opE 3 [X, Y], z3), (S ++ ⟨#[45]⟩ ++ U ++ ⟨#[42]⟩ ++ S, opE 4 [X, opE 5 [Y, X]], z4), (S ++ ⟨#[42]⟩ ++ U ++ ⟨#[47]⟩ ++ S, opE 6 [opE 5 [X, Y], X], z5), (S ++ ⟨#[45]⟩ ++ U ++ ⟨#[43]⟩ ++ S, opE 3 [opE 4 [X, Y], X], z6), (⟨#[45]⟩ ++ S, opE 7 [X], z7), (S ++ ⟨#[94, 51]⟩, powE 3 X, vp), (⟨#[45]⟩ ++ S ++ ⟨#[94, 51, 42]⟩ ++ U, opE 5 [opE 7 [powE 3 X], Y], zq), (⟨#[101, 120, 112]⟩ ++ S, opE 9 [X], z10), (⟨#[115, 113, 114, 116]⟩ ++ U ++ ⟨#[43, 108, 111, 103]⟩ ++ S, opE 3 [opE 13 [Y], opE 10 [X]], z11), (⟨#[115, 105, 110]⟩ ++ S ++ ⟨#[42, 99, 111, 115]⟩ ++ U, opE 5 [opE 11 [X], opE 12 [Y]], z12)] := ⟨_, rfl⟩
    rw [← hGL] at HG HK
    clear hGL
    go_wp2_with fail
    go_loopg [233] 12 (fun k iv wr => ∃ j : Nat, iv = .int .i64 j ∧ j ≤ 12 ∧ k = 12 - j ∧ Hid (Below w419.heap.size w419 wr))
    case atStart => exact ⟨0, rfl, by omega, by omega, Lib.hid (Below.refl _ _)⟩
    case round =>
      obtain ⟨j, rfl, hj2, rfl, HQ⟩ := hrel
      have Jl := Lib.hid (R419l.out.trans (HQ.out.mono R419l.out.size))
      by_cases hlt : j < 12
      case neg =>
        have hjn : j = 12 := by omega
        subst hjn
        go_wp2_with fail
        go_ret
        exact ⟨rfl, Jl⟩
      case pos =>
        obtain ⟨⟨c, T, v⟩, hx, ⟨g1, g2, g3⟩⟩ := HG.out j hlt
        simp only at g1 g2 g3
        have GE := Lib.hid g2
        have GI := Lib.hid (g3.go HQ.out)
        have FK := Lib.hid (HK.out.belowW HQ.out)
        have Jr := Lib.hid (R419r.out.belowW HQ.out)
        have Jx := Lib.hid (R419x.out.belowW HQ.out)
        have ce : ∀ i u, i < 7 → (gCells (c, T, v))[i]? = some u → wr.cell? ⟨ka, j * 7 + i, none⟩ = some u := fun i u hi hu => by
          rw [FK.out.cell, List.getElem?_toArray, gl_cell GL j _ hx i hi]
          exact hu
        have q0 : wr.cell? ⟨ka, j * 7, none⟩ = some (.string c) := ce 0 _ (by omega) rfl
        have q1 : wr.cell? ⟨ka, j * 7 + 1, none⟩ = some (.int .i64 v.h.kind) := ce 1 _ (by omega) rfl
        have q2 : wr.cell? ⟨ka, j * 7 + 2, none⟩ = some (.int .i64 v.h.n) := ce 2 _ (by omega) rfl
        have q3 : wr.cell? ⟨ka, j * 7 + 3, none⟩ = some (.int .i64 v.h.d) := ce 3 _ (by omega) rfl
        have q4 : wr.cell? ⟨ka, j * 7 + 4, none⟩ = some (.string v.h.name) := ce 4 _ (by omega) rfl
        have q5 : wr.cell? ⟨ka, j * 7 + 5, none⟩ = some (.int .i64 v.h.k) := ce 5 _ (by omega) rfl
        have q6 : wr.cell? ⟨ka, j * 7 + 6, none⟩ = some (.slice v.A v.len v.cap) := ce 6 _ (by omega) rfl
        have dj : decide ((j : Int) < 12) = true := decide_eq_true (by omega)
        have dj' : decide (j < 12) = true := decide_eq_true hlt
        clear ce hx g2 g3
        have HQ9 := HQ
        go_upto_region 20 with (fail)
        obtain ⟨ww154, hw9⟩ : ∃ z9 : World, z9 = (wr.alloc (Obj.cells #[.string c, .int .i64 v.h.kind, .int .i64 v.h.n, .int .i64 v.h.d, .string v.h.name, .int .i64 v.h.k, .slice v.A v.len v.cap] 47)) := ⟨_, rfl⟩
        have HB154 := Lib.hid (show Below wr.heap.size wr ww154 by rw [hw9]; exact below_box _ _)
        have Nc154 := Lib.hid (show Blk ww154 (wr.heap.size) 47 #[.string c, .int .i64 v.h.kind, .int .i64 v.h.n, .int .i64 v.h.d, .string v.h.name, .int .i64 v.h.k, .slice v.A v.len v.cap] by rw [hw9]; exact Blk.new wr 47 #[.string c, .int .i64 v.h.kind, .int .i64 v.h.n, .int .i64 v.h.d, .string v.h.name, .int .i64 v.h.k, .slice v.A v.len v.cap])
        rw [← hw9]
        clear hw9
        have Z154l := Lib.hid (Jl.out.trans (HB154.out.mono Jl.out.size))
        have Z154r := Lib.hid (Jr.out.belowW HB154.out)
        have Z154x := Lib.hid (Jx.out.belowW HB154.out)
        have Z154v := Lib.hid (GI.out.belowW HB154.out)
        have Z154q := Lib.hid (HQ9.out.trans (HB154.out.mono HQ9.out.size))
        clear q0 q1 q2 q3 q4 q5 q6 dj dj'
        obtain ⟨cc0, _, cc1, _, cc2, _, cc3, _, cc4, _, cc5, _, cc6, _⟩ := Nc154.out.all7
        go_wp2_with fail
        refine (pExpr c ww154 g1 Z154r.out Z154x.out).mono ?_
        rintro e ww155 ⟨y, rfl, HB155, HO⟩
        have Z155l := Lib.hid (Z154l.out.trans (HB155.out.mono Z154l.out.size))
        have Z155r := Lib.hid (Z154r.out.belowW HB155.out)
        have Z155x := Lib.hid (Z154x.out.belowW HB155.out)
        have Z155v := Lib.hid (Z154v.out.belowW HB155.out)
        have Z155q := Lib.hid (Z154q.out.trans (HB155.out.mono Z154q.out.size))
        have Z155c := Lib.hid (Nc154.out.belowW HB155.out)
        clear cc0 cc1 cc2 cc3 cc4 cc5 cc6
        rw [GE.out] at HO
        rw [GE.out]
        obtain ⟨T1, hT1, hy⟩ := HO.2 rfl
        injection hT1 with hT1
        subst hT1
        have HY := Lib.hid hy.toE
        clear HO hy
        go_upto_region 21 with (fail)
        obtain ⟨ww156, hw9⟩ : ∃ z9 : World, z9 = ((ww155.alloc (Obj.cells #[.int .i64 y.h.kind, .int .i64 y.h.n, .int .i64 y.h.d, .string y.h.name, .int .i64 y.h.k, .slice y.A y.len y.cap] 29)).alloc (Obj.cells #[.int .i64 0, .int .i64 0] 40)) := ⟨_, rfl⟩
        have HB156 := Lib.hid (show Below ww155.heap.size ww155 ww156 by rw [hw9]; exact (below_box _ _).trans ((below_box _ _).mono (by simp)))
        have Ng156 := Lib.hid (show Blk ww156 (ww155.heap.size) 29 #[.int .i64 y.h.kind, .int .i64 y.h.n, .int .i64 y.h.d, .string y.h.name, .int .i64 y.h.k, .slice y.A y.len y.cap] by rw [hw9]; exact Blk.belowW (Blk.new ww155 29 #[.int .i64 y.h.kind, .int .i64 y.h.n, .int .i64 y.h.d, .string y.h.name, .int .i64 y.h.k, .slice y.A y.len y.cap]) (below_box _ _))
        have No156 := Lib.hid (show Blk ww156 (ww155.heap.size + 1) 40 #[.int .i64 0, .int .i64 0] by rw [hw9]; exact (by have := Blk.new (ww155.alloc (Obj.cells #[.int .i64 y.h.kind, .int .i64 y.h.n, .int .i64 y.h.d, .string y.h.name, .int .i64 y.h.k, .slice y.A y.len y.cap] 29)) 40 #[.int .i64 0, .int .i64 0]; simpa using this))
        rw [← hw9]
        clear hw9
        have Z156l := Lib.hid (Z155l.out.trans (HB156.out.mono Z155l.out.size))
        have Z156r := Lib.hid (Z155r.out.belowW HB156.out)
        have Z156x := Lib.hid (Z155x.out.belowW HB156.out)
        have Z156v := Lib.hid (Z155v.out.belowW HB156.out)
        have Z156q := Lib.hid (Z155q.out.trans (HB156.out.mono Z155q.out.size))
        have Z156c := Lib.hid (Z155c.out.belowW HB156.out)
        have Z156y := Lib.hid (HY.out.belowW HB156.out)
        obtain ⟨cg0, _, cg1, _, cg2, _, cg3, _, cg4, _, cg5, _⟩ := Ng156.out.all6
        obtain ⟨cc0, _, cc1, _, cc2, _, cc3, _, cc4, _, cc5, _, cc6, _⟩ := Z156c.out.all7
        go_wp2_with fail
        refine (show Calls Tryz.prog 17 #[.agg #[.int .i64 y.h.kind, .int .i64 y.h.n, .int .i64 y.h.d, .string y.h.name, .int .i64 y.h.k, .slice y.A y.len y.cap], .agg #[.int .i64 v.h.kind, .int .i64 v.h.n, .int .i64 v.h.d, .string v.h.name, .int .i64 v.h.k, .slice v.A v.len v.cap]] ww156 _ from same_any _ T (Nat.le_refl _) T y v ww156 Z156y.out Z156v.out).mono ?_
        rintro e ww157 ⟨rs, rfl, HRS, HB157⟩
        have Z157l := Lib.hid (Z156l.out.trans (HB157.out.mono Z156l.out.size))
        have Z157r := Lib.hid (Z156r.out.belowW HB157.out)
        have Z157x := Lib.hid (Z156x.out.belowW HB157.out)
        have Z157v := Lib.hid (Z156v.out.belowW HB157.out)
        have Z157q := Lib.hid (Z156q.out.trans (HB157.out.mono Z156q.out.size))
        have Z157c := Lib.hid (Z156c.out.belowW HB157.out)
        have Z157y := Lib.hid (Z156y.out.belowW HB157.out)
        have Z157g := Lib.hid (Ng156.out.belowW HB157.out)
        have Z157o := Lib.hid (No156.out.belowW HB157.out)
        clear cg0 cg1 cg2 cg3 cg4 cg5 cc0 cc1 cc2 cc3 cc4 cc5 cc6
        obtain rfl : rs = true := HRS.out.2 rfl
        go_wp2_with fail
        go_roundg (12 - (j + 1))
        case measure => omega
        case rel => exact ⟨j + 1, by go_num, by omega, rfl, Z157q⟩
end Go.Proofs.YtkjoohnndobjeaaGreatDoor
