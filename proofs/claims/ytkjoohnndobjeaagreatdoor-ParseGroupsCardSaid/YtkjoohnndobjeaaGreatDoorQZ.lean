/-
  The walks of the tests whether two expressions have the same fields.
  The walk of FormatParses.
-/
import Derived.Test.YtkjoohnndobjeaaGreatDoorQJ
import Derived.Test.YtkjoohnndobjeaaGreatDoorQH
import Derived.Test.YtkjoohnndobjeaaGreatDoorQL
import Derived.Test.YtkjoohnndobjeaaGreatDoorQM
import Derived.Test.YtkjoohnndobjeaaGreatDoorQN
set_option linter.unusedVariables false
namespace Go.Proofs.YtkjoohnndobjeaaGreatDoor
open Go.RowKit Go.Fl Go.Fl.Lx Go.Fl.Nm Go.Fl.Fm Go.Fl.Rt Go.Fl.Pa
/-- What a test whether two things are equal answers. -/
def EqR {α : Type} (a b : α) (w : World) (e : Ending) (w' : World) : Prop := ∃ r : Bool, e = .returned (.bool r) ∧ Hid (r = true ↔ a = b) ∧ Hid (Below w.heap.size w w')
theorem te_ext {T U : TE} (h : T.h = U.h) (l : T.l = U.l) : T = U := by
  obtain ⟨a, b⟩ := T
  obtain ⟨c, d⟩ := U
  simp only [TE.h, TE.l] at h l
  rw [h, l]
theorem size_lt {T : TE} {i : Nat} (h : i < T.l.length) : SizeOf.sizeOf (T.l.getD i default) < SizeOf.sizeOf T := by
  obtain ⟨a, b⟩ := T
  simp only [TE.l] at h ⊢
  rw [List.getD_eq_getElem?_getD, List.getElem?_eq_getElem h, Option.getD_some]
  have := List.sizeOf_lt_of_mem (List.getElem_mem h)
  simp only [TE.mk.sizeOf_spec]
  omega
theorem list_getD_ext {l m : List TE} (h : l.length = m.length) (hj : ∀ j, j < l.length → l.getD j default = m.getD j default) : l = m := by
  apply List.ext_getElem h
  intro i h1 h2
  have := hj i h1
  rw [List.getD_eq_getElem?_getD, List.getD_eq_getElem?_getD, List.getElem?_eq_getElem h1, List.getElem?_eq_getElem h2] at this
  exact this
theorem InE.el {w : World} {T : TE} {v : Nd} (h : InE w T v) (i : Nat) (hi : i < v.len) : ∃ b o x, v.A = some ⟨b, o, none⟩ ∧ InE w (T.l.getD i default) x ∧ ElAt w b (o + i * 6) x := by
  obtain ⟨b, o, x, hA, hb, hx, hc⟩ := h.at_ i hi
  refine ⟨b, o, x, hA, hx, hb, fun j u hu => ?_⟩
  have hj : j < 6 := (List.getElem?_eq_some_iff.1 hu).1
  have := hc j u hu hj
  rwa [← Nat.add_assoc] at this

set_option maxHeartbeats 4000000 in
set_option maxRecDepth 100000 in
theorem eqf_same (T U : TE) (v u : Nd) (w : World) (hT : InE w T v) (hU : InE w U u)
    (ih : ∀ i, i < v.len → ∀ x y w', InE w' (T.l.getD i default) x → InE w' (U.l.getD i default) y → Calls Tryz.prog 17 #[x.val, y.val] w' (EqR (T.l.getD i default) (U.l.getD i default) w')) :
    Calls Tryz.prog 44 #[.slice v.A v.len v.cap, .slice u.A u.len u.cap, .func (.func 17) #[] #[]] w (EqR T.l U.l w) := by
  have HX := Lib.hid hT
  have HY := Lib.hid hU
  have IH := Lib.hid ih
  have HLT := Lib.hid hT.length
  have HLU := Lib.hid hU.length
  have hcv := hT.caps
  unfold maxLen at hcv
  clear hT hU ih
  obtain ⟨vh, A, len, cap⟩ := v
  obtain ⟨uh, A2, len2, cap2⟩ := u
  simp only at HLT HLU IH hcv ⊢
  obtain ⟨hcv1, hcv2⟩ := hcv
  by_cases hll : len = len2
  case neg =>
    have d1 : ((len : Int) != (len2 : Int)) = true := by rw [bne_iff_ne]; omega
    have d2 : (len != len2) = true := by rw [bne_iff_ne]; exact hll
    go_enter Tryz.func44, Tryz.ntmps44
    go_wp2_with fail
    go_ret
    exact ⟨_, rfl, Lib.hid ⟨fun h => (by cases h), fun h => absurd (by rw [← HLT.out, ← HLU.out, h]) hll⟩, Lib.hid (Below.refl _ _)⟩
  subst hll
  have d1 : ((len : Int) != (len : Int)) = false := by simp
  go_enter Tryz.func44, Tryz.ntmps44
  go_wp2_with fail
  go_loopg [17] len (fun gk d wr => ∃ i : Nat, d = .int .i64 (i : Nat) ∧ i ≤ len ∧ gk = len - i ∧ Hid (∀ j, j < i → T.l.getD j default = U.l.getD j default) ∧ Hid (Below w.heap.size w wr))
  case atStart => exact ⟨0, rfl, Nat.zero_le _, rfl, Lib.hid (fun j hj => absurd hj (Nat.not_lt_zero j)), Lib.hid (Below.refl _ _)⟩
  case round =>
    obtain ⟨i, rfl, hi, rfl, HEQ, HL⟩ := hrel
    have hls := HL.out.size
    by_cases hlt : i < len
    · obtain ⟨b, o, x, hA, hx, ex⟩ := (HX.out.belowW HL.out).el i hlt
      obtain ⟨b2, o2, y, hA2, hy, ey⟩ := (HY.out.belowW HL.out).el i hlt
      simp only at hA hA2
      subst hA hA2
      have d3 : decide ((i : Int) < (len : Int)) = true := decide_eq_true (by omega)
      have d4 : decide (i < len) = true := decide_eq_true hlt
      have hidx : 0 ≤ (i : Int) ∧ (i : Int) < (len : Int) := by omega
      have HXx := Lib.hid hx
      have HYy := Lib.hid hy
      have EY := Lib.hid ey
      have c0 := ex.c0
      have c1 := ex.c1
      have c2 := ex.c2
      have c3 := ex.c3
      have c4 := ex.c4
      have c5 := ex.c5
      clear hx hy ey ex
      go_upto_region 6 with (fail)
      obtain ⟨w1, hw1⟩ : ∃ z9 : World, z9 = wr.alloc (Obj.cells #[.int .i64 x.h.kind, .int .i64 x.h.n, .int .i64 x.h.d, .string x.h.name, .int .i64 x.h.k, .slice x.A x.len x.cap] 29) := ⟨_, rfl⟩
      have HB1 := Lib.hid (show Below wr.heap.size wr w1 by rw [hw1]; exact below_box _ _)
      have E1 := Lib.hid (show Blk w1 wr.heap.size 29 #[.int .i64 x.h.kind, .int .i64 x.h.n, .int .i64 x.h.d, .string x.h.name, .int .i64 x.h.k, .slice x.A x.len x.cap] by rw [hw1]; exact Blk.new _ _ _)
      rw [← hw1]
      clear hw1 c0 c1 c2 c3 c4 c5
      have EY1 := Lib.hid (EY.out.belowW HB1.out)
      have c0 := EY1.out.c0
      have c1 := EY1.out.c1
      have c2 := EY1.out.c2
      have c3 := EY1.out.c3
      have c4 := EY1.out.c4
      have c5 := EY1.out.c5
      go_upto_region 7 with (fail)
      obtain ⟨w2, hw2⟩ : ∃ z9 : World, z9 = w1.alloc (Obj.cells #[.int .i64 y.h.kind, .int .i64 y.h.n, .int .i64 y.h.d, .string y.h.name, .int .i64 y.h.k, .slice y.A y.len y.cap] 29) := ⟨_, rfl⟩
      have HB2 := Lib.hid (show Below w1.heap.size w1 w2 by rw [hw2]; exact below_box _ _)
      have E2 := Lib.hid (show Blk w2 w1.heap.size 29 #[.int .i64 y.h.kind, .int .i64 y.h.n, .int .i64 y.h.d, .string y.h.name, .int .i64 y.h.k, .slice y.A y.len y.cap] by rw [hw2]; exact Blk.new _ _ _)
      rw [← hw2]
      clear hw2 c0 c1 c2 c3 c4 c5
      have HB12 := Lib.hid (HB1.out.trans (HB2.out.mono HB1.out.size))
      have E1' := Lib.hid (E1.out.belowW HB2.out)
      have KC := Lib.hid (IH.out i hlt x y w2 (HXx.out.belowW HB12.out) (HYy.out.belowW HB12.out))
      have HL2 := Lib.hid (HL.out.trans (HB12.out.mono hls))
      obtain ⟨a0, _, a1, _, a2, _, a3, _, a4, _, a5, _⟩ := E1'.out.all6
      obtain ⟨b0, _, b1, _, b2', _, b3, _, b4, _, b5, _⟩ := E2.out.all6
      go_wp2_with fail
      refine KC.out.mono ?_
      rintro e w3 ⟨r, rfl, HR, HB3⟩
      have HL3 := Lib.hid (HL2.out.trans (HB3.out.mono HL2.out.size))
      cases r with
      | false =>
        go_wp2_with fail
        go_ret
        refine ⟨_, rfl, Lib.hid ⟨fun h => (by cases h), fun h => ?_⟩, HL3⟩
        have := HR.out.2 (by rw [h])
        cases this
      | true =>
        have HE1 := Lib.hid (HR.out.1 rfl)
        have e1 : IntKind.i64.wrap ((i : Int) + 1) = (i : Int) + 1 := by rw [IntKind.wrap_i64]; omega
        go_wp2_with fail
        go_roundg (len - (i + 1))
        case measure => omega
        case rel => exact ⟨i + 1, by go_num, by omega, rfl, Lib.hid (fun j hj => by
          by_cases hji : j = i
          · rw [hji]; exact HE1.out
          · exact HEQ.out j (by omega)), HL3⟩
    · have d3 : decide ((i : Int) < (len : Int)) = false := decide_eq_false (by omega)
      have d4 : decide (i < len) = false := decide_eq_false hlt
      go_wp2_with fail
      go_ret
      exact ⟨_, rfl, Lib.hid ⟨fun _ => list_getD_ext (HLT.out.trans HLU.out.symm) (fun j hj => HEQ.out j (by rw [HLT.out] at hj; omega)), fun _ => rfl⟩, HL⟩

set_option maxHeartbeats 4000000 in
set_option maxRecDepth 100000 in
theorem same_any : ∀ (z : Nat) (T : TE), SizeOf.sizeOf T ≤ z → ∀ (U : TE) (v u : Nd) (w : World), InE w T v → InE w U u → Calls Tryz.prog 17 #[v.val, u.val] w (EqR T U w) := by
  intro z
  induction z with
  | zero =>
    intro T hz
    exfalso
    obtain ⟨a, b⟩ := T
    simp only [TE.mk.sizeOf_spec] at hz
    omega
  | succ z ih =>
    intro T hz U v u w hT hU
    have KF := Lib.hid (fun (w' : World) (hb : Below w.heap.size w w') => eqf_same T U v u w' (hT.belowW hb) (hU.belowW hb) (fun i hi x y w2 hx hy => ih _ (by
      have := size_lt (T := T) (i := i) (by rw [hT.length]; exact hi)
      omega) _ x y w2 hx hy))
    have hh : T.h = v.h := hT.hd
    have hh' : U.h = u.h := hU.hd
    have HTE := Lib.hid (show T = U ↔ v.h = u.h ∧ T.l = U.l from ⟨fun e => by rw [← hh, ← hh', e]; exact ⟨rfl, rfl⟩, fun e => te_ext (by rw [hh, hh', e.1]) e.2⟩)
    clear hT hU hz ih hh hh'
    obtain ⟨⟨kd, n, d, s, k⟩, A, len, cap⟩ := v
    obtain ⟨⟨kd', n', d', s', k'⟩, A', len', cap'⟩ := u
    simp only [Nd.val] at KF HTE ⊢
    go_enter Tryz.func17, Tryz.ntmps17
    go_upto_region 1 with (fail)
    obtain ⟨w2, hw2⟩ : ∃ z9 : World, z9 = (w.alloc (Obj.cells #[.int .i64 kd, .int .i64 n, .int .i64 d, .string s, .int .i64 k, .slice A len cap] 29)).alloc (Obj.cells #[.int .i64 kd', .int .i64 n', .int .i64 d', .string s', .int .i64 k', .slice A' len' cap'] 29) := ⟨_, rfl⟩
    have HW := Lib.hid (show Below w.heap.size w w2 by rw [hw2]; exact (below_box _ _).trans ((below_box _ _).mono (by simp)))
    have E1 := Lib.hid (show Blk w2 w.heap.size 29 #[.int .i64 kd, .int .i64 n, .int .i64 d, .string s, .int .i64 k, .slice A len cap] by rw [hw2]; exact (Blk.new w 29 #[.int .i64 kd, .int .i64 n, .int .i64 d, .string s, .int .i64 k, .slice A len cap]).belowW (below_box _ _))
    have E2 := Lib.hid (show Blk w2 (w.heap.size + 1) 29 #[.int .i64 kd', .int .i64 n', .int .i64 d', .string s', .int .i64 k', .slice A' len' cap'] by rw [hw2]; exact (by have := Blk.new (w.alloc (Obj.cells #[.int .i64 kd, .int .i64 n, .int .i64 d, .string s, .int .i64 k, .slice A len cap] 29)) 29 #[.int .i64 kd', .int .i64 n', .int .i64 d', .string s', .int .i64 k', .slice A' len' cap']; simpa using this))
    rw [← hw2]
    clear hw2
    obtain ⟨a0, _, a1, _, a2, _, a3, _, a4, _, a5, _⟩ := E1.out.all6
    obtain ⟨b0, _, b1, _, b2, _, b3, _, b4, _, b5, _⟩ := E2.out.all6
    have heq := run_eq_rat
    obtain ⟨c1, h1⟩ : ∃ c, (kd == kd') = c := ⟨_, rfl⟩
    obtain ⟨c2, h2⟩ : ∃ c, (n == n' && d == d') = c := ⟨_, rfl⟩
    obtain ⟨c3, h3⟩ : ∃ c, (s == s') = c := ⟨_, rfl⟩
    obtain ⟨c4, h4⟩ : ∃ c, (k == k') = c := ⟨_, rfl⟩
    have h3' : (s.toList == s'.toList) = c3 := by rw [ByteArray.toList_eq, ByteArray.toList_eq, ← h3, Bool.eq_iff_iff, beq_iff_eq, MapKept.bytes_beq]; exact ⟨fun e => ByteArray.ext (Array.toList_inj.1 e), fun e => by rw [e]⟩
    have HD := Lib.hid (show T = U ↔ (c1 = true ∧ c2 = true ∧ c3 = true ∧ c4 = true) ∧ T.l = U.l from ⟨fun e => by
      obtain ⟨e1, e2⟩ := HTE.out.1 e
      injection e1 with e3 e4 e5 e6 e7
      refine ⟨⟨?_, ?_, ?_, ?_⟩, e2⟩
      · rw [← h1, e3]; simp
      · rw [← h2, e4, e5]; simp
      · rw [← h3, e6, MapKept.bytes_beq]
      · rw [← h4, e7]; simp, fun e => by
      obtain ⟨⟨e1, e2, e3, e4⟩, e5⟩ := e
      rw [← h1, beq_iff_eq] at e1
      rw [← h2, Bool.and_eq_true, beq_iff_eq, beq_iff_eq] at e2
      rw [← h3, MapKept.bytes_beq] at e3
      rw [← h4, beq_iff_eq] at e4
      exact HTE.out.2 ⟨by rw [e1, e2.1, e2.2, e3, e4], e5⟩⟩)
    clear HTE
    cases c1 with
    | false =>
      go_wp2_with fail
      go_ret
      exact ⟨_, rfl, Lib.hid ⟨fun h => (by cases h), fun h => by have := (HD.out.1 h).1.1; cases this⟩, HW⟩
    | true =>
      cases c2 with
      | false =>
        go_wp2_with fail
        go_ret
        exact ⟨_, rfl, Lib.hid ⟨fun h => (by cases h), fun h => by have := (HD.out.1 h).1.2.1; cases this⟩, HW⟩
      | true =>
        cases c3 with
        | false =>
          go_wp2_with fail
          go_ret
          exact ⟨_, rfl, Lib.hid ⟨fun h => (by cases h), fun h => by have := (HD.out.1 h).1.2.2.1; cases this⟩, HW⟩
        | true =>
          cases c4 with
          | false =>
            go_wp2_with fail
            go_ret
            exact ⟨_, rfl, Lib.hid ⟨fun h => (by cases h), fun h => by have := (HD.out.1 h).1.2.2.2; cases this⟩, HW⟩
          | true =>
            go_wp2_with fail
            refine (KF.out w2 HW.out).mono ?_
            rintro e w3 ⟨r, rfl, HR, HB3⟩
            go_wp2_with fail
            go_ret
            exact ⟨r, rfl, Lib.hid (HR.out.trans ⟨fun h => HD.out.2 ⟨⟨by trivial, by trivial, by trivial, by trivial⟩, h⟩, fun h => (HD.out.1 h).2⟩), Lib.hid (HW.out.trans (HB3.out.mono HW.out.size))⟩

end Go.Proofs.YtkjoohnndobjeaaGreatDoor
namespace Go.Proofs.YtkjoohnndobjeaaGreatDoor
open Go.RowKit Go.Fl Go.Fl.Lx Go.Fl.Nm Go.Fl.Fm Go.Fl.Rt Go.Fl.Pa
theorem nameP_fn (c : Int) : nameP (fnK c) = false := by
  unfold fnK
  split
  · decide
  split
  · decide
  split
  · decide
  split <;> decide
theorem expr_ok {l : List UInt8} {ts : List Tok} {T : TE} (h3 : lexRes l = .ok ts) (h4 : sumP nameP ts (8 * ts.length + 8) 0 0 = .ok T ts.length) (h : okE T = true) : exprR l = ((0, 0, 0), some T) := by
  unfold exprR runR
  rw [h3]
  show runS ts okE (sumP nameP ts (8 * ts.length + 8) 0 0) = _
  rw [h4]
  show (if ts.length < ts.length then (((tk ts ts.length).line, (tk ts ts.length).col, 3), none) else if okE T then ((0, 0, 0), some T) else ((0, 0, 5), some T)) = _
  rw [if_neg (Nat.lt_irrefl _), if_pos h]
end Go.Proofs.YtkjoohnndobjeaaGreatDoor
