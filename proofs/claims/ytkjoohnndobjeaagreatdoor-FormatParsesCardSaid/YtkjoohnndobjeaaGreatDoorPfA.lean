/-
  The walk of FormatParses.
-/
import Derived.Test.YtkjoohnndobjeaaGreatDoorQL
import Derived.Test.YtkjoohnndobjeaaGreatDoorPaQ
import Derived.Test.YtkjoohnndobjeaaGreatDoorQM
import Derived.Test.YtkjoohnndobjeaaGreatDoorQN
set_option linter.unusedVariables false
namespace Go.Proofs.YtkjoohnndobjeaaGreatDoor
open Go.RowKit Go.Fl Go.Fl.Lx Go.Fl.Nm Go.Fl.Fm Go.Fl.Rt Go.Fl.Pa
theorem nameP_word (l : List UInt8) (h : nameP l = true) : wordP l = true ∧ l.length ≤ 20 := by
  unfold nameP at h
  simp only [Bool.and_eq_true, decide_eq_true_eq] at h
  exact ⟨h.1.1, h.1.2⟩
theorem nameP_fn (c : Int) : nameP (fnK c) = false := by
  unfold fnK
  split
  · decide
  split
  · decide
  split
  · decide
  split <;> decide
theorem expr_ok {l : List UInt8} {ts : List Tok} {T : TE} (h3 : lexRes l = .ok ts) (h4 : sumP nameP ts (8 * ts.length + 8) 0 0 = .ok T ts.length) (h : okE T = true) : exprR l = ((0, 0, 0), some T) := by
  unfold exprR runR
  rw [h3]
  show runS ts okE (sumP nameP ts (8 * ts.length + 8) 0 0) = _
  rw [h4]
  show (if ts.length < ts.length then (((tk ts ts.length).line, (tk ts ts.length).col, 3), none) else if okE T then ((0, 0, 0), some T) else ((0, 0, 5), some T)) = _
  rw [if_neg (Nat.lt_irrefl _), if_pos h]
/-- The text of a valid expression is read as the expression. -/
theorem expr_txt {T : TE} (h : okE T = true) : exprR (txt 20 T) = ((0, 0, 0), some T) := by
  obtain ⟨h1, h2⟩ := txt20 h
  obtain ⟨ts, h3, h4⟩ := txt_read nameP_word nameP_fn h1 (by omega) (by omega)
  exact expr_ok h3 h4 h
theorem bytes_ext {a b : ByteArray} (h : a.data.toList = b.data.toList) : a = b := ByteArray.ext (Array.toList_inj.1 h)
set_option maxHeartbeats 4000000 in
set_option maxRecDepth 100000 in
theorem formatParses_any (T : TE) (v : Nd) (w : World) (hR : RX w) (hX : FX w) (hin : InE w T v) : Calls Tryz.prog 5 #[v.val] w (RetB (.bool true) w) := by
  have HR := Lib.hid hR
  have HX := Lib.hid hX
  have HIN := Lib.hid hin
  clear hR hX hin
  obtain ⟨⟨kd, n, d, nm, k⟩, A, len, cap⟩ := v
  simp only [Nd.val]
  go_enter Tryz.func5, Tryz.ntmps5
  go_upto_region 1 with (fail)
  obtain ⟨w1, hw1⟩ : ∃ z9 : World, z9 = w.alloc (Obj.cells #[.int .i64 kd, .int .i64 n, .int .i64 d, .string nm, .int .i64 k, .slice A len cap] 29) := ⟨_, rfl⟩
  have HL1 := Lib.hid (show Below w.heap.size w w1 by rw [hw1]; exact below_box _ _)
  have F1 := Lib.hid (show Blk w1 w.heap.size 29 #[.int .i64 kd, .int .i64 n, .int .i64 d, .string nm, .int .i64 k, .slice A len cap] by rw [hw1]; exact Blk.new _ _ _)
  rw [← hw1]
  clear hw1
  go_wp2_with fail
  refine (fAwake_any w1 (HR.out.belowW HL1.out).1).mono ?_
  rintro e w2 ⟨rfl, HB2⟩
  have HL2 := Lib.hid (HL1.out.trans (HB2.out.mono HL1.out.size))
  have F2 := Lib.hid (F1.out.belowW HB2.out)
  obtain ⟨a0, _, a1, _, a2, _, a3, _, a4, _, a5, _⟩ := F2.out.all6
  go_wp2_with fail
  refine (fexpr_any T ⟨⟨kd, n, d, nm, k⟩, A, len, cap⟩ w2 (HIN.out.go HL2.out) (HR.out.belowW HL2.out).1).mono ?_
  rintro e w3 ⟨S, rfl, HS, HB3⟩
  have HL3 := Lib.hid (HL2.out.trans (HB3.out.mono HL2.out.size))
  have F3 := Lib.hid (F2.out.belowW HB3.out)
  clear a0 a1 a2 a3 a4 a5
  cases hok : okE T with
  | false =>
    go_wp2_with fail
    go_ret
    exact ⟨rfl, HL3⟩
  | true =>
    have HOK := Lib.hid hok
    have HS1 := Lib.hid (show S.data.toList = txt 20 T by have h := HS.out; rw [hok, if_pos rfl] at h; exact h)
    have HEX := Lib.hid (expr_txt hok)
    have hsz : S.size ≤ maxLen := Nat.le_trans (show S.data.toList.length ≤ 10000 by rw [HS1.out]; exact (txt20 hok).2) (by decide)
    clear hok HS
    go_wp2_with fail
    refine (pExpr S w3 hsz (HR.out.belowW HL3.out) (HX.out.belowW HL3.out)).mono ?_
    rintro e w4 ⟨x, rfl, HB4, HO4⟩
    rw [HS1.out, HEX.out] at HO4
    rw [HS1.out, HEX.out]
    obtain ⟨T1, hT1, hx1⟩ := HO4.2 rfl
    injection hT1 with hT1
    subst hT1
    have HX4 := Lib.hid hx1
    clear HO4 hx1
    have HL4 := Lib.hid (HL3.out.trans (HB4.out.mono HL3.out.size))
    have F4 := Lib.hid (F3.out.belowW HB4.out)
    go_upto_region 7 with (fail)
    obtain ⟨w5, hw5⟩ : ∃ z9 : World, z9 = (w4.alloc (Obj.cells #[.int .i64 x.h.kind, .int .i64 x.h.n, .int .i64 x.h.d, .string x.h.name, .int .i64 x.h.k, .slice x.A x.len x.cap] 29)).alloc (Obj.cells #[.int .i64 0, .int .i64 0] 40) := ⟨_, rfl⟩
    have HB5 := Lib.hid (show Below w4.heap.size w4 w5 by rw [hw5]; exact (below_box _ _).trans ((below_box _ _).mono (by simp)))
    have E5 := Lib.hid (show Blk w5 w4.heap.size 29 #[.int .i64 x.h.kind, .int .i64 x.h.n, .int .i64 x.h.d, .string x.h.name, .int .i64 x.h.k, .slice x.A x.len x.cap] by rw [hw5]; exact (Blk.new w4 29 #[.int .i64 x.h.kind, .int .i64 x.h.n, .int .i64 x.h.d, .string x.h.name, .int .i64 x.h.k, .slice x.A x.len x.cap]).belowW (below_box _ _))
    rw [← hw5]
    clear hw5
    have HL5 := Lib.hid (HL4.out.trans (HB5.out.mono HL4.out.size))
    have F5 := Lib.hid (F4.out.belowW HB5.out)
    have HX5 := Lib.hid (HX4.out.belowW HB5.out)
    obtain ⟨c0, _, c1, _, c2, _, c3, _, c4, _, c5, _⟩ := E5.out.all6
    go_wp2_with fail
    refine (show Calls Tryz.prog 27 #[.agg #[.int .i64 x.h.kind, .int .i64 x.h.n, .int .i64 x.h.d, .string x.h.name, .int .i64 x.h.k, .slice x.A x.len x.cap]] w5 _ from fexpr_any T x w5 HX5.out.toE (HR.out.belowW HL5.out).1).mono ?_
    rintro e w6 ⟨S2, rfl, HS2, HB6⟩
    have hS2 : S2 = S := bytes_ext (by have h := HS2.out; rw [HOK.out, if_pos rfl] at h; rw [h, HS1.out])
    subst hS2
    rw [HOK.out]
    have HL6 := Lib.hid (HL5.out.trans (HB6.out.mono HL5.out.size))
    have F6 := Lib.hid (F5.out.belowW HB6.out)
    have E6 := Lib.hid (E5.out.belowW HB6.out)
    have HX6 := Lib.hid (HX5.out.belowW HB6.out)
    clear c0 c1 c2 c3 c4 c5
    obtain ⟨c0, _, c1, _, c2, _, c3, _, c4, _, c5, _⟩ := E6.out.all6
    obtain ⟨a0, _, a1, _, a2, _, a3, _, a4, _, a5, _⟩ := F6.out.all6
    go_wp2_with fail
    refine (show Calls Tryz.prog 28 #[.agg #[.int .i64 x.h.kind, .int .i64 x.h.n, .int .i64 x.h.d, .string x.h.name, .int .i64 x.h.k, .slice x.A x.len x.cap], .agg #[.int .i64 kd, .int .i64 n, .int .i64 d, .string nm, .int .i64 k, .slice A len cap]] w6 _ from treeEqual_any T T x ⟨⟨kd, n, d, nm, k⟩, A, len, cap⟩ w6 HX6.out.toE (HIN.out.go HL6.out)).mono ?_
    rintro e w7 ⟨r, rfl, HR7, HB7⟩
    have hr : r = true := HR7.out.2 ⟨HOK.out, HOK.out, rfl⟩
    subst hr
    go_wp2_with fail
    go_ret
    exact ⟨ret_bool (by simp), Lib.hid (HL6.out.trans (HB7.out.mono HL6.out.size))⟩
end Go.Proofs.YtkjoohnndobjeaaGreatDoor
