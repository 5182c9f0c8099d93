/-
  The walk of FormatExprs.
-/
import Derived.Test.YtoogeihbhhcpaaaDoorFmW
import Derived.Test.YtoogeihbhhcpaaaDoorFmZ
set_option linter.unusedVariables false
namespace Go.Proofs.YtoogeihbhhcpaaaDoor
open Go.RowKit Go.Fl Go.Fl.Nm Go.Fl.Fm Go.Fl.Rt
set_option maxHeartbeats 4000000 in
theorem formatExprs_any (T : TE) (v : Nd) (w : World) (ht : RB w) (hin : InE w T v) : Calls Tryd.prog 3 #[v.val] w (RetB (.bool true) w) := by
  have HT := Lib.hid ht
  have HIN := Lib.hid hin
  clear ht hin
  obtain ⟨⟨kd, n, d, nm, k⟩, A, len, cap⟩ := v
  simp only [Nd.val]
  cases hok : okE T with
  | false =>
    have HOK := Lib.hid hok
    clear hok
    go_enter Tryd.func3, Tryd.ntmps3
    go_wp2_with fail
    obtain ⟨w1, hw1⟩ : ∃ z9 : World, z9 = w.alloc (Obj.cells #[.int .i64 kd, .int .i64 n, .int .i64 d, .string nm, .int .i64 k, .slice A len cap] 26) := ⟨_, rfl⟩
    have HL1 := Lib.hid (show Below w.heap.size w w1 by rw [hw1]; exact below_box _ _)
    have F1 := Lib.hid (show Blk w1 w.heap.size 26 #[.int .i64 kd, .int .i64 n, .int .i64 d, .string nm, .int .i64 k, .slice A len cap] by rw [hw1]; exact Blk.new _ _ _)
    rw [← hw1]
    clear hw1
    refine (fAwake_any w1 (HT.out.belowW HL1.out)).mono ?_
    rintro e w2 ⟨rfl, HB2⟩
    have HL2 := Lib.hid (HL1.out.trans (HB2.out.mono HL1.out.size))
    have F2 := Lib.hid (F1.out.belowW HB2.out)
    have pr0 : w2.cell? ⟨w.heap.size, 0, none⟩ = some (.int .i64 kd) := F2.out.cell 0
    have pr1 : w2.cell? ⟨w.heap.size, 1, none⟩ = some (.int .i64 n) := F2.out.cell 1
    have pr2 : w2.cell? ⟨w.heap.size, 2, none⟩ = some (.int .i64 d) := F2.out.cell 2
    have pr3 : w2.cell? ⟨w.heap.size, 3, none⟩ = some (.string nm) := F2.out.cell 3
    have pr4 : w2.cell? ⟨w.heap.size, 4, none⟩ = some (.int .i64 k) := F2.out.cell 4
    have pr5 : w2.cell? ⟨w.heap.size, 5, none⟩ = some (.slice A len cap) := F2.out.cell 5
    go_wp2_with fail
    refine (fexpr_any T ⟨⟨kd, n, d, nm, k⟩, A, len, cap⟩ w2 (HIN.out.go HL2.out) (HT.out.belowW HL2.out)).mono ?_
    rintro e w3 ⟨S, rfl, HS, HB3⟩
    have hS := HS.out
    rw [HOK.out] at hS
    rw [HOK.out]
    have HS2 := Lib.hid hS
    have HL3 := Lib.hid (HL2.out.trans (HB3.out.mono HL2.out.size))
    have F3 := Lib.hid (F2.out.belowW HB3.out)
    clear pr0 pr1 pr2 pr3 pr4 pr5 hS
    have pr0 : w3.cell? ⟨w.heap.size, 0, none⟩ = some (.int .i64 kd) := F3.out.cell 0
    have pr1 : w3.cell? ⟨w.heap.size, 1, none⟩ = some (.int .i64 n) := F3.out.cell 1
    have pr2 : w3.cell? ⟨w.heap.size, 2, none⟩ = some (.int .i64 d) := F3.out.cell 2
    have pr3 : w3.cell? ⟨w.heap.size, 3, none⟩ = some (.string nm) := F3.out.cell 3
    have pr4 : w3.cell? ⟨w.heap.size, 4, none⟩ = some (.int .i64 k) := F3.out.cell 4
    have pr5 : w3.cell? ⟨w.heap.size, 5, none⟩ = some (.slice A len cap) := F3.out.cell 5
    go_wp2_with fail
    refine (eValid_r T ⟨⟨kd, n, d, nm, k⟩, A, len, cap⟩ w3 (HIN.out.go HL3.out)).mono ?_
    rintro e w4 ⟨rfl, HB4⟩
    rw [HOK.out]
    have HL4 := Lib.hid (HL3.out.trans (HB4.out.mono HL3.out.size))
    have F4 := Lib.hid (F3.out.belowW HB4.out)
    clear pr0 pr1 pr2 pr3 pr4 pr5
    have pr0 : w4.cell? ⟨w.heap.size, 0, none⟩ = some (.int .i64 kd) := F4.out.cell 0
    have pr1 : w4.cell? ⟨w.heap.size, 1, none⟩ = some (.int .i64 n) := F4.out.cell 1
    have pr2 : w4.cell? ⟨w.heap.size, 2, none⟩ = some (.int .i64 d) := F4.out.cell 2
    have pr3 : w4.cell? ⟨w.heap.size, 3, none⟩ = some (.string nm) := F4.out.cell 3
    have pr4 : w4.cell? ⟨w.heap.size, 4, none⟩ = some (.int .i64 k) := F4.out.cell 4
    have pr5 : w4.cell? ⟨w.heap.size, 5, none⟩ = some (.slice A len cap) := F4.out.cell 5
    have hE : S = ⟨#[]⟩ := by
      have h := HS2.out
      rw [if_neg Bool.false_ne_true] at h
      cases S; simpa using h
    subst hE
    go_wp2_with fail
    go_ret
    exact ⟨ret_bool (by simp), HL4⟩
  | true =>
    have HOK := Lib.hid hok
    have HTX := Lib.hid (txt20 hok)
    clear hok
    go_enter Tryd.func3, Tryd.ntmps3
    go_wp2_with fail
    obtain ⟨w1, hw1⟩ : ∃ z9 : World, z9 = w.alloc (Obj.cells #[.int .i64 kd, .int .i64 n, .int .i64 d, .string nm, .int .i64 k, .slice A len cap] 26) := ⟨_, rfl⟩
    have HL1 := Lib.hid (show Below w.heap.size w w1 by rw [hw1]; exact below_box _ _)
    have F1 := Lib.hid (show Blk w1 w.heap.size 26 #[.int .i64 kd, .int .i64 n, .int .i64 d, .string nm, .int .i64 k, .slice A len cap] by rw [hw1]; exact Blk.new _ _ _)
    rw [← hw1]
    clear hw1
    refine (fAwake_any w1 (HT.out.belowW HL1.out)).mono ?_
    rintro e w2 ⟨rfl, HB2⟩
    have HL2 := Lib.hid (HL1.out.trans (HB2.out.mono HL1.out.size))
    have F2 := Lib.hid (F1.out.belowW HB2.out)
    have pr0 : w2.cell? ⟨w.heap.size, 0, none⟩ = some (.int .i64 kd) := F2.out.cell 0
    have pr1 : w2.cell? ⟨w.heap.size, 1, none⟩ = some (.int .i64 n) := F2.out.cell 1
    have pr2 : w2.cell? ⟨w.heap.size, 2, none⟩ = some (.int .i64 d) := F2.out.cell 2
    have pr3 : w2.cell? ⟨w.heap.size, 3, none⟩ = some (.string nm) := F2.out.cell 3
    have pr4 : w2.cell? ⟨w.heap.size, 4, none⟩ = some (.int .i64 k) := F2.out.cell 4
    have pr5 : w2.cell? ⟨w.heap.size, 5, none⟩ = some (.slice A len cap) := F2.out.cell 5
    go_wp2_with fail
    refine (fexpr_any T ⟨⟨kd, n, d, nm, k⟩, A, len, cap⟩ w2 (HIN.out.go HL2.out) (HT.out.belowW HL2.out)).mono ?_
    rintro e w3 ⟨S, rfl, HS, HB3⟩
    have hS := HS.out
    rw [HOK.out] at hS
    rw [HOK.out]
    have HS2 := Lib.hid hS
    have HL3 := Lib.hid (HL2.out.trans (HB3.out.mono HL2.out.size))
    have F3 := Lib.hid (F2.out.belowW HB3.out)
    clear pr0 pr1 pr2 pr3 pr4 pr5 hS
    have pr0 : w3.cell? ⟨w.heap.size, 0, none⟩ = some (.int .i64 kd) := F3.out.cell 0
    have pr1 : w3.cell? ⟨w.heap.size, 1, none⟩ = some (.int .i64 n) := F3.out.cell 1
    have pr2 : w3.cell? ⟨w.heap.size, 2, none⟩ = some (.int .i64 d) := F3.out.cell 2
    have pr3 : w3.cell? ⟨w.heap.size, 3, none⟩ = some (.string nm) := F3.out.cell 3
    have pr4 : w3.cell? ⟨w.heap.size, 4, none⟩ = some (.int .i64 k) := F3.out.cell 4
    have pr5 : w3.cell? ⟨w.heap.size, 5, none⟩ = some (.slice A len cap) := F3.out.cell 5
    go_wp2_with fail
    refine (eValid_r T ⟨⟨kd, n, d, nm, k⟩, A, len, cap⟩ w3 (HIN.out.go HL3.out)).mono ?_
    rintro e w4 ⟨rfl, HB4⟩
    rw [HOK.out]
    have HL4 := Lib.hid (HL3.out.trans (HB4.out.mono HL3.out.size))
    have F4 := Lib.hid (F3.out.belowW HB4.out)
    clear pr0 pr1 pr2 pr3 pr4 pr5
    have pr0 : w4.cell? ⟨w.heap.size, 0, none⟩ = some (.int .i64 kd) := F4.out.cell 0
    have pr1 : w4.cell? ⟨w.heap.size, 1, none⟩ = some (.int .i64 n) := F4.out.cell 1
    have pr2 : w4.cell? ⟨w.heap.size, 2, none⟩ = some (.int .i64 d) := F4.out.cell 2
    have pr3 : w4.cell? ⟨w.heap.size, 3, none⟩ = some (.string nm) := F4.out.cell 3
    have pr4 : w4.cell? ⟨w.heap.size, 4, none⟩ = some (.int .i64 k) := F4.out.cell 4
    have pr5 : w4.cell? ⟨w.heap.size, 5, none⟩ = some (.slice A len cap) := F4.out.cell 5
    have K := Lib.hid (text_at 20 T ⟨⟨kd, n, d, nm, k⟩, A, len, cap⟩ w4 (HIN.out.go HL4.out) HTX.out.1 (by have := HTX.out.2; omega))
    go_wp2_with fail
    refine K.out.mono ?_
    rintro e w5 ⟨S2, rfl, HSS, HB5⟩
    have hE : S = S2 := by
      have h := HS2.out
      rw [if_pos trivial, ← HSS.out] at h
      cases S; cases S2; simpa using h
    subst hE
    go_wp2_with fail
    go_ret
    exact ⟨ret_bool (by simp), Lib.hid (HL4.out.trans (HB5.out.mono HL4.out.size))⟩
end Go.Proofs.YtoogeihbhhcpaaaDoor
