/-
  The program's text of an expression, and format.Expr.
-/
import Derived.Test.YtoogeihbhhcpaaaGreatDoorFmJ
import Derived.Test.YtoogeihbhhcpaaaGreatDoorFmK
import Derived.Test.YtoogeihbhhcpaaaGreatDoorFmL
import Derived.Test.YtoogeihbhhcpaaaGreatDoorFmN
set_option linter.unusedVariables false
namespace Go.Proofs.YtoogeihbhhcpaaaGreatDoor
open Go.RowKit Go.Fl Go.Fl.Nm Go.Fl.Fm Go.Fl.Rt
theorem expr_at : ∀ f, ExprAt f := by
  intro f
  induction f with
  | zero => intro T v w _ hg; exact hg.elim
  | succ f ih =>
    intro T v w hin hg hl ht
    have hnd := hg.1
    rw [hin.hd, hin.length] at hnd
    rcases node_kinds hnd with h | h | h | h | h | h
    · exact expr_k1 f ih T v w hin hg hl ht h.1
    · exact expr_k2 f ih T v w hin hg hl ht h.1
    · obtain h1 | h1 | h1 | h1 : v.h.kind = 3 ∨ v.h.kind = 4 ∨ v.h.kind = 5 ∨ v.h.kind = 6 := by omega
      · exact expr_k3 f ih T v w hin hg hl ht h1
      · exact expr_k4 f ih T v w hin hg hl ht h1
      · exact expr_k5 f ih T v w hin hg hl ht h1
      · exact expr_k6 f ih T v w hin hg hl ht h1
    · exact expr_k7 f ih T v w hin hg hl ht h.1
    · exact expr_k8 f ih T v w hin hg hl ht h.1
    · exact expr_fn f ih T v w hin hg hl ht ⟨h.1, h.2.1⟩
theorem name20 (l : List UInt8) (h : nameP l = true) : l.length ≤ 20 := by
  unfold nameP at h
  simp only [Bool.and_eq_true, decide_eq_true_eq] at h
  exact h.1.2
theorem okE_iff {T : TE} : okE T = true ↔ cR 20 T ≤ 200 := by unfold okE; exact decide_eq_true_iff
theorem txt20 {T : TE} (h : okE T = true) : good nameP 20 T ∧ (txt 20 T).length ≤ 10000 := by
  have h1 := okE_iff.1 h
  refine ⟨good_of nameP 20 T h1, ?_⟩
  have h2 := txt_len nameP name20 20 T h1
  have h3 : cntR nameP 20 T ≤ 200 := h1
  omega
/-- What format.Expr answers. -/
def ExP (T : TE) (w : World) (e : Ending) (w' : World) : Prop :=
  ∃ S : ByteArray, e = .returned (.tuple #[.string S, .int .i64 (if okE T then 0 else 1)]) ∧ Hid (S.data.toList = if okE T then txt 20 T else []) ∧ Hid (Below w.heap.size w w')
set_option maxHeartbeats 1000000 in
theorem fexpr_any (T : TE) (v : Nd) (w : World) (hin : InE w T v) (ht : RB w) : Calls Tryz.prog 17 #[v.val] w (ExP T w) := by
  have HIN := Lib.hid hin
  have HT := Lib.hid ht
  clear hin ht
  unfold ExP
  cases hok : okE T with
  | false =>
    have HOK := Lib.hid hok
    clear hok
    obtain ⟨⟨kd, n, d, nm, k⟩, A, len, cap⟩ := v
    simp only [Nd.val, Bool.false_eq_true, if_false]
    go_enter Tryz.func17, Tryz.ntmps17
    go_wp2_with fail
    refine (eValid_p T ⟨⟨kd, n, d, nm, k⟩, A, len, cap⟩ _ (HIN.out.go (below_box w _))).mono ?_
    rintro e w2 ⟨rfl, HB⟩
    rw [HOK.out]
    go_wp2_with fail
    refine bodyPost_ret (v := .tuple #[.string ⟨#[]⟩, .int .i64 1]) (by simp [results, Tryz.results17, go_sem]) rfl ?_
    exact ⟨_, rfl, Lib.hid rfl, Lib.hid ((below_box w _).trans (HB.out.mono (below_box w _).size))⟩
  | true =>
    have HOK := Lib.hid hok
    have HTX := Lib.hid (txt20 hok)
    clear hok
    obtain ⟨⟨kd, n, d, nm, k⟩, A, len, cap⟩ := v
    simp only [Nd.val, if_true]
    go_enter Tryz.func17, Tryz.ntmps17
    go_wp2_with fail
    obtain ⟨w1, hw1⟩ : ∃ z9 : World, z9 = w.alloc (Obj.cells #[.int .i64 kd, .int .i64 n, .int .i64 d, .string nm, .int .i64 k, .slice A len cap] 51) := ⟨_, rfl⟩
    have HW1 := Lib.hid (show Below w.heap.size w w1 by rw [hw1]; exact below_box _ _)
    have F1 := Lib.hid (show Blk w1 w.heap.size 51 #[.int .i64 kd, .int .i64 n, .int .i64 d, .string nm, .int .i64 k, .slice A len cap] by rw [hw1]; exact Blk.new _ _ _)
    rw [← hw1]
    clear hw1
    refine (eValid_p T ⟨⟨kd, n, d, nm, k⟩, A, len, cap⟩ w1 (HIN.out.go HW1.out)).mono ?_
    rintro e w2 ⟨rfl, HB⟩
    rw [HOK.out]
    have HW2 := Lib.hid (HW1.out.trans (HB.out.mono HW1.out.size))
    have F2 := Lib.hid (F1.out.belowW HB.out)
    have pr0 : w2.cell? ⟨w.heap.size, 0, none⟩ = some (.int .i64 kd) := F2.out.cell 0
    have pr1 : w2.cell? ⟨w.heap.size, 1, none⟩ = some (.int .i64 n) := F2.out.cell 1
    have pr2 : w2.cell? ⟨w.heap.size, 2, none⟩ = some (.int .i64 d) := F2.out.cell 2
    have pr3 : w2.cell? ⟨w.heap.size, 3, none⟩ = some (.string nm) := F2.out.cell 3
    have pr4 : w2.cell? ⟨w.heap.size, 4, none⟩ = some (.int .i64 k) := F2.out.cell 4
    have pr5 : w2.cell? ⟨w.heap.size, 5, none⟩ = some (.slice A len cap) := F2.out.cell 5
    go_wp2_with fail
    refine (expr_at 20 T ⟨⟨kd, n, d, nm, k⟩, A, len, cap⟩ w2 (HIN.out.go HW2.out) HTX.out.1 (by have := HTX.out.2; omega) (HT.out.belowW HW2.out)).mono ?_
    rintro e w3 ⟨S, rfl, HS, HB3⟩
    go_wp2_with fail
    refine bodyPost_ret (v := .tuple #[.string S, .int .i64 0]) (by simp [results, Tryz.results17, go_sem]) rfl ?_
    exact ⟨S, rfl, HS, Lib.hid (HW2.out.trans (HB3.out.mono HW2.out.size))⟩
end Go.Proofs.YtoogeihbhhcpaaaGreatDoor
