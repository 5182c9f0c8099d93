/-
  The walk of the reference's count of nodes.
-/
import Derived.Test.YtoogeihbhhcpaaaDoorFmD
set_option linter.unusedVariables false
namespace Go.Proofs.YtoogeihbhhcpaaaDoor
open Go.RowKit Go.Fl Go.Fl.Fm Go.Fl.Rt
def cR (f : Nat) (T : TE) : Nat := cntR nameP f T
theorem cR_succ (f : Nat) (T : TE) : cR (f + 1) T = if nodeB nameP T.h T.l.length = true then goR (cR f) T.l 1 else 1048576 := rfl
theorem cR_le (f : Nat) (T : TE) (h : f ≤ 21) : cR f T ≤ 1060000 := by
  have := cntR_le nameP f T
  unfold cR
  omega
theorem drop_get {α : Type} [Inhabited α] (l : List α) (j : Nat) (h : j < l.length) : l.drop j = l.getD j default :: l.drop (j + 1) := by
  rw [List.drop_eq_getElem_cons h, List.getD_eq_getElem?_getD, List.getElem?_eq_getElem h]
  rfl
/-- A node's box. -/
theorem box_nd (w : World) (x : Nd) : Blk (w.alloc (Obj.cells #[.int .i64 x.h.kind, .int .i64 x.h.n, .int .i64 x.h.d, .string x.h.name, .int .i64 x.h.k, .slice x.A x.len x.cap] 26)) w.heap.size 26 #[.int .i64 x.h.kind, .int .i64 x.h.n, .int .i64 x.h.d, .string x.h.name, .int .i64 x.h.k, .slice x.A x.len x.cap] := Blk.new _ _ _

set_option maxHeartbeats 4000000 in
set_option maxRecDepth 100000 in
theorem count_r : ∀ (f : Nat) (T : TE) (v : Nd) (w : World), InE w T v → f ≤ 20 → Calls Tryd.prog 13 #[v.val, .int .i64 (f : Int)] w (RetB (.int .i64 (cR f T : Nat)) w) := by
  intro f
  induction f with
  | zero =>
    intro T v w hin hf
    have e0 : cR 0 T = 1048576 := rfl
    rw [e0]
    simp only [Nd.val]
    go_enter Tryd.func13, Tryd.ntmps13
    go_wp2_with fail
    go_ret
    exact ⟨rfl, Lib.hid (below_box _ _)⟩
  | succ f ih =>
    intro T v w hin hf
    have HIN := Lib.hid hin
    have HOK := Lib.hid hin.ok
    have HC := Lib.hid (show cR (f + 1) T = if nodeB nameP v.h v.len = true then goR (cR f) T.l 1 else 1048576 by rw [cR_succ, hin.hd, hin.length])
    have HLN := Lib.hid hin.length
    have HCM := Lib.hid (Nat.le_trans hin.caps.1 hin.caps.2)
    have IH := Lib.hid ih
    obtain ⟨C, hC⟩ : ∃ C, C = cR (f + 1) T := ⟨_, rfl⟩
    rw [← hC] at HC ⊢
    clear hin ih hC
    obtain ⟨⟨kd, n, d, nm, k⟩, A, len, cap⟩ := v
    simp only at HLN HCM
    have hf0 : (((f + 1 : Nat) : Int) == 0) = false := by rw [beq_eq_false_iff_ne]; omega
    obtain ⟨F, hF⟩ : ∃ F : Int, F = ((f + 1 : Nat) : Int) := ⟨_, rfl⟩
    rw [← hF] at hf0 ⊢
    have hF1 : F - 1 = (f : Int) := by omega
    have hFb : 1 ≤ F ∧ F ≤ 21 := by omega
    simp only [Nd.val]
    cases hnd : nodeB nameP ⟨kd, n, d, nm, k⟩ len with
    | false =>
      have HND := Lib.hid hnd
      have HC2 := Lib.hid (show C = 1048576 by rw [HC.out, hnd]; rfl)
      clear hnd
      go_enter Tryd.func13, Tryd.ntmps13
      go_wp2_with fail
      refine (node_r ⟨⟨kd, n, d, nm, k⟩, A, len, cap⟩ _ HOK.out).mono ?_
      rintro e w2 ⟨rfl, HB2⟩
      rw [HND.out]
      go_wp2_with fail
      go_ret
      rw [HC2.out]
      exact ⟨rfl, Lib.hid ((below_box w _).trans (HB2.out.mono (below_box w _).size))⟩
    | true =>
      have HND := Lib.hid hnd
      have HC2 := Lib.hid (show C = goR (cR f) T.l 1 by rw [HC.out, hnd]; rfl)
      clear hnd
      go_enter Tryd.func13, Tryd.ntmps13
      go_wp2_with fail
      obtain ⟨w1, hw1⟩ : ∃ z9 : World, z9 = w.alloc (Obj.cells #[.int .i64 kd, .int .i64 n, .int .i64 d, .string nm, .int .i64 k, .slice A len cap] 26) := ⟨_, rfl⟩
      have HW1 := Lib.hid (show Below w.heap.size w w1 by rw [hw1]; exact below_box _ _)
      have F1 := Lib.hid (show Blk w1 w.heap.size 26 #[.int .i64 kd, .int .i64 n, .int .i64 d, .string nm, .int .i64 k, .slice A len cap] by rw [hw1]; exact Blk.new _ _ _)
      rw [← hw1]
      clear hw1
      refine (node_r ⟨⟨kd, n, d, nm, k⟩, A, len, cap⟩ w1 HOK.out).mono ?_
      rintro e w2 ⟨rfl, HB2⟩
      rw [HND.out]
      have F2 := Lib.hid (F1.out.belowW HB2.out)
      have HW2 := Lib.hid (HW1.out.trans (HB2.out.mono HW1.out.size))
      go_wp2_with fail
      go_loopg [5, 6] len (fun g nv iv wr => ∃ (m j : Nat), nv = .int .i64 m ∧ iv = .int .i64 j ∧ j ≤ len ∧ g = len - j ∧ m ≤ 1060300 ∧ Hid (goR (cR f) (T.l.drop j) m = C) ∧ Hid (Below w2.heap.size w2 wr))
      case atStart => exact ⟨1, 0, rfl, rfl, by omega, rfl, by omega, Lib.hid HC2.out.symm, Lib.hid (Below.refl _ _)⟩
      case round =>
        obtain ⟨m, j, rfl, rfl, hj, rfl, hm, HG, HL⟩ := hrel
        have FR := Lib.hid (F2.out.belowW HL.out)
        have HWR := Lib.hid (HW2.out.trans (HL.out.mono HW2.out.size))
        have pr5 : wr.cell? ⟨w.heap.size, 5, none⟩ = some (.slice A len cap) := FR.out.cell 5
        by_cases hjl : j < len
        · by_cases hm2 : m ≤ 200
          · obtain ⟨b, o, x, hA, hb, hx, hcell⟩ := HIN.out.at_ j hjl
            simp only at hA
            subst hA
            have HXR := Lib.hid (hx.go HWR.out)
            have q0 : wr.cell? ⟨b, o + j * 6, none⟩ = some (.int .i64 x.h.kind) := (HWR.out.cell (p := ⟨b, _, none⟩) hb).trans (hcell 0 _ rfl (by omega))
            have q1 : wr.cell? ⟨b, o + j * 6 + 1, none⟩ = some (.int .i64 x.h.n) := (HWR.out.cell (p := ⟨b, _, none⟩) hb).trans (hcell 1 _ rfl (by omega))
            have q2 : wr.cell? ⟨b, o + j * 6 + 2, none⟩ = some (.int .i64 x.h.d) := (HWR.out.cell (p := ⟨b, _, none⟩) hb).trans (hcell 2 _ rfl (by omega))
            have q3 : wr.cell? ⟨b, o + j * 6 + 3, none⟩ = some (.string x.h.name) := (HWR.out.cell (p := ⟨b, _, none⟩) hb).trans (hcell 3 _ rfl (by omega))
            have q4 : wr.cell? ⟨b, o + j * 6 + 4, none⟩ = some (.int .i64 x.h.k) := (HWR.out.cell (p := ⟨b, _, none⟩) hb).trans (hcell 4 _ rfl (by omega))
            have q5 : wr.cell? ⟨b, o + j * 6 + 5, none⟩ = some (.slice x.A x.len x.cap) := (HWR.out.cell (p := ⟨b, _, none⟩) hb).trans (hcell 5 _ rfl (by omega))
            have HCX := Lib.hid (cR_le f (T.l.getD j default) (by omega))
            have HG2 := Lib.hid (show goR (cR f) (T.l.drop (j + 1)) (m + cR f (T.l.getD j default)) = C by
              have h := HG.out
              rw [drop_get T.l j (by rw [HLN.out]; exact hjl)] at h
              unfold goR at h
              rw [if_pos hm2] at h
              exact h)
            obtain ⟨cx, hcx⟩ : ∃ c, c = cR f (T.l.getD j default) := ⟨_, rfl⟩
            have n1 : decide (j < len) = true := decide_eq_true hjl
            have n2 : decide (m ≤ 200) = true := decide_eq_true hm2
            have K := Lib.hid (IH.out _ x wr HXR.out (by omega))
            rw [← hcx] at HG2 HCX K
            clear hcell hx hcx hb
            go_wp2_with fail
            refine K.out.mono ?_
            rintro e w5 ⟨rfl, HB5⟩
            have hcx2 : cx ≤ 1060000 := HCX.out
            have hlm : len ≤ 9223372036854775807 := by have := HCM.out; unfold maxLen at this; omega
            go_wp2_with fail
            go_roundg (len - (j + 1))
            case measure => omega
            case rel => exact ⟨m + cx, j + 1, by go_num, by go_num, by omega, rfl, by have := HCX.out; omega, HG2, Lib.hid (HL.out.trans (HB5.out.mono HL.out.size))⟩
          · have HE := Lib.hid (show m = C by
              have h := HG.out
              rw [drop_get T.l j (by rw [HLN.out]; exact hjl)] at h
              unfold goR at h
              rw [if_neg hm2] at h
              exact h)
            have n1 : decide (j < len) = true := decide_eq_true hjl
            have n2 : decide (m ≤ 200) = false := decide_eq_false hm2
            go_wp2_with fail
            go_ret
            rw [← HE.out]
            exact ⟨rfl, HWR⟩
        · have HE := Lib.hid (show m = C by
            have h := HG.out
            rw [List.drop_eq_nil_of_le (by rw [HLN.out]; omega)] at h
            exact h)
          have n1 : decide (j < len) = false := decide_eq_false hjl
          go_wp2_with fail
          go_ret
          rw [← HE.out]
          exact ⟨rfl, HWR⟩
end Go.Proofs.YtoogeihbhhcpaaaDoor
