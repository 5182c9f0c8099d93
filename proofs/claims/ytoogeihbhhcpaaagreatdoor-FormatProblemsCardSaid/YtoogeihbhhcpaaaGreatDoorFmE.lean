/-
  The walk of the reference's count of nodes.
-/
import Derived.Test.YtoogeihbhhcpaaaGreatDoorFmD
import Derived.Test.YtoogeihbhhcpaaaGreatDoorFmF
set_option linter.unusedVariables false
namespace Go.Proofs.YtoogeihbhhcpaaaGreatDoor
open Go.RowKit Go.Fl Go.Fl.Fm Go.Fl.Rt
set_option maxHeartbeats 4000000 in
set_option maxRecDepth 100000 in
theorem count_r : ∀ (f : Nat) (T : TE) (v : Nd) (w : World), InE w T v → f ≤ 20 → Calls Tryz.prog 135 #[v.val, .int .i64 (f : Int)] w (RetB (.int .i64 (cR f T : Nat)) w) := by
  intro f
  induction f with
  | zero =>
    intro T v w hin hf
    have e0 : cR 0 T = 1048576 := rfl
    rw [e0]
    simp only [Nd.val]
    go_enter Tryz.func135, Tryz.ntmps135
    go_wp2_with fail
    go_ret
    exact ⟨rfl, Lib.hid (below_box _ _)⟩
  | succ f ih =>
    intro T v w hin hf
    have HIN := Lib.hid hin
    have HOK := Lib.hid hin.ok
    have HC := Lib.hid (show cR (f + 1) T = if nodeB nameP v.h v.len = true then goR (cR f) T.l 1 else 1048576 by rw [cR_succ, hin.hd, hin.length])
    have HLN := Lib.hid hin.length
    have HCM := Lib.hid (Nat.le_trans hin.caps.1 hin.caps.2)
    have IH := Lib.hid ih
    obtain ⟨C, hC⟩ : ∃ C, C = cR (f + 1) T := ⟨_, rfl⟩
    rw [← hC] at HC ⊢
    clear hin ih hC
    obtain ⟨⟨kd, n, d, nm, k⟩, A, len, cap⟩ := v
    simp only at HLN HCM
    have hf0 : (((f + 1 : Nat) : Int) == 0) = false := by rw [beq_eq_false_iff_ne]; omega
    obtain ⟨F, hF⟩ : ∃ F : Int, F = ((f + 1 : Nat) : Int) := ⟨_, rfl⟩
    rw [← hF] at hf0 ⊢
    have hF1 : F - 1 = (f : Int) := by omega
    have hFb : 1 ≤ F ∧ F ≤ 21 := by omega
    simp only [Nd.val]
    cases hnd : nodeB nameP ⟨kd, n, d, nm, k⟩ len with
    | false =>
      have HND := Lib.hid hnd
      have HC2 := Lib.hid (show C = 1048576 by rw [HC.out, hnd]; rfl)
      clear hnd
      go_enter Tryz.func135, Tryz.ntmps135
      go_wp2_with fail
      refine (node_r ⟨⟨kd, n, d, nm, k⟩, A, len, cap⟩ _ HOK.out).mono ?_
      rintro e w2 ⟨rfl, HB2⟩
      rw [HND.out]
      go_wp2_with fail
      go_ret
      rw [HC2.out]
      exact ⟨rfl, Lib.hid ((below_box w _).trans (HB2.out.mono (below_box w _).size))⟩
    | true =>
      have HND := Lib.hid hnd
      have HC2 := Lib.hid (show C = goR (cR f) T.l 1 by rw [HC.out, hnd]; rfl)
      clear hnd
      go_enter Tryz.func135, Tryz.ntmps135
      go_wp2_with fail
      obtain ⟨w1, hw1⟩ : ∃ z9 : World, z9 = w.alloc (Obj.cells #[.int .i64 kd, .int .i64 n, .int .i64 d, .string nm, .int .i64 k, .slice A len cap] 51) := ⟨_, rfl⟩
      have HW1 := Lib.hid (show Below w.heap.size w w1 by rw [hw1]; exact below_box _ _)
      have F1 := Lib.hid (show Blk w1 w.heap.size 51 #[.int .i64 kd, .int .i64 n, .int .i64 d, .string nm, .int .i64 k, .slice A len cap] by rw [hw1]; exact Blk.new _ _ _)
      rw [← hw1]
      clear hw1
      refine (node_r ⟨⟨kd, n, d, nm, k⟩, A, len, cap⟩ w1 HOK.out).mono ?_
      rintro e w2 ⟨rfl, HB2⟩
      rw [HND.out]
      have F2 := Lib.hid (F1.out.belowW HB2.out)
      have HW2 := Lib.hid (HW1.out.trans (HB2.out.mono HW1.out.size))
      go_wp2_with fail
      go_loopg [5, 6] len (fun g nv iv wr => ∃ (m j : Nat), nv = .int .i64 m ∧ iv = .int .i64 j ∧ j ≤ len ∧ g = len - j ∧ m ≤ 1060300 ∧ Hid (goR (cR f) (T.l.drop j) m = C) ∧ Hid (Below w2.heap.size w2 wr))
      case atStart => exact ⟨1, 0, rfl, rfl, by omega, rfl, by omega, Lib.hid HC2.out.symm, Lib.hid (Below.refl _ _)⟩
      case round =>
        obtain ⟨m, j, rfl, rfl, hj, rfl, hm, HG, HL⟩ := hrel
        have FR := Lib.hid (F2.out.belowW HL.out)
        have HWR := Lib.hid (HW2.out.trans (HL.out.mono HW2.out.size))
        have pr5 : wr.cell? ⟨w.heap.size, 5, none⟩ = some (.slice A len cap) := FR.out.cell 5
        by_cases hjl : j < len
        · by_cases hm2 : m ≤ 200
          · obtain ⟨b, o, x, hA, hb, hx, hcell⟩ := HIN.out.at_ j hjl
            simp only at hA
            subst hA
            have HXR := Lib.hid (hx.go HWR.out)
            have q0 : wr.cell? ⟨b, o + j * 6, none⟩ = some (.int .i64 x.h.kind) := (HWR.out.cell (p := ⟨b, _, none⟩) hb).trans (hcell 0 _ rfl (by omega))
            have q1 : wr.cell? ⟨b, o + j * 6 + 1, none⟩ = some (.int .i64 x.h.n) := (HWR.out.cell (p := ⟨b, _, none⟩) hb).trans (hcell 1 _ rfl (by omega))
            have q2 : wr.cell? ⟨b, o + j * 6 + 2, none⟩ = some (.int .i64 x.h.d) := (HWR.out.cell (p := ⟨b, _, none⟩) hb).trans (hcell 2 _ rfl (by omega))
            have q3 : wr.cell? ⟨b, o + j * 6 + 3, none⟩ = some (.string x.h.name) := (HWR.out.cell (p := ⟨b, _, none⟩) hb).trans (hcell 3 _ rfl (by omega))
            have q4 : wr.cell? ⟨b, o + j * 6 + 4, none⟩ = some (.int .i64 x.h.k) := (HWR.out.cell (p := ⟨b, _, none⟩) hb).trans (hcell 4 _ rfl (by omega))
            have q5 : wr.cell? ⟨b, o + j * 6 + 5, none⟩ = some (.slice x.A x.len x.cap) := (HWR.out.cell (p := ⟨b, _, none⟩) hb).trans (hcell 5 _ rfl (by omega))
            have HCX := Lib.hid (cR_le f (T.l.getD j default) (by omega))
            have HG2 := Lib.hid (show goR (cR f) (T.l.drop (j + 1)) (m + cR f (T.l.getD j default)) = C by
              have h := HG.out
              rw [drop_get T.l j (by rw [HLN.out]; exact hjl)] at h
              unfold goR at h
              rw [if_pos hm2] at h
              exact h)
            obtain ⟨cx, hcx⟩ : ∃ c, c = cR f (T.l.getD j default) := ⟨_, rfl⟩
            have n1 : decide (j < len) = true := decide_eq_true hjl
            have n2 : decide (m ≤ 200) = true := decide_eq_true hm2
            have K := Lib.hid (IH.out _ x wr HXR.out (by omega))
            rw [← hcx] at HG2 HCX K
            clear hcell hx hcx hb
            go_wp2_with fail
            refine K.out.mono ?_
            rintro e w5 ⟨rfl, HB5⟩
            have hcx2 : cx ≤ 1060000 := HCX.out
            have hlm : len ≤ 9223372036854775807 := by have := HCM.out; unfold maxLen at this; omega
            go_wp2_with fail
            go_roundg (len - (j + 1))
            case measure => omega
            case rel => exact ⟨m + cx, j + 1, by go_num, by go_num, by omega, rfl, by have := HCX.out; omega, HG2, Lib.hid (HL.out.trans (HB5.out.mono HL.out.size))⟩
          · have HE := Lib.hid (show m = C by
              have h := HG.out
              rw [drop_get T.l j (by rw [HLN.out]; exact hjl)] at h
              unfold goR at h
              rw [if_neg hm2] at h
              exact h)
            have n1 : decide (j < len) = true := decide_eq_true hjl
            have n2 : decide (m ≤ 200) = false := decide_eq_false hm2
            go_wp2_with fail
            go_ret
            rw [← HE.out]
            exact ⟨rfl, HWR⟩
        · have HE := Lib.hid (show m = C by
            have h := HG.out
            rw [List.drop_eq_nil_of_le (by rw [HLN.out]; omega)] at h
            exact h)
          have n1 : decide (j < len) = false := decide_eq_false hjl
          go_wp2_with fail
          go_ret
          rw [← HE.out]
          exact ⟨rfl, HWR⟩
set_option maxHeartbeats 1000000 in
theorem eValid_r (T : TE) (v : Nd) (w : World) (hin : InE w T v) : Calls Tryz.prog 90 #[v.val] w (RetB (.bool (okE T)) w) := by
  have HIN := Lib.hid hin
  clear hin
  obtain ⟨C, hC⟩ : ∃ C, C = cR 20 T := ⟨_, rfl⟩
  have HC := Lib.hid hC
  have hc9 : C ≤ 1060000 := by rw [hC]; exact cR_le 20 T (by omega)
  have HE := Lib.hid (show okE T = decide (C ≤ 200) by rw [hC]; rfl)
  rw [HE.out]
  clear hC
  obtain ⟨⟨kd, n, d, nm, k⟩, A, len, cap⟩ := v
  simp only [Nd.val]
  go_enter Tryz.func90, Tryz.ntmps90
  go_wp2_with fail
  obtain ⟨w1, hw1⟩ : ∃ z9 : World, z9 = w.alloc (Obj.cells #[.int .i64 kd, .int .i64 n, .int .i64 d, .string nm, .int .i64 k, .slice A len cap] 51) := ⟨_, rfl⟩
  have HW1 := Lib.hid (show Below w.heap.size w w1 by rw [hw1]; exact below_box _ _)
  rw [← hw1]
  clear hw1
  have K : Calls Tryz.prog 135 #[.agg #[.int .i64 kd, .int .i64 n, .int .i64 d, .string nm, .int .i64 k, .slice A len cap], .int .i64 20] w1 (RetB (.int .i64 (cR 20 T : Nat)) w1) :=
    count_r 20 T ⟨⟨kd, n, d, nm, k⟩, A, len, cap⟩ w1 (HIN.out.go HW1.out) (by omega)
  refine K.mono ?_
  rw [← HC.out]
  rintro e w2 ⟨rfl, HB⟩
  go_wp2_with fail
  go_ret
  exact ⟨ret_bool (decide_eq_decide.2 (by omega)), Lib.hid (HW1.out.trans (HB.out.mono HW1.out.size))⟩
end Go.Proofs.YtoogeihbhhcpaaaGreatDoor
