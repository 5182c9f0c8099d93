/-
  The walk of tree.Depth.
-/
import Derived.Test.YtkjoohnndobjeaaGreatDoorPcF
import Derived.Test.YtkjoohnndobjeaaGreatDoorPdB
set_option linter.unusedVariables false
namespace Go.Proofs.YtkjoohnndobjeaaGreatDoor
open Go.RowKit Go.Fl Go.Fl.Fm Go.Fl.Rt Go.Fl.Pa
set_option maxHeartbeats 4000000 in
set_option maxRecDepth 100000 in
theorem depth_any : ∀ (f : Nat) (T : TE) (v : Nd) (w : World), InE w T v → cR f T ≤ 200 → f ≤ 20 → Calls Tryz.prog 50 #[v.val] w (RetB (.int .i64 (dpT f T : Nat)) w) := by
  intro f
  induction f with
  | zero => exact fun T v w _ h => absurd h (by show ¬ 1048576 ≤ 200; decide)
  | succ f ih =>
    intro T v w hin hc hf
    have HIN := Lib.hid hin
    have HC := Lib.hid (cR_child hc).2.2
    have HLN := Lib.hid hin.length
    have HCM := Lib.hid (Nat.le_trans hin.caps.1 hin.caps.2)
    have IH := Lib.hid ih
    obtain ⟨D, hD⟩ : ∃ D, D = dpL (dpT f) T.l 0 := ⟨_, rfl⟩
    have HD := Lib.hid hD
    have hDf : D ≤ f := by rw [hD]; exact dpL_le (dpT f) f (dpT_le f) T.l 0 (Nat.zero_le _)
    have e0 : dpT (f + 1) T = D + 1 := by rw [hD]; rfl
    rw [e0]
    clear hin ih hc hD e0
    obtain ⟨⟨kd, n, d, nm, k⟩, A, len, cap⟩ := v
    simp only at HLN HCM
    simp only [Nd.val]
    go_enter Tryz.func50, Tryz.ntmps50
    go_upto_region 1 with (fail)
    obtain ⟨w1, hw1⟩ : ∃ z9 : World, z9 = w.alloc (Obj.cells #[.int .i64 kd, .int .i64 n, .int .i64 d, .string nm, .int .i64 k, .slice A len cap] 29) := ⟨_, rfl⟩
    have HW1 := Lib.hid (show Below w.heap.size w w1 by rw [hw1]; exact below_box _ _)
    have F1 := Lib.hid (show Blk w1 w.heap.size 29 #[.int .i64 kd, .int .i64 n, .int .i64 d, .string nm, .int .i64 k, .slice A len cap] by rw [hw1]; exact Blk.new _ _ _)
    rw [← hw1]
    clear hw1
    have pr5 : w1.cell? ⟨w.heap.size, 5, none⟩ = some (.slice A len cap) := F1.out.cell 5
    have hlm : len ≤ 9223372036854775807 := by have := HCM.out; unfold maxLen at this; omega
    go_wp2_with fail
    go_loopg [3, 9] len (fun g nv iv wr => ∃ (m j : Nat), nv = .int .i64 m ∧ iv = .int .i64 j ∧ j ≤ len ∧ g = len - j ∧ m ≤ D ∧ Hid (dpL (dpT f) (T.l.drop j) m = D) ∧ Hid (Below w1.heap.size w1 wr))
    case atStart => exact ⟨0, 0, rfl, rfl, by omega, rfl, by omega, Lib.hid HD.out.symm, Lib.hid (Below.refl _ _)⟩
    case round =>
      obtain ⟨m, j, rfl, rfl, hj, rfl, hm, HG, HL⟩ := hrel
      have HWR := Lib.hid (HW1.out.trans (HL.out.mono HW1.out.size))
      by_cases hjl : j < len
      · obtain ⟨b, o, x, hA, hb, hx, hcell⟩ := HIN.out.at_ j hjl
        simp only at hA
        subst hA
        have q0 : wr.cell? ⟨b, o + j * 6, none⟩ = some (.int .i64 x.h.kind) := (HWR.out.cell (p := ⟨b, _, none⟩) hb).trans (hcell 0 _ rfl (by omega))
        have q1 : wr.cell? ⟨b, o + j * 6 + 1, none⟩ = some (.int .i64 x.h.n) := (HWR.out.cell (p := ⟨b, _, none⟩) hb).trans (hcell 1 _ rfl (by omega))
        have q2 : wr.cell? ⟨b, o + j * 6 + 2, none⟩ = some (.int .i64 x.h.d) := (HWR.out.cell (p := ⟨b, _, none⟩) hb).trans (hcell 2 _ rfl (by omega))
        have q3 : wr.cell? ⟨b, o + j * 6 + 3, none⟩ = some (.string x.h.name) := (HWR.out.cell (p := ⟨b, _, none⟩) hb).trans (hcell 3 _ rfl (by omega))
        have q4 : wr.cell? ⟨b, o + j * 6 + 4, none⟩ = some (.int .i64 x.h.k) := (HWR.out.cell (p := ⟨b, _, none⟩) hb).trans (hcell 4 _ rfl (by omega))
        have q5 : wr.cell? ⟨b, o + j * 6 + 5, none⟩ = some (.slice x.A x.len x.cap) := (HWR.out.cell (p := ⟨b, _, none⟩) hb).trans (hcell 5 _ rfl (by omega))
        have HC1 := Lib.hid (HC.out j (by rw [HLN.out]; exact hjl))
        have HDX := Lib.hid (dpT_le f (T.l.getD j default))
        have HG2 := Lib.hid (show dpL (dpT f) (T.l.drop (j + 1)) (max m (dpT f (T.l.getD j default))) = D by
          have h := HG.out
          rw [drop_get T.l j (by rw [HLN.out]; exact hjl)] at h
          unfold dpL at h
          exact h)
        have HM2 := Lib.hid ((dpL_ge (dpT f) (T.l.drop (j + 1)) (max m (dpT f (T.l.getD j default)))).1)
        rw [HG2.out] at HM2
        have n1 : decide (j < len) = true := decide_eq_true hjl
        have HX := Lib.hid (hx.go HWR.out)
        obtain ⟨Tx, hTx⟩ : ∃ Tx, Tx = T.l.getD j default := ⟨_, rfl⟩
        rw [← hTx] at HX HC1 HDX HG2 HM2
        obtain ⟨dx, hdx⟩ : ∃ dx, dx = dpT f Tx := ⟨_, rfl⟩
        rw [← hdx] at HDX HG2 HM2
        have HDE := Lib.hid hdx
        clear hcell hx hb hTx hdx
        go_upto_region 5 with (fail)
        obtain ⟨w2, hw2⟩ : ∃ z9 : World, z9 = wr.alloc (Obj.cells #[.int .i64 x.h.kind, .int .i64 x.h.n, .int .i64 x.h.d, .string x.h.name, .int .i64 x.h.k, .slice x.A x.len x.cap] 29) := ⟨_, rfl⟩
        have HW2 := Lib.hid (show Below wr.heap.size wr w2 by rw [hw2]; exact below_box _ _)
        have F2 := Lib.hid (show Blk w2 wr.heap.size 29 #[.int .i64 x.h.kind, .int .i64 x.h.n, .int .i64 x.h.d, .string x.h.name, .int .i64 x.h.k, .slice x.A x.len x.cap] by rw [hw2]; exact Blk.new _ _ _)
        rw [← hw2]
        clear hw2 q0 q1 q2 q3 q4 q5
        have p0 : w2.cell? ⟨wr.heap.size, 0, none⟩ = some (.int .i64 x.h.kind) := F2.out.cell 0
        have p1 : w2.cell? ⟨wr.heap.size, 1, none⟩ = some (.int .i64 x.h.n) := F2.out.cell 1
        have p2 : w2.cell? ⟨wr.heap.size, 2, none⟩ = some (.int .i64 x.h.d) := F2.out.cell 2
        have p3 : w2.cell? ⟨wr.heap.size, 3, none⟩ = some (.string x.h.name) := F2.out.cell 3
        have p4 : w2.cell? ⟨wr.heap.size, 4, none⟩ = some (.int .i64 x.h.k) := F2.out.cell 4
        have p5 : w2.cell? ⟨wr.heap.size, 5, none⟩ = some (.slice x.A x.len x.cap) := F2.out.cell 5
        have K := Lib.hid (IH.out Tx x w2 (HX.out.go HW2.out) HC1.out (by omega))
        rw [← HDE.out] at K
        go_wp2_with fail
        refine K.out.mono ?_
        rintro e w5 ⟨rfl, HB5⟩
        have hdx2 : dx ≤ 20 := by have := HDX.out; omega
        have hmx : max (m : Int) (dx : Int) = ((max m dx : Nat) : Int) := by omega
        go_wp2_with fail
        go_roundg (len - (j + 1))
        case measure => omega
        case rel => exact ⟨max m dx, j + 1, by rw [← hmx], by go_num, by omega, rfl, HM2.out, HG2, Lib.hid (HL.out.trans ((HW2.out.trans (HB5.out.mono HW2.out.size)).mono HL.out.size))⟩
      · have HE := Lib.hid (show m = D by
          have h := HG.out
          rw [List.drop_eq_nil_of_le (by rw [HLN.out]; omega)] at h
          exact h)
        have n1 : decide (j < len) = false := decide_eq_false hjl
        go_wp2_with fail
        go_ret
        rw [← HE.out]
        exact ⟨rfl, HWR⟩
set_option maxHeartbeats 1000000 in
theorem eDepth_any (T : TE) (v : Nd) (w : World) (hin : InE w T v) (hok : okE T = true) : Calls Tryz.prog 22 #[v.val] w (RetB (.int .i64 (dpT 20 T : Nat)) w) := by
  have HIN := Lib.hid hin
  have HOK := Lib.hid hok
  have HC := Lib.hid (okE_iff.1 hok)
  clear hin hok
  obtain ⟨D, hD⟩ : ∃ D, D = dpT 20 T := ⟨_, rfl⟩
  rw [← hD]
  have HD := Lib.hid hD
  clear hD
  obtain ⟨⟨kd, n, d, nm, k⟩, A, len, cap⟩ := v
  simp only [Nd.val]
  go_enter Tryz.func22, Tryz.ntmps22
  go_upto_region 1 with (fail)
  obtain ⟨w1, hw1⟩ : ∃ z9 : World, z9 = w.alloc (Obj.cells #[.int .i64 kd, .int .i64 n, .int .i64 d, .string nm, .int .i64 k, .slice A len cap] 29) := ⟨_, rfl⟩
  have HW1 := Lib.hid (show Below w.heap.size w w1 by rw [hw1]; exact below_box _ _)
  have F1 := Lib.hid (show Blk w1 w.heap.size 29 #[.int .i64 kd, .int .i64 n, .int .i64 d, .string nm, .int .i64 k, .slice A len cap] by rw [hw1]; exact Blk.new _ _ _)
  rw [← hw1]
  clear hw1
  obtain ⟨a0, _, a1, _, a2, _, a3, _, a4, _, a5, _⟩ := F1.out.all6
  go_wp2_with fail
  refine (show Calls Tryz.prog 49 #[.agg #[.int .i64 kd, .int .i64 n, .int .i64 d, .string nm, .int .i64 k, .slice A len cap]] w1 _ from eValid_p T ⟨⟨kd, n, d, nm, k⟩, A, len, cap⟩ w1 (HIN.out.go HW1.out)).mono ?_
  rw [HOK.out]
  rintro e w2 ⟨rfl, HB2⟩
  have HW2 := Lib.hid (HW1.out.trans (HB2.out.mono HW1.out.size))
  have F2 := Lib.hid (F1.out.belowW HB2.out)
  clear a0 a1 a2 a3 a4 a5
  obtain ⟨a0, _, a1, _, a2, _, a3, _, a4, _, a5, _⟩ := F2.out.all6
  go_wp2_with fail
  refine (show Calls Tryz.prog 50 #[.agg #[.int .i64 kd, .int .i64 n, .int .i64 d, .string nm, .int .i64 k, .slice A len cap]] w2 _ from depth_any 20 T ⟨⟨kd, n, d, nm, k⟩, A, len, cap⟩ w2 (HIN.out.go HW2.out) HC.out (Nat.le_refl _)).mono ?_
  rw [← HD.out]
  rintro e w3 ⟨rfl, HB3⟩
  go_wp2_with fail
  go_ret
  exact ⟨rfl, Lib.hid (HW2.out.trans (HB3.out.mono HW2.out.size))⟩
end Go.Proofs.YtkjoohnndobjeaaGreatDoor
