/-
  The walks of the reference's test of problems.
-/
import Derived.Test.YtoogeihbhhcpaaaGreatDoorFpC
import Derived.Test.YtoogeihbhhcpaaaGreatDoorFpD
set_option linter.unusedVariables false
namespace Go.Proofs.YtoogeihbhhcpaaaGreatDoor
open Go.RowKit Go.Fl Go.Fl.Nm Go.Fl.Dy Go.Fl.Rt Go.Fl.Fm

set_option maxHeartbeats 4000000 in
set_option maxRecDepth 100000 in
theorem rproblem_r (x0 : PbN) (w : World) (hx : InP w x0) : Calls Tryz.prog 26 #[x0.val] w (RetB (.bool x0.ok) w) := by
  obtain ⟨A0, n0, c0, st0, B0, m0, dd0, pa0, C0, k0, e0, ms0, t0, u0⟩ := x0
  have HS0 := Lib.hid (show InL 5 DcN.cells InD w A0 n0 c0 st0 from hx.hs)
  have HP0 := Lib.hid (show InL 5 DcN.cells InD w B0 m0 dd0 pa0 from hx.hp)
  have HM0 := Lib.hid (show InL 3 MdN.cells InM w C0 k0 e0 ms0 from hx.hm)
  have tL : -9223372036854775808 ≤ t0 := hx.t1
  have tH : t0 ≤ 9223372036854775807 := hx.t2
  have uL : -9223372036854775808 ≤ u0 := hx.u1
  have uH : u0 ≤ 9223372036854775807 := hx.u2
  have HLN := Lib.hid (show ms0.length = k0 from hx.hm.hl)
  clear hx
  simp only [PbN.val]
  go_enter Tryz.func26, Tryz.ntmps26
  go_upto_region 1 with (fail)
  obtain ⟨w1, hw1⟩ : ∃ z9 : World, z9 = w.alloc (Obj.cells #[.slice A0 n0 c0, .slice B0 m0 dd0, .slice C0 k0 e0, .int .i64 t0, .int .i64 u0] 27) := ⟨_, rfl⟩
  have HW1 := Lib.hid (show Below w.heap.size w w1 by rw [hw1]; exact below_box _ _)
  have F1 := Lib.hid (show Blk w1 w.heap.size 27 #[.slice A0 n0 c0, .slice B0 m0 dd0, .slice C0 k0 e0, .int .i64 t0, .int .i64 u0] by rw [hw1]; exact Blk.new _ _ _)
  rw [← hw1]
  clear hw1
  have pr0 : w1.cell? ⟨w.heap.size, 0, none⟩ = some (.slice A0 n0 c0) := F1.out.cell 0
  have pr1 : w1.cell? ⟨w.heap.size, 1, none⟩ = some (.slice B0 m0 dd0) := F1.out.cell 1
  have pr2 : w1.cell? ⟨w.heap.size, 2, none⟩ = some (.slice C0 k0 e0) := F1.out.cell 2
  have pr3 : w1.cell? ⟨w.heap.size, 3, none⟩ = some (.int .i64 t0) := F1.out.cell 3
  have pr4 : w1.cell? ⟨w.heap.size, 4, none⟩ = some (.int .i64 u0) := F1.out.cell 4
  by_cases h0 : n0 < 1
  case pos =>
    have d0 : decide ((n0 : Int) < 1) = true := decide_eq_true (by omega)
    have HE := Lib.hid (show PbN.ok ⟨A0, n0, c0, st0, B0, m0, dd0, pa0, C0, k0, e0, ms0, t0, u0⟩ = false from PbN.no (by simp only; omega))
    go_wp2_with fail
    go_ret
    exact ⟨ret_bool HE.out.symm, HW1⟩
  have d0 : decide ((n0 : Int) < 1) = false := decide_eq_false (by omega)
  by_cases h1 : 4 < n0
  case pos =>
    have d1 : decide ((4 : Int) < (n0 : Int)) = true := decide_eq_true (by omega)
    have HE := Lib.hid (show PbN.ok ⟨A0, n0, c0, st0, B0, m0, dd0, pa0, C0, k0, e0, ms0, t0, u0⟩ = false from PbN.no (by simp only; omega))
    go_wp2_with fail
    go_ret
    exact ⟨ret_bool HE.out.symm, HW1⟩
  have d1 : decide ((4 : Int) < (n0 : Int)) = false := decide_eq_false (by omega)
  by_cases h2 : 4 < m0
  case pos =>
    have d2 : decide ((4 : Int) < (m0 : Int)) = true := decide_eq_true (by omega)
    have HE := Lib.hid (show PbN.ok ⟨A0, n0, c0, st0, B0, m0, dd0, pa0, C0, k0, e0, ms0, t0, u0⟩ = false from PbN.no (by simp only; omega))
    go_wp2_with fail
    go_ret
    exact ⟨ret_bool HE.out.symm, HW1⟩
  have d2 : decide ((4 : Int) < (m0 : Int)) = false := decide_eq_false (by omega)
  by_cases h3 : k0 < 1
  case pos =>
    have d3 : decide ((k0 : Int) < 1) = true := decide_eq_true (by omega)
    have HE := Lib.hid (show PbN.ok ⟨A0, n0, c0, st0, B0, m0, dd0, pa0, C0, k0, e0, ms0, t0, u0⟩ = false from PbN.no (by simp only; omega))
    go_wp2_with fail
    go_ret
    exact ⟨ret_bool HE.out.symm, HW1⟩
  have d3 : decide ((k0 : Int) < 1) = false := decide_eq_false (by omega)
  by_cases h4 : 8 < k0
  case pos =>
    have d4 : decide ((8 : Int) < (k0 : Int)) = true := decide_eq_true (by omega)
    have HE := Lib.hid (show PbN.ok ⟨A0, n0, c0, st0, B0, m0, dd0, pa0, C0, k0, e0, ms0, t0, u0⟩ = false from PbN.no (by simp only; omega))
    go_wp2_with fail
    go_ret
    exact ⟨ret_bool HE.out.symm, HW1⟩
  have d4 : decide ((8 : Int) < (k0 : Int)) = false := decide_eq_false (by omega)
  obtain ⟨a, ha⟩ : ∃ n, st0.all DcN.ok = n := ⟨_, rfl⟩
  obtain ⟨b, hb⟩ : ∃ n, pa0.all DcN.ok = n := ⟨_, rfl⟩
  obtain ⟨v, hv⟩ : ∃ n, vB t0 u0 = n := ⟨_, rfl⟩
  have HE := Lib.hid (show PbN.ok ⟨A0, n0, c0, st0, B0, m0, dd0, pa0, C0, k0, e0, ms0, t0, u0⟩ = (a && (b && (ms0.all MdN.ok && v))) by rw [PbN.yes (by simp only; omega)]; simp only [ha, hb, hv])
  have HA := Lib.hid ha
  have HB := Lib.hid hb
  have HV := Lib.hid hv
  have HM1 := Lib.hid (InM.list HM0.out HW1.out)
  clear ha hb hv
  go_wp2_with fail
  clear d0 d1 d2 d3 d4
  go_loopg [3] k0 (fun k i wr => ∃ j : Nat, i = .int .i64 j ∧ j ≤ k0 ∧ k = k0 - j ∧ Hid ((ms0.take j).all MdN.ok = true) ∧ Hid (Below w1.heap.size w1 wr))
  case atStart => exact ⟨0, rfl, by omega, by omega, by unfold Hid; simp, Below.refl _ _⟩
  case round =>
    obtain ⟨j, rfl, hj, rfl, HF, HL⟩ := hrel
    have hls := HL.out.size
    have FR := Lib.hid (F1.out.belowW HL.out)
    clear pr0 pr1 pr2 pr3 pr4
    have pr0 : wr.cell? ⟨w.heap.size, 0, none⟩ = some (.slice A0 n0 c0) := FR.out.cell 0
    have pr1 : wr.cell? ⟨w.heap.size, 1, none⟩ = some (.slice B0 m0 dd0) := FR.out.cell 1
    have pr2 : wr.cell? ⟨w.heap.size, 2, none⟩ = some (.slice C0 k0 e0) := FR.out.cell 2
    have pr3 : wr.cell? ⟨w.heap.size, 3, none⟩ = some (.int .i64 t0) := FR.out.cell 3
    have pr4 : wr.cell? ⟨w.heap.size, 4, none⟩ = some (.int .i64 u0) := FR.out.cell 4
    by_cases hlt : j < k0
    · obtain ⟨b, o, x, hA, ht, hin, h7⟩ := InM.len (InM.list HM1.out HL.out) j hlt
      obtain ⟨hbl, x0, x1, x2⟩ := MdN.cells_at h7
      have H7 := Lib.hid h7
      have HIN := Lib.hid hin
      have HTK := Lib.hid (take_snocA ms0 j x ht)
      have HME := Lib.hid (mem_takeA ht)
      have n1 : decide ((j : Int) < (k0 : Int)) = true := decide_eq_true (by omega)
      clear ht hin h7
      subst hA
      obtain ⟨u, hu⟩ : ∃ n, x.ok = n := ⟨_, rfl⟩
      have HOK := Lib.hid hu
      clear hu
      go_wp2_with fail
      refine (rmode_r x wr HIN.out).mono ?_
      rw [HOK.out]
      rintro e w8 ⟨rfl, HB8⟩
      have HL8 := Lib.hid (HL.out.trans (HB8.out.mono hls))
      cases u with
      | false =>
        go_wp2_with fail
        go_ret
        exact ⟨ret_bool (by rw [HE.out, all_no HME.out HOK.out]; simp), Lib.hid (HW1.out.trans (HL8.out.mono HW1.out.size))⟩
      | true =>
        go_wp2_with fail
        go_roundg (k0 - (j + 1))
        case measure => omega
        case rel => exact ⟨j + 1, by go_num, by omega, rfl, Lib.hid (by rw [HTK.out, List.all_append, HF.out]; simp [HOK.out]), HL8⟩
    · have hjn : j = k0 := by omega
      have HF' := Lib.hid (show ms0.all MdN.ok = true by have := HF.out; rwa [hjn, ← HLN.out, List.take_length] at this)
      have n1 : decide ((j : Int) < (k0 : Int)) = false := decide_eq_false (by omega)
      have HWR := Lib.hid (HW1.out.trans (HL.out.mono HW1.out.size))
      have HE2 := Lib.hid (show PbN.ok ⟨A0, n0, c0, st0, B0, m0, dd0, pa0, C0, k0, e0, ms0, t0, u0⟩ = (a && (b && v)) by rw [HE.out, HF'.out]; simp)
      clear HE HF HF' hls
      go_wp2_with fail
      refine (decls_r A0 n0 c0 st0 wr (InD.list HS0.out HWR.out)).mono ?_
      rw [HA.out]
      rintro e w2 ⟨rfl, HB2⟩
      have HW2 := Lib.hid (HWR.out.trans (HB2.out.mono HWR.out.size))
      have F2 := Lib.hid (FR.out.belowW HB2.out)
      clear pr0 pr1 pr2 pr3 pr4
      have pr0 : w2.cell? ⟨w.heap.size, 0, none⟩ = some (.slice A0 n0 c0) := F2.out.cell 0
      have pr1 : w2.cell? ⟨w.heap.size, 1, none⟩ = some (.slice B0 m0 dd0) := F2.out.cell 1
      have pr2 : w2.cell? ⟨w.heap.size, 2, none⟩ = some (.slice C0 k0 e0) := F2.out.cell 2
      have pr3 : w2.cell? ⟨w.heap.size, 3, none⟩ = some (.int .i64 t0) := F2.out.cell 3
      have pr4 : w2.cell? ⟨w.heap.size, 4, none⟩ = some (.int .i64 u0) := F2.out.cell 4
      cases a with
      | false =>
        go_wp2_with fail
        go_ret
        exact ⟨ret_bool (by rw [HE2.out]; rfl), HW2⟩
      | true =>
        go_wp2_with fail
        refine (decls_r B0 m0 _ pa0 w2 (InD.list HP0.out HW2.out)).mono ?_
        rw [HB.out]
        rintro e w3 ⟨rfl, HB3⟩
        have HW3 := Lib.hid (HW2.out.trans (HB3.out.mono HW2.out.size))
        have F3 := Lib.hid (F2.out.belowW HB3.out)
        clear pr0 pr1 pr2 pr3 pr4
        have pr0 : w3.cell? ⟨w.heap.size, 0, none⟩ = some (.slice A0 n0 c0) := F3.out.cell 0
        have pr1 : w3.cell? ⟨w.heap.size, 1, none⟩ = some (.slice B0 m0 dd0) := F3.out.cell 1
        have pr2 : w3.cell? ⟨w.heap.size, 2, none⟩ = some (.slice C0 k0 e0) := F3.out.cell 2
        have pr3 : w3.cell? ⟨w.heap.size, 3, none⟩ = some (.int .i64 t0) := F3.out.cell 3
        have pr4 : w3.cell? ⟨w.heap.size, 4, none⟩ = some (.int .i64 u0) := F3.out.cell 4
        cases b with
        | false =>
          go_wp2_with fail
          go_ret
          exact ⟨ret_bool (by rw [HE2.out]; rfl), HW3⟩
        | true =>
          go_wp2_with fail
          refine (valid_r t0 u0 w3 tL tH uL uH).mono ?_
          rw [HV.out]
          rintro e w5 ⟨rfl, HB5⟩
          go_wp2_with fail
          go_ret
          exact ⟨ret_bool (by rw [HE2.out]; rfl), Lib.hid (HW3.out.trans (HB5.out.mono HW3.out.size))⟩
end Go.Proofs.YtoogeihbhhcpaaaGreatDoor
