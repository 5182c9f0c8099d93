/-
  The walk of FormatProblems.
-/
import Derived.Test.YtoogeihbhhcpaaaGreatDoorFpI
import Derived.Test.YtoogeihbhhcpaaaGreatDoorFmZ
set_option linter.unusedVariables false
namespace Go.Proofs.YtoogeihbhhcpaaaGreatDoor
open Go.RowKit Go.Fl Go.Fl.Nm Go.Fl.Dy Go.Fl.Rt Go.Fl.Fm
def GreatP (w : World) (e : Ending) (w' : World) : Prop := ∃ g : Bool, e = .returned (.bool g) ∧ Hid (Below w.heap.size w w')
set_option maxHeartbeats 8000000 in
set_option maxRecDepth 100000 in
theorem great_any (x0 : PbN) (w : World) (hx : InP w x0) : Calls Tryz.prog 6 #[x0.val] w (GreatP w) := by
  obtain ⟨A0, n0, c0, st0, B0, m0, d0, pa0, C0, k0, e0, ms0, t0, u0⟩ := x0
  have HS0 := Lib.hid (show InL 5 DcN.cells InD w A0 n0 c0 st0 from hx.hs)
  have HP0 := Lib.hid (show InL 5 DcN.cells InD w B0 m0 d0 pa0 from hx.hp)
  have HM0 := Lib.hid (show InL 3 MdN.cells InM w C0 k0 e0 ms0 from hx.hm)
  have tL : -9223372036854775808 ≤ t0 := hx.t1
  have tH : t0 ≤ 9223372036854775807 := hx.t2
  have uL : -9223372036854775808 ≤ u0 := hx.u1
  have uH : u0 ≤ 9223372036854775807 := hx.u2
  clear hx
  simp only [PbN.val]
  go_enter Tryz.func6, Tryz.ntmps6
  go_upto_region 1 with (fail)
  obtain ⟨w1, hw1⟩ : ∃ z9 : World, z9 = w.alloc (Obj.cells #[.slice A0 n0 c0, .slice B0 m0 d0, .slice C0 k0 e0, .int .i64 t0, .int .i64 u0] 27) := ⟨_, rfl⟩
  have HW1 := Lib.hid (show Below w.heap.size w w1 by rw [hw1]; exact below_box _ _)
  have F1 := Lib.hid (show Blk w1 w.heap.size 27 #[.slice A0 n0 c0, .slice B0 m0 d0, .slice C0 k0 e0, .int .i64 t0, .int .i64 u0] by rw [hw1]; exact Blk.new _ _ _)
  rw [← hw1]
  clear hw1
  have pr0 : w1.cell? ⟨w.heap.size, 0, none⟩ = some (.slice A0 n0 c0) := F1.out.cell 0
  have pr1 : w1.cell? ⟨w.heap.size, 1, none⟩ = some (.slice B0 m0 d0) := F1.out.cell 1
  have pr2 : w1.cell? ⟨w.heap.size, 2, none⟩ = some (.slice C0 k0 e0) := F1.out.cell 2
  have pr3 : w1.cell? ⟨w.heap.size, 3, none⟩ = some (.int .i64 t0) := F1.out.cell 3
  have pr4 : w1.cell? ⟨w.heap.size, 4, none⟩ = some (.int .i64 u0) := F1.out.cell 4
  obtain ⟨b0, hb0⟩ : ∃ n, decide ((100 : Int) < (n0 : Int)) = n := ⟨_, rfl⟩
  cases b0 with
  | true =>
    go_wp2_with fail
    go_ret
    exact ⟨_, rfl, HW1⟩
  | false =>
    obtain ⟨b1, hb1⟩ : ∃ n, decide ((100 : Int) < (m0 : Int)) = n := ⟨_, rfl⟩
    cases b1 with
    | true =>
      go_wp2_with fail
      go_ret
      exact ⟨_, rfl, HW1⟩
    | false =>
      obtain ⟨b2, hb2⟩ : ∃ n, decide ((100 : Int) < (k0 : Int)) = n := ⟨_, rfl⟩
      cases b2 with
      | true =>
        go_wp2_with fail
        go_ret
        exact ⟨_, rfl, HW1⟩
      | false =>
        go_wp2_with fail
        clear hb0 hb1 hb2
        have hk9 := HM0.out.small'
        go_loopg [26] k0 (fun k iv wr => ∃ j : Nat, iv = .int .i64 j ∧ j ≤ k0 ∧ k = k0 - j ∧ Hid (Below w.heap.size w wr))
        case atStart => exact ⟨0, rfl, by omega, by omega, HW1⟩
        case round =>
          obtain ⟨j, rfl, hj, rfl, HLR⟩ := hrel
          by_cases hlt : j < k0
          · obtain ⟨bb, o, x, hA, ht, hin, h7⟩ := InM.len (InM.list HM0.out HLR.out) j hlt
            subst hA
            obtain ⟨hbl, x0, x1, x2⟩ := MdN.cells_at h7
            have hiw := (HM0.out.hi x (mem_takeA ht))
            obtain ⟨s2, A2, n2, c2, f2, B2, m2, d2, e2⟩ := x
            have HXE := Lib.hid (show InL 9 EdN.cells InG w B2 m2 d2 e2 from hiw.he)
            have hm9 := HXE.out.small'
            have HLM := Lib.hid (show Below w.heap.size w (wr.alloc (Obj.cells #[.string s2, .slice A2 n2 c2, .slice B2 m2 d2] 61)) from HLR.out.trans ((below_box _ _).mono HLR.out.size))
            have dd0 : decide ((j : Int) < (k0 : Int)) = true := decide_eq_true (by omega)
            clear ht hin h7 hiw
            obtain ⟨b3, hb3⟩ : ∃ n, decide ((100 : Int) < (n2 : Int)) = n := ⟨_, rfl⟩
            cases b3 with
            | true =>
              go_wp2_with fail
              go_ret
              exact ⟨_, rfl, HLM⟩
            | false =>
              obtain ⟨b4, hb4⟩ : ∃ n, decide ((100 : Int) < (m2 : Int)) = n := ⟨_, rfl⟩
              cases b4 with
              | true =>
                go_wp2_with fail
                go_ret
                exact ⟨_, rfl, HLM⟩
              | false =>
                go_wp2_with fail
                clear hb3 hb4 x0 x1 x2 dd0
                go_loopg [43] m2 (fun k iv wr' => ∃ i : Nat, iv = .int .i64 i ∧ i ≤ m2 ∧ k = m2 - i ∧ Hid (Below w.heap.size w wr'))
                case atStart => exact ⟨0, rfl, by omega, by omega, HLM⟩
                case round =>
                  obtain ⟨i, rfl, hi, rfl, HLI⟩ := hrel
                  by_cases hlt2 : i < m2
                  · obtain ⟨bb2, o2, y, hA2, ht2, hin2, h72⟩ := InG.len (InG.list HXE.out HLI.out) i hlt2
                    subst hA2
                    obtain ⟨hbl2, y0, y1, y2, y3, y4, y5, y6, y7, y8⟩ := EdN.cells_at h72
                    have HLY := Lib.hid (show Below w.heap.size w (wr.alloc (Obj.cells #[.int .i64 y.v.h.kind, .int .i64 y.v.h.n, .int .i64 y.v.h.d, .string y.v.h.name, .int .i64 y.v.h.k, .slice y.v.A y.v.len y.v.cap, .int .i64 y.dir, .string y.tn, .slice y.A y.len y.cap] 64)) from HLI.out.trans ((below_box _ _).mono HLI.out.size))
                    have dd1 : decide ((i : Int) < (m2 : Int)) = true := decide_eq_true (by omega)
                    clear ht2 hin2 h72
                    obtain ⟨bz, hbz⟩ : ∃ n, decide ((100 : Int) < (y.len : Int)) = n := ⟨_, rfl⟩
                    cases bz with
                    | true =>
                      go_wp2_with fail
                      go_ret
                      exact ⟨_, rfl, HLY⟩
                    | false =>
                      go_wp2_with fail
                      go_roundg (m2 - (i + 1))
                      case measure => omega
                      case rel => exact ⟨i + 1, by go_num, by omega, rfl, HLY⟩
                  · have dd1 : decide ((i : Int) < (m2 : Int)) = false := decide_eq_false (by omega)
                    go_wp2_with fail
                    go_roundg (k0 - (j + 1))
                    case measure => omega
                    case rel => exact ⟨j + 1, by go_num, by omega, rfl, HLI⟩
          · have dd0 : decide ((j : Int) < (k0 : Int)) = false := decide_eq_false (by omega)
            go_wp2_with fail
            go_ret
            exact ⟨_, rfl, HLR⟩

theorem strE_eq {S T : ByteArray} {l : List UInt8} (h : S.data.toList = l) (h' : T.data.toList = l) : S = T := by
  rw [← h'] at h
  cases S; cases T; simpa using h
set_option maxHeartbeats 4000000 in
set_option maxRecDepth 100000 in
theorem formatProblems_any (x0 : PbN) (w : World) (hx : InP w x0) (hT : RB w) : Calls Tryz.prog 3 #[x0.val] w (RetB (.bool true) w) := by
  have HX := Lib.hid hx
  have HT := Lib.hid hT
  obtain ⟨an, hn⟩ : ∃ a, a = x0.ans := ⟨_, rfl⟩
  have K1 := Lib.hid (fun (w1 : World) (hb : Below w.heap.size w w1) => show Calls Tryz.prog 7 #[x0.val] w1 (StrE an.1 an.2 w1) from by rw [hn]; exact fproblem_p x0 w1 (HX.out.belowW hb) (HT.out.belowW hb))
  have K2 := Lib.hid (fun (w1 : World) (hb : Below w.heap.size w w1) => show Calls Tryz.prog 8 #[x0.val] w1 (StrE an.1 an.2 w1) from by rw [hn]; exact rproblem15 x0 w1 (HX.out.belowW hb))
  have K3 := Lib.hid (fun (w1 : World) (hb : Below w.heap.size w w1) => great_any x0 w1 (HX.out.belowW hb))
  clear hx hT hn HX
  obtain ⟨txt9, er9⟩ := an
  obtain ⟨A0, n0, c0, st0, B0, m0, d0, pa0, C0, k0, e0, ms0, t0, u0⟩ := x0
  simp only [PbN.val] at K1 K2 K3 ⊢
  go_enter Tryz.func3, Tryz.ntmps3
  go_upto_region 1 with (fail)
  obtain ⟨w1, hw1⟩ : ∃ z9 : World, z9 = w.alloc (Obj.cells #[.slice A0 n0 c0, .slice B0 m0 d0, .slice C0 k0 e0, .int .i64 t0, .int .i64 u0] 27) := ⟨_, rfl⟩
  have HW1 := Lib.hid (show Below w.heap.size w w1 by rw [hw1]; exact below_box _ _)
  have F1 := Lib.hid (show Blk w1 w.heap.size 27 #[.slice A0 n0 c0, .slice B0 m0 d0, .slice C0 k0 e0, .int .i64 t0, .int .i64 u0] by rw [hw1]; exact Blk.new _ _ _)
  rw [← hw1]
  clear hw1
  go_wp2_with fail
  refine (fAwake_any w1 (HT.out.belowW HW1.out)).mono ?_
  rintro e w2 ⟨rfl, HB2⟩
  have HW2 := Lib.hid (HW1.out.trans (HB2.out.mono HW1.out.size))
  have F2 := Lib.hid (F1.out.belowW HB2.out)
  have pr0 : w2.cell? ⟨w.heap.size, 0, none⟩ = some (.slice A0 n0 c0) := F2.out.cell 0
  have pr1 : w2.cell? ⟨w.heap.size, 1, none⟩ = some (.slice B0 m0 d0) := F2.out.cell 1
  have pr2 : w2.cell? ⟨w.heap.size, 2, none⟩ = some (.slice C0 k0 e0) := F2.out.cell 2
  have pr3 : w2.cell? ⟨w.heap.size, 3, none⟩ = some (.int .i64 t0) := F2.out.cell 3
  have pr4 : w2.cell? ⟨w.heap.size, 4, none⟩ = some (.int .i64 u0) := F2.out.cell 4
  go_wp2_with fail
  refine (K3.out w2 HW2.out).mono ?_
  rintro e w3 ⟨g, rfl, HB3⟩
  have HW3 := Lib.hid (HW2.out.trans (HB3.out.mono HW2.out.size))
  have F3 := Lib.hid (F2.out.belowW HB3.out)
  clear pr0 pr1 pr2 pr3 pr4
  have pr0 : w3.cell? ⟨w.heap.size, 0, none⟩ = some (.slice A0 n0 c0) := F3.out.cell 0
  have pr1 : w3.cell? ⟨w.heap.size, 1, none⟩ = some (.slice B0 m0 d0) := F3.out.cell 1
  have pr2 : w3.cell? ⟨w.heap.size, 2, none⟩ = some (.slice C0 k0 e0) := F3.out.cell 2
  have pr3 : w3.cell? ⟨w.heap.size, 3, none⟩ = some (.int .i64 t0) := F3.out.cell 3
  have pr4 : w3.cell? ⟨w.heap.size, 4, none⟩ = some (.int .i64 u0) := F3.out.cell 4
  cases g with
  | true =>
    go_wp2_with fail
    go_ret
    exact ⟨rfl, HW3⟩
  | false =>
    go_wp2_with fail
    refine (K1.out w3 HW3.out).mono ?_
    rintro e w4 ⟨S4, rfl, HS4, HB4⟩
    have HW4 := Lib.hid (HW3.out.trans (HB4.out.mono HW3.out.size))
    have F4 := Lib.hid (F3.out.belowW HB4.out)
    clear pr0 pr1 pr2 pr3 pr4
    have pr0 : w4.cell? ⟨w.heap.size, 0, none⟩ = some (.slice A0 n0 c0) := F4.out.cell 0
    have pr1 : w4.cell? ⟨w.heap.size, 1, none⟩ = some (.slice B0 m0 d0) := F4.out.cell 1
    have pr2 : w4.cell? ⟨w.heap.size, 2, none⟩ = some (.slice C0 k0 e0) := F4.out.cell 2
    have pr3 : w4.cell? ⟨w.heap.size, 3, none⟩ = some (.int .i64 t0) := F4.out.cell 3
    have pr4 : w4.cell? ⟨w.heap.size, 4, none⟩ = some (.int .i64 u0) := F4.out.cell 4
    go_wp2_with fail
    refine (K2.out w4 HW4.out).mono ?_
    rintro e w5 ⟨S5, rfl, HS5, HB5⟩
    have HW5 := Lib.hid (HW4.out.trans (HB5.out.mono HW4.out.size))
    obtain rfl : S4 = S5 := strE_eq HS4.out HS5.out
    go_wp2_with fail
    go_ret
    exact ⟨ret_bool (by simp), HW5⟩
end Go.Proofs.YtoogeihbhhcpaaaGreatDoor
