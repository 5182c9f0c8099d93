/-
  The walks of the reference's tests of declarations, edges, modes.
-/
import Derived.Test.YtoogeihbhhcpaaaGreatDoorFpA
import Derived.Test.YtoogeihbhhcpaaaGreatDoorFmE
import Derived.Test.YtoogeihbhhcpaaaGreatDoorFrP
set_option linter.unusedVariables false
namespace Go.Proofs.YtoogeihbhhcpaaaGreatDoor
open Go.RowKit Go.Fl Go.Fl.Nm Go.Fl.Dy Go.Fl.Rt Go.Fl.Fm
theorem InL.small {Z : Type} {m : Nat} {cells : Z → List Value} {Pw : World → Z → Prop} {w : World} {A : Option Addr} {len cap : Nat} {zs : List Z} (h : InL m cells Pw w A len cap zs) : len ≤ 9223372036854775807 := by
  have h1 := h.hc
  have h2 := h.hm
  unfold maxLen at h2
  omega
theorem all_no {α : Type} {p : α → Bool} {l : List α} {x : α} (h : x ∈ l) (hp : p x = false) : l.all p = false := List.all_eq_false.2 ⟨x, h, by rw [hp]; simp⟩

set_option maxHeartbeats 4000000 in
set_option maxRecDepth 100000 in
theorem rangeOf_r (a b c d : Int) (w : World) (k : R4 a b c d) : Calls Tryz.prog 92 #[.agg #[.int .i64 a, .int .i64 b, .int .i64 c, .int .i64 d]] w (RetB (.bool (vB a b && vB c d)) w) := by
  have KR := Lib.hid k
  clear k
  obtain ⟨u, hu⟩ : ∃ u, vB a b = u := ⟨_, rfl⟩
  obtain ⟨v, hv⟩ : ∃ u, vB c d = u := ⟨_, rfl⟩
  have HU := Lib.hid hu
  have HV := Lib.hid hv
  rw [hu, hv]
  clear hu hv
  go_enter Tryz.func92, Tryz.ntmps92
  go_upto_region 1 with (fail)
  obtain ⟨w1, hw1⟩ : ∃ z9 : World, z9 = w.alloc (Obj.cells #[.int .i64 a, .int .i64 b, .int .i64 c, .int .i64 d] 36) := ⟨_, rfl⟩
  have HW1 := Lib.hid (show Below w.heap.size w w1 by rw [hw1]; exact below_box _ _)
  have F1 := Lib.hid (show Blk w1 w.heap.size 36 #[.int .i64 a, .int .i64 b, .int .i64 c, .int .i64 d] by rw [hw1]; exact Blk.new _ _ _)
  rw [← hw1]
  clear hw1
  obtain ⟨pr0, pr1, pr2, pr3⟩ := F1.out.cs4
  go_wp2_with fail
  refine (valid_r a b w1 KR.out.a1 KR.out.a2 KR.out.b1 KR.out.b2).mono ?_
  rw [HU.out]
  rintro e w3 ⟨rfl, HB⟩
  have HW3 := Lib.hid (HW1.out.trans (HB.out.mono HW1.out.size))
  have F3 := Lib.hid (F1.out.belowW HB.out)
  clear pr0 pr1 pr2 pr3
  obtain ⟨pr0, pr1, pr2, pr3⟩ := F3.out.cs4
  cases u with
  | false =>
    go_wp2_with fail
    go_ret
    exact ⟨rfl, HW3⟩
  | true =>
    go_wp2_with fail
    refine (valid_r c d w3 KR.out.c1 KR.out.c2 KR.out.d1 KR.out.d2).mono ?_
    rw [HV.out]
    rintro e w4 ⟨rfl, HB4⟩
    go_wp2_with fail
    go_ret
    exact ⟨rfl, Lib.hid (HW3.out.trans (HB4.out.mono HW3.out.size))⟩

set_option maxHeartbeats 4000000 in
set_option maxRecDepth 100000 in
theorem decls_r (A : Option Addr) (len cap : Nat) (zs : List DcN) (w : World) (hx : InL 5 DcN.cells InD w A len cap zs) : Calls Tryz.prog 50 #[.slice A len cap] w (RetB (.bool (zs.all DcN.ok)) w) := by
  have HX := Lib.hid hx
  have HLN := Lib.hid hx.hl
  have hlm := hx.small
  clear hx
  go_enter Tryz.func50, Tryz.ntmps50
  go_wp2_with fail
  go_loopg [3] len (fun k i wr => ∃ j : Nat, i = .int .i64 j ∧ j ≤ len ∧ k = len - j ∧ Hid ((zs.take j).all DcN.ok = true) ∧ Hid (Below w.heap.size w wr))
  case atStart => exact ⟨0, rfl, by omega, by omega, by unfold Hid; simp, Below.refl _ _⟩
  case round =>
    obtain ⟨j, rfl, hj, rfl, HF, HL⟩ := hrel
    have hls := HL.out.size
    by_cases hlt : j < len
    · obtain ⟨b, o, x, hA, ht, hin, h7⟩ := InD.len (InD.list HX.out HL.out) j hlt
      obtain ⟨hbl, x0, x1, x2, x3, x4⟩ := DcN.cells_at h7
      have H7 := Lib.hid h7
      have HIN := Lib.hid hin
      have HTK := Lib.hid (take_snocA zs j x ht)
      have HME := Lib.hid (mem_takeA ht)
      have n1 : decide ((j : Int) < (len : Int)) = true := decide_eq_true (by omega)
      clear ht hin h7
      subst hA
      obtain ⟨n, hn⟩ : ∃ n, nameP x.s.data.toList = n := ⟨_, rfl⟩
      obtain ⟨u, hu⟩ : ∃ n, (vB x.a x.b && vB x.c x.d) = n := ⟨_, rfl⟩
      have HEX := Lib.hid (show x.ok = (n && u) by unfold DcN.ok; rw [hn, hu])
      have HN := Lib.hid hn
      have HU := Lib.hid hu
      clear hn hu
      go_wp2_with fail
      refine (rname_any x.s wr HIN.out.hs).mono ?_
      rw [HN.out]
      rintro e w7 ⟨rfl, hb7⟩
      have HB7 := Lib.hid hb7
      have HL7 := Lib.hid (HL.out.trans (HB7.out.mono hls))
      clear hb7
      cases n with
      | false =>
        have HOK := Lib.hid (show x.ok = false by rw [HEX.out]; rfl)
        go_wp2_with fail
        go_ret
        exact ⟨ret_bool (by rw [all_no HME.out HOK.out]), HL7⟩
      | true =>
        clear x0 x1 x2 x3 x4
        obtain ⟨hbl7, x0, x1, x2, x3, x4⟩ := DcN.cells_at (H7.out.belowW HB7.out)
        go_wp2_with fail
        refine (rangeOf_r x.a x.b x.c x.d w7 HIN.out.r).mono ?_
        rw [HU.out]
        rintro e w8 ⟨rfl, HB8⟩
        have HL8 := Lib.hid (HL7.out.trans (HB8.out.mono HL7.out.size))
        cases u with
        | false =>
          have HOK := Lib.hid (show x.ok = false by rw [HEX.out]; rfl)
          go_wp2_with fail
          go_ret
          exact ⟨ret_bool (by rw [all_no HME.out HOK.out]), HL8⟩
        | true =>
          have HOK := Lib.hid (show x.ok = true by rw [HEX.out]; rfl)
          go_wp2_with fail
          go_roundg (len - (j + 1))
          case measure => omega
          case rel => exact ⟨j + 1, by go_num, by omega, rfl, Lib.hid (by rw [HTK.out, List.all_append, HF.out]; simp [HOK.out]), HL8⟩
    · have hjn : j = len := by omega
      have HF' := Lib.hid (show zs.all DcN.ok = true by have := HF.out; rwa [hjn, ← HLN.out, List.take_length] at this)
      have n1 : decide ((j : Int) < (len : Int)) = false := decide_eq_false (by omega)
      go_wp2_with fail
      go_ret
      exact ⟨ret_bool (by rw [HF'.out]), HL⟩

set_option maxHeartbeats 4000000 in
set_option maxRecDepth 100000 in
theorem edge_r (x0 : EdN) (w : World) (hx : InG w x0) : Calls Tryz.prog 91 #[x0.val] w (RetB (.bool x0.ok) w) := by
  obtain ⟨v0, T0, dir0, tn0, A0, len0, cap0, rs0⟩ := x0
  have HX := Lib.hid hx
  have HLN := Lib.hid (show rs0.length = len0 from hx.hr.hl)
  have hs : tn0.size ≤ maxLen := hx.hs
  have hd1 := hx.d1
  have hd2 := hx.d2
  obtain ⟨u, hu⟩ : ∃ n, okE T0 = n := ⟨_, rfl⟩
  obtain ⟨n, hn⟩ : ∃ n, nameP tn0.data.toList = n := ⟨_, rfl⟩
  obtain ⟨l, hl⟩ : ∃ n, decide ((len0 : Int) ≤ 4) = n := ⟨_, rfl⟩
  have HE := Lib.hid (show EdN.ok ⟨v0, T0, dir0, tn0, A0, len0, cap0, rs0⟩ = (u && (((dir0 == 1) || (dir0 == 2)) && (n && (l && rs0.all EqN.ok)))) by unfold EdN.ok EdN.dirB; rw [hu, hn, hl])
  have HU := Lib.hid hu
  have HN := Lib.hid hn
  clear hx hn hu
  simp only [EdN.val]
  go_enter Tryz.func91, Tryz.ntmps91
  go_upto_region 1 with (fail)
  obtain ⟨w1, hw1⟩ : ∃ z9 : World, z9 = w.alloc (Obj.cells #[.int .i64 v0.h.kind, .int .i64 v0.h.n, .int .i64 v0.h.d, .string v0.h.name, .int .i64 v0.h.k, .slice v0.A v0.len v0.cap, .int .i64 dir0, .string tn0, .slice A0 len0 cap0] 64) := ⟨_, rfl⟩
  have HW1 := Lib.hid (show Below w.heap.size w w1 by rw [hw1]; exact below_box _ _)
  have F1 := Lib.hid (show Blk w1 w.heap.size 64 #[.int .i64 v0.h.kind, .int .i64 v0.h.n, .int .i64 v0.h.d, .string v0.h.name, .int .i64 v0.h.k, .slice v0.A v0.len v0.cap, .int .i64 dir0, .string tn0, .slice A0 len0 cap0] by rw [hw1]; exact Blk.new _ _ _)
  rw [← hw1]
  clear hw1
  obtain ⟨pr0, pr1, pr2, pr3, pr4, pr5, pr6, pr7, pr8⟩ := F1.out.cs9
  go_wp2_with fail
  refine (eValid_r T0 v0 w1 (HX.out.e.go HW1.out)).mono ?_
  rw [HU.out]
  rintro e w2 ⟨rfl, HB2⟩
  have HW2 := Lib.hid (HW1.out.trans (HB2.out.mono HW1.out.size))
  have F2 := Lib.hid (F1.out.belowW HB2.out)
  clear pr0 pr1 pr2 pr3 pr4 pr5 pr6 pr7 pr8
  obtain ⟨pr0, pr1, pr2, pr3, pr4, pr5, pr6, pr7, pr8⟩ := F2.out.cs9
  cases u with
  | false =>
    go_wp2_with fail
    go_ret
    exact ⟨ret_bool (by rw [HE.out]; rfl), HW2⟩
  | true =>
    obtain ⟨p, hp⟩ : ∃ n, (dir0 == 1) = n := ⟨_, rfl⟩
    obtain ⟨q, hq⟩ : ∃ n, (dir0 == 2) = n := ⟨_, rfl⟩
    rw [hp, hq] at HE
    by_cases hpq : (p || q) = true
    case neg =>
      have HPQ := Lib.hid (show (p || q) = false by simpa using hpq)
      obtain ⟨rfl, rfl⟩ : p = false ∧ q = false := by simpa using HPQ.out
      have np : (dir0 != 1) = true := by rw [bne, hp]; rfl
      have nq : (dir0 != 2) = true := by rw [bne, hq]; rfl
      clear hp hq
      go_wp2_with fail
      go_ret
      exact ⟨ret_bool (by rw [HE.out]; rfl), HW2⟩
    have HPQ := Lib.hid hpq
    have HP := Lib.hid hp
    have HQ := Lib.hid hq
    clear hpq
    cases p with
    | true =>
      have np : (dir0 != 1) = false := by rw [bne, hp]; rfl
      clear hp hq
      go_wp2_with fail
      refine (rname_any tn0 w2 hs).mono ?_
      rw [HN.out]
      rintro e w4 ⟨rfl, hb4⟩
      have HB4 := Lib.hid hb4
      have HW4 := Lib.hid (HW2.out.trans (HB4.out.mono HW2.out.size))
      have F4 := Lib.hid (F2.out.belowW HB4.out)
      clear hb4
      clear pr0 pr1 pr2 pr3 pr4 pr5 pr6 pr7 pr8
      obtain ⟨pr0, pr1, pr2, pr3, pr4, pr5, pr6, pr7, pr8⟩ := F4.out.cs9
      cases n with
      | false =>
        go_wp2_with fail
        go_ret
        exact ⟨ret_bool (by rw [HE.out]; rfl), HW4⟩
      | true =>
        cases l with
        | false =>
          have d1 : decide ((4 : Int) < (len0 : Int)) = true := decide_eq_true (by have := of_decide_eq_false hl; omega)
          go_wp2_with fail
          go_ret
          exact ⟨ret_bool (by rw [HE.out]; rfl), HW4⟩
        | true =>
          have d1 : decide ((4 : Int) < (len0 : Int)) = false := decide_eq_false (by have := of_decide_eq_true hl; omega)
          have HR4 := Lib.hid (show InL 7 EqN.cells InQ w4 A0 len0 cap0 rs0 from InQ.list HX.out.hr HW4.out)
          have hl4 : len0 ≤ 4 := by have := of_decide_eq_true hl; omega
          go_wp2_with fail
          clear d1
          go_loopg [3] len0 (fun k i wr => ∃ j : Nat, i = .int .i64 j ∧ j ≤ len0 ∧ k = len0 - j ∧ Hid ((rs0.take j).all EqN.ok = true) ∧ Hid (Below w4.heap.size w4 wr))
          case atStart => exact ⟨0, rfl, by omega, by omega, by unfold Hid; simp, Below.refl _ _⟩
          case round =>
            obtain ⟨j, rfl, hj, rfl, HF, HL⟩ := hrel
            have hls := HL.out.size
            have FR := Lib.hid (F4.out.belowW HL.out)
            clear pr0 pr1 pr2 pr3 pr4 pr5 pr6 pr7 pr8
            obtain ⟨pr0, pr1, pr2, pr3, pr4, pr5, pr6, pr7, pr8⟩ := FR.out.cs9
            by_cases hlt : j < len0
            · obtain ⟨b, o, x, hA, ht, hin, h7⟩ := InQ.len (InQ.list HR4.out HL.out) j hlt
              obtain ⟨hbl, x0, x1, x2, x3, x4, x5, x6⟩ := EqN.cells_at h7
              have H7 := Lib.hid h7
              have HIN := Lib.hid hin
              have HTK := Lib.hid (take_snocA rs0 j x ht)
              have HME := Lib.hid (mem_takeA ht)
              have n1 : decide ((j : Int) < (len0 : Int)) = true := decide_eq_true (by omega)
              clear ht hin h7
              subst hA
              obtain ⟨n, hn⟩ : ∃ n, nameP x.s.data.toList = n := ⟨_, rfl⟩
              obtain ⟨u, hu⟩ : ∃ n, okE x.T = n := ⟨_, rfl⟩
              have HEX := Lib.hid (show x.ok = (n && u) by unfold EqN.ok; rw [hn, hu])
              have HN := Lib.hid hn
              have HU := Lib.hid hu
              clear hn hu
              go_wp2_with fail
              refine (rname_any x.s wr HIN.out.hs).mono ?_
              rw [HN.out]
              rintro e w7 ⟨rfl, hb7⟩
              have HB7 := Lib.hid hb7
              have HL7 := Lib.hid (HL.out.trans (HB7.out.mono hls))
              clear hb7
              cases n with
              | false =>
                have HOK := Lib.hid (show x.ok = false by rw [HEX.out]; rfl)
                go_wp2_with fail
                go_ret
                exact ⟨ret_bool (by rw [HE.out, all_no HME.out HOK.out]; rfl), Lib.hid (HW4.out.trans (HL7.out.mono HW4.out.size))⟩
              | true =>
                clear x0 x1 x2 x3 x4 x5 x6
                obtain ⟨hbl7, x0, x1, x2, x3, x4, x5, x6⟩ := EqN.cells_at (H7.out.belowW HB7.out)
                have FR7 := Lib.hid (FR.out.belowW HB7.out)
                clear pr0 pr1 pr2 pr3 pr4 pr5 pr6 pr7 pr8
                obtain ⟨pr0, pr1, pr2, pr3, pr4, pr5, pr6, pr7, pr8⟩ := FR7.out.cs9
                go_wp2_with fail
                refine (eValid_r x.T x.v w7 (HIN.out.e.go HB7.out)).mono ?_
                rw [HU.out]
                rintro e w8 ⟨rfl, HB8⟩
                have HL8 := Lib.hid (HL7.out.trans (HB8.out.mono HL7.out.size))
                cases u with
                | false =>
                  have HOK := Lib.hid (show x.ok = false by rw [HEX.out]; rfl)
                  go_wp2_with fail
                  go_ret
                  exact ⟨ret_bool (by rw [HE.out, all_no HME.out HOK.out]; rfl), Lib.hid (HW4.out.trans (HL8.out.mono HW4.out.size))⟩
                | true =>
                  have HOK := Lib.hid (show x.ok = true by rw [HEX.out]; rfl)
                  go_wp2_with fail
                  go_roundg (len0 - (j + 1))
                  case measure => omega
                  case rel => exact ⟨j + 1, by go_num, by omega, rfl, Lib.hid (by rw [HTK.out, List.all_append, HF.out]; simp [HOK.out]), HL8⟩
            · have hjn : j = len0 := by omega
              have HF' := Lib.hid (show rs0.all EqN.ok = true by have := HF.out; rwa [hjn, ← HLN.out, List.take_length] at this)
              have n1 : decide ((j : Int) < (len0 : Int)) = false := decide_eq_false (by omega)
              go_wp2_with fail
              go_ret
              exact ⟨ret_bool (by rw [HE.out, HF'.out]; rfl), Lib.hid (HW4.out.trans (HL.out.mono HW4.out.size))⟩
    | false =>
      obtain rfl : q = true := by simpa using HPQ.out
      have np : (dir0 != 1) = true := by rw [bne, hp]; rfl
      have nq : (dir0 != 2) = false := by rw [bne, hq]; rfl
      clear hp hq
      go_wp2_with fail
      refine (rname_any tn0 w2 hs).mono ?_
      rw [HN.out]
      rintro e w4 ⟨rfl, hb4⟩
      have HB4 := Lib.hid hb4
      have HW4 := Lib.hid (HW2.out.trans (HB4.out.mono HW2.out.size))
      have F4 := Lib.hid (F2.out.belowW HB4.out)
      clear hb4
      clear pr0 pr1 pr2 pr3 pr4 pr5 pr6 pr7 pr8
      obtain ⟨pr0, pr1, pr2, pr3, pr4, pr5, pr6, pr7, pr8⟩ := F4.out.cs9
      cases n with
      | false =>
        go_wp2_with fail
        go_ret
        exact ⟨ret_bool (by rw [HE.out]; rfl), HW4⟩
      | true =>
        cases l with
        | false =>
          have d1 : decide ((4 : Int) < (len0 : Int)) = true := decide_eq_true (by have := of_decide_eq_false hl; omega)
          go_wp2_with fail
          go_ret
          exact ⟨ret_bool (by rw [HE.out]; rfl), HW4⟩
        | true =>
          have d1 : decide ((4 : Int) < (len0 : Int)) = false := decide_eq_false (by have := of_decide_eq_true hl; omega)
          have HR4 := Lib.hid (show InL 7 EqN.cells InQ w4 A0 len0 cap0 rs0 from InQ.list HX.out.hr HW4.out)
          have hl4 : len0 ≤ 4 := by have := of_decide_eq_true hl; omega
          go_wp2_with fail
          clear d1
          go_loopg [3] len0 (fun k i wr => ∃ j : Nat, i = .int .i64 j ∧ j ≤ len0 ∧ k = len0 - j ∧ Hid ((rs0.take j).all EqN.ok = true) ∧ Hid (Below w4.heap.size w4 wr))
          case atStart => exact ⟨0, rfl, by omega, by omega, by unfold Hid; simp, Below.refl _ _⟩
          case round =>
            obtain ⟨j, rfl, hj, rfl, HF, HL⟩ := hrel
            have hls := HL.out.size
            have FR := Lib.hid (F4.out.belowW HL.out)
            clear pr0 pr1 pr2 pr3 pr4 pr5 pr6 pr7 pr8
            obtain ⟨pr0, pr1, pr2, pr3, pr4, pr5, pr6, pr7, pr8⟩ := FR.out.cs9
            by_cases hlt : j < len0
            · obtain ⟨b, o, x, hA, ht, hin, h7⟩ := InQ.len (InQ.list HR4.out HL.out) j hlt
              obtain ⟨hbl, x0, x1, x2, x3, x4, x5, x6⟩ := EqN.cells_at h7
              have H7 := Lib.hid h7
              have HIN := Lib.hid hin
              have HTK := Lib.hid (take_snocA rs0 j x ht)
              have HME := Lib.hid (mem_takeA ht)
              have n1 : decide ((j : Int) < (len0 : Int)) = true := decide_eq_true (by omega)
              clear ht hin h7
              subst hA
              obtain ⟨n, hn⟩ : ∃ n, nameP x.s.data.toList = n := ⟨_, rfl⟩
              obtain ⟨u, hu⟩ : ∃ n, okE x.T = n := ⟨_, rfl⟩
              have HEX := Lib.hid (show x.ok = (n && u) by unfold EqN.ok; rw [hn, hu])
              have HN := Lib.hid hn
              have HU := Lib.hid hu
              clear hn hu
              go_wp2_with fail
              refine (rname_any x.s wr HIN.out.hs).mono ?_
              rw [HN.out]
              rintro e w7 ⟨rfl, hb7⟩
              have HB7 := Lib.hid hb7
              have HL7 := Lib.hid (HL.out.trans (HB7.out.mono hls))
              clear hb7
              cases n with
              | false =>
                have HOK := Lib.hid (show x.ok = false by rw [HEX.out]; rfl)
                go_wp2_with fail
                go_ret
                exact ⟨ret_bool (by rw [HE.out, all_no HME.out HOK.out]; rfl), Lib.hid (HW4.out.trans (HL7.out.mono HW4.out.size))⟩
              | true =>
                clear x0 x1 x2 x3 x4 x5 x6
                obtain ⟨hbl7, x0, x1, x2, x3, x4, x5, x6⟩ := EqN.cells_at (H7.out.belowW HB7.out)
                have FR7 := Lib.hid (FR.out.belowW HB7.out)
                clear pr0 pr1 pr2 pr3 pr4 pr5 pr6 pr7 pr8
                obtain ⟨pr0, pr1, pr2, pr3, pr4, pr5, pr6, pr7, pr8⟩ := FR7.out.cs9
                go_wp2_with fail
                refine (eValid_r x.T x.v w7 (HIN.out.e.go HB7.out)).mono ?_
                rw [HU.out]
                rintro e w8 ⟨rfl, HB8⟩
                have HL8 := Lib.hid (HL7.out.trans (HB8.out.mono HL7.out.size))
                cases u with
                | false =>
                  have HOK := Lib.hid (show x.ok = false by rw [HEX.out]; rfl)
                  go_wp2_with fail
                  go_ret
                  exact ⟨ret_bool (by rw [HE.out, all_no HME.out HOK.out]; rfl), Lib.hid (HW4.out.trans (HL8.out.mono HW4.out.size))⟩
                | true =>
                  have HOK := Lib.hid (show x.ok = true by rw [HEX.out]; rfl)
                  go_wp2_with fail
                  go_roundg (len0 - (j + 1))
                  case measure => omega
                  case rel => exact ⟨j + 1, by go_num, by omega, rfl, Lib.hid (by rw [HTK.out, List.all_append, HF.out]; simp [HOK.out]), HL8⟩
            · have hjn : j = len0 := by omega
              have HF' := Lib.hid (show rs0.all EqN.ok = true by have := HF.out; rwa [hjn, ← HLN.out, List.take_length] at this)
              have n1 : decide ((j : Int) < (len0 : Int)) = false := decide_eq_false (by omega)
              go_wp2_with fail
              go_ret
              exact ⟨ret_bool (by rw [HE.out, HF'.out]; rfl), Lib.hid (HW4.out.trans (HL.out.mono HW4.out.size))⟩

set_option maxHeartbeats 4000000 in
set_option maxRecDepth 100000 in
theorem rmode_r (x0 : MdN) (w : World) (hx : InM w x0) : Calls Tryz.prog 49 #[x0.val] w (RetB (.bool x0.ok) w) := by
  obtain ⟨s0, A0, n0, c0, fl0, B0, m0, d0, ed0⟩ := x0
  have HX := Lib.hid hx
  have HLN := Lib.hid (show fl0.length = n0 from hx.hf.hl)
  have HLE := Lib.hid (show ed0.length = m0 from hx.he.hl)
  have hs : s0.size ≤ maxLen := hx.hs
  obtain ⟨n, hn⟩ : ∃ n, nameP s0.data.toList = n := ⟨_, rfl⟩
  obtain ⟨u, hu⟩ : ∃ n, decide ((n0 : Int) ≤ 4) = n := ⟨_, rfl⟩
  obtain ⟨v, hv⟩ : ∃ n, decide ((m0 : Int) ≤ 4) = n := ⟨_, rfl⟩
  have HE := Lib.hid (show MdN.ok ⟨s0, A0, n0, c0, fl0, B0, m0, d0, ed0⟩ = (n && (u && (v && (fl0.all EqN.ok && ed0.all EdN.ok)))) by unfold MdN.ok; rw [hn, hu, hv])
  have HN := Lib.hid hn
  clear hx hn
  simp only [MdN.val]
  go_enter Tryz.func49, Tryz.ntmps49
  go_upto_region 1 with (fail)
  obtain ⟨w1, hw1⟩ : ∃ z9 : World, z9 = w.alloc (Obj.cells #[.string s0, .slice A0 n0 c0, .slice B0 m0 d0] 61) := ⟨_, rfl⟩
  have HW1 := Lib.hid (show Below w.heap.size w w1 by rw [hw1]; exact below_box _ _)
  have F1 := Lib.hid (show Blk w1 w.heap.size 61 #[.string s0, .slice A0 n0 c0, .slice B0 m0 d0] by rw [hw1]; exact Blk.new _ _ _)
  rw [← hw1]
  clear hw1
  have pr0 : w1.cell? ⟨w.heap.size, 0, none⟩ = some (.string s0) := F1.out.cell 0
  have pr1 : w1.cell? ⟨w.heap.size, 1, none⟩ = some (.slice A0 n0 c0) := F1.out.cell 1
  have pr2 : w1.cell? ⟨w.heap.size, 2, none⟩ = some (.slice B0 m0 d0) := F1.out.cell 2
  go_wp2_with fail
  refine (rname_any s0 w1 hs).mono ?_
  rw [HN.out]
  rintro e w4 ⟨rfl, hb4⟩
  have HB4 := Lib.hid hb4
  have HW4 := Lib.hid (HW1.out.trans (HB4.out.mono HW1.out.size))
  have F4 := Lib.hid (F1.out.belowW HB4.out)
  clear hb4
  clear pr0 pr1 pr2
  have pr0 : w4.cell? ⟨w.heap.size, 0, none⟩ = some (.string s0) := F4.out.cell 0
  have pr1 : w4.cell? ⟨w.heap.size, 1, none⟩ = some (.slice A0 n0 c0) := F4.out.cell 1
  have pr2 : w4.cell? ⟨w.heap.size, 2, none⟩ = some (.slice B0 m0 d0) := F4.out.cell 2
  cases n with
  | false =>
    go_wp2_with fail
    go_ret
    exact ⟨ret_bool (by rw [HE.out]; rfl), HW4⟩
  | true =>
    cases u with
    | false =>
      have d1 : decide ((4 : Int) < (n0 : Int)) = true := decide_eq_true (by have := of_decide_eq_false hu; omega)
      go_wp2_with fail
      go_ret
      exact ⟨ret_bool (by rw [HE.out]; rfl), HW4⟩
    | true =>
      have d1 : decide ((4 : Int) < (n0 : Int)) = false := decide_eq_false (by have := of_decide_eq_true hu; omega)
      have hl4 : n0 ≤ 4 := by have := of_decide_eq_true hu; omega
      cases v with
      | false =>
        have d2 : decide ((4 : Int) < (m0 : Int)) = true := decide_eq_true (by have := of_decide_eq_false hv; omega)
        go_wp2_with fail
        go_ret
        exact ⟨ret_bool (by rw [HE.out]; rfl), HW4⟩
      | true =>
        have d2 : decide ((4 : Int) < (m0 : Int)) = false := decide_eq_false (by have := of_decide_eq_true hv; omega)
        have hl5 : m0 ≤ 4 := by have := of_decide_eq_true hv; omega
        have HR4 := Lib.hid (show InL 7 EqN.cells InQ w4 A0 n0 c0 fl0 from InQ.list HX.out.hf HW4.out)
        go_wp2_with fail
        clear d1 d2
        go_loopg [3] n0 (fun k i wr => ∃ j : Nat, i = .int .i64 j ∧ j ≤ n0 ∧ k = n0 - j ∧ Hid ((fl0.take j).all EqN.ok = true) ∧ Hid (Below w4.heap.size w4 wr))
        case atStart => exact ⟨0, rfl, by omega, by omega, by unfold Hid; simp, Below.refl _ _⟩
        case round =>
          obtain ⟨j, rfl, hj, rfl, HF, HL⟩ := hrel
          have hls := HL.out.size
          have FR := Lib.hid (F4.out.belowW HL.out)
          clear pr0 pr1 pr2
          have pr0 : wr.cell? ⟨w.heap.size, 0, none⟩ = some (.string s0) := FR.out.cell 0
          have pr1 : wr.cell? ⟨w.heap.size, 1, none⟩ = some (.slice A0 n0 c0) := FR.out.cell 1
          have pr2 : wr.cell? ⟨w.heap.size, 2, none⟩ = some (.slice B0 m0 d0) := FR.out.cell 2
          by_cases hlt : j < n0
          · obtain ⟨b, o, x, hA, ht, hin, h7⟩ := InQ.len (InQ.list HR4.out HL.out) j hlt
            obtain ⟨hbl, x0, x1, x2, x3, x4, x5, x6⟩ := EqN.cells_at h7
            have H7 := Lib.hid h7
            have HIN := Lib.hid hin
            have HTK := Lib.hid (take_snocA fl0 j x ht)
            have HME := Lib.hid (mem_takeA ht)
            have n1 : decide ((j : Int) < (n0 : Int)) = true := decide_eq_true (by omega)
            clear ht hin h7
            subst hA
            obtain ⟨n, hn⟩ : ∃ n, nameP x.s.data.toList = n := ⟨_, rfl⟩
            obtain ⟨u, hu⟩ : ∃ n, okE x.T = n := ⟨_, rfl⟩
            have HEX := Lib.hid (show x.ok = (n && u) by unfold EqN.ok; rw [hn, hu])
            have HN := Lib.hid hn
            have HU := Lib.hid hu
            clear hn hu
            go_wp2_with fail
            refine (rname_any x.s wr HIN.out.hs).mono ?_
            rw [HN.out]
            rintro e w7 ⟨rfl, hb7⟩
            have HB7 := Lib.hid hb7
            have HL7 := Lib.hid (HL.out.trans (HB7.out.mono hls))
            clear hb7
            cases n with
            | false =>
              have HOK := Lib.hid (show x.ok = false by rw [HEX.out]; rfl)
              go_wp2_with fail
              go_ret
              exact ⟨ret_bool (by rw [HE.out, all_no HME.out HOK.out]; rfl), Lib.hid (HW4.out.trans (HL7.out.mono HW4.out.size))⟩
            | true =>
              clear x0 x1 x2 x3 x4 x5 x6
              obtain ⟨hbl7, x0, x1, x2, x3, x4, x5, x6⟩ := EqN.cells_at (H7.out.belowW HB7.out)
              have FR7 := Lib.hid (FR.out.belowW HB7.out)
              clear pr0 pr1 pr2
              have pr0 : w7.cell? ⟨w.heap.size, 0, none⟩ = some (.string s0) := FR7.out.cell 0
              have pr1 : w7.cell? ⟨w.heap.size, 1, none⟩ = some (.slice (some ⟨b, o, none⟩) n0 c0) := FR7.out.cell 1
              have pr2 : w7.cell? ⟨w.heap.size, 2, none⟩ = some (.slice B0 m0 d0) := FR7.out.cell 2
              go_wp2_with fail
              refine (eValid_r x.T x.v w7 (HIN.out.e.go HB7.out)).mono ?_
              rw [HU.out]
              rintro e w8 ⟨rfl, HB8⟩
              have HL8 := Lib.hid (HL7.out.trans (HB8.out.mono HL7.out.size))
              cases u with
              | false =>
                have HOK := Lib.hid (show x.ok = false by rw [HEX.out]; rfl)
                go_wp2_with fail
                go_ret
                exact ⟨ret_bool (by rw [HE.out, all_no HME.out HOK.out]; rfl), Lib.hid (HW4.out.trans (HL8.out.mono HW4.out.size))⟩
              | true =>
                have HOK := Lib.hid (show x.ok = true by rw [HEX.out]; rfl)
                go_wp2_with fail
                go_roundg (n0 - (j + 1))
                case measure => omega
                case rel => exact ⟨j + 1, by go_num, by omega, rfl, Lib.hid (by rw [HTK.out, List.all_append, HF.out]; simp [HOK.out]), HL8⟩
          · have hjn : j = n0 := by omega
            have HF' := Lib.hid (show fl0.all EqN.ok = true by have := HF.out; rwa [hjn, ← HLN.out, List.take_length] at this)
            have n1 : decide ((j : Int) < (n0 : Int)) = false := decide_eq_false (by omega)
            have HFL := HF'
            have HW5 := Lib.hid (HW4.out.trans (HL.out.mono HW4.out.size))
            have HR5 := Lib.hid (show InL 9 EdN.cells InG wr B0 m0 d0 ed0 from InG.list HX.out.he HW5.out)
            have F5 := Lib.hid (F4.out.belowW HL.out)
            have n2 : decide (j < n0) = false := decide_eq_false hlt
            clear hjn hlt
            go_wp2_with fail
            clear n2
            obtain ⟨w5, rfl⟩ : ∃ z : World, z = wr := ⟨_, rfl⟩
            clear HF HF' HL hls n1 hj
            go_loopg [4] m0 (fun k i wr => ∃ j : Nat, i = .int .i64 j ∧ j ≤ m0 ∧ k = m0 - j ∧ Hid ((ed0.take j).all EdN.ok = true) ∧ Hid (Below w5.heap.size w5 wr))
            case atStart => exact ⟨0, rfl, by omega, by omega, by unfold Hid; simp, Below.refl _ _⟩
            case round =>
              obtain ⟨j, rfl, hj, rfl, HF, HL⟩ := hrel
              have hls := HL.out.size
              have FR := Lib.hid (F5.out.belowW HL.out)
              clear pr0 pr1 pr2
              have pr0 : wr.cell? ⟨w.heap.size, 0, none⟩ = some (.string s0) := FR.out.cell 0
              have pr1 : wr.cell? ⟨w.heap.size, 1, none⟩ = some (.slice A0 n0 c0) := FR.out.cell 1
              have pr2 : wr.cell? ⟨w.heap.size, 2, none⟩ = some (.slice B0 m0 d0) := FR.out.cell 2
              by_cases hlt : j < m0
              · obtain ⟨b, o, x, hA, ht, hin, h7⟩ := InG.len (InG.list HR5.out HL.out) j hlt
                obtain ⟨hbl, x0, x1, x2, x3, x4, x5, x6, x7, x8⟩ := EdN.cells_at h7
                have H7 := Lib.hid h7
                have HIN := Lib.hid hin
                have HTK := Lib.hid (take_snocA ed0 j x ht)
                have HME := Lib.hid (mem_takeA ht)
                have n1 : decide ((j : Int) < (m0 : Int)) = true := decide_eq_true (by omega)
                clear ht hin h7
                subst hA
                obtain ⟨u, hu⟩ : ∃ n, x.ok = n := ⟨_, rfl⟩
                have HOK := Lib.hid hu
                clear hu
                go_wp2_with fail
                refine (edge_r x wr HIN.out).mono ?_
                rw [HOK.out]
                rintro e w8 ⟨rfl, HB8⟩
                have HL8 := Lib.hid (HL.out.trans (HB8.out.mono hls))
                cases u with
                | false =>
                  go_wp2_with fail
                  go_ret
                  exact ⟨ret_bool (by rw [HE.out, all_no HME.out HOK.out, HFL.out]; rfl), Lib.hid (HW5.out.trans (HL8.out.mono HW5.out.size))⟩
                | true =>
                  go_wp2_with fail
                  go_roundg (m0 - (j + 1))
                  case measure => omega
                  case rel => exact ⟨j + 1, by go_num, by omega, rfl, Lib.hid (by rw [HTK.out, List.all_append, HF.out]; simp [HOK.out]), HL8⟩
              · have hjn : j = m0 := by omega
                have HF' := Lib.hid (show ed0.all EdN.ok = true by have := HF.out; rwa [hjn, ← HLE.out, List.take_length] at this)
                have n1 : decide ((j : Int) < (m0 : Int)) = false := decide_eq_false (by omega)
                go_wp2_with fail
                go_ret
                exact ⟨ret_bool (by rw [HE.out, HF'.out, HFL.out]; rfl), Lib.hid (HW5.out.trans (HL.out.mono HW5.out.size))⟩
end Go.Proofs.YtoogeihbhhcpaaaGreatDoor
