/-
  The walks of the program's tests of edges, modes, problems.
-/
import Derived.Test.YtoogeihbhhcpaaaGreatDoorFpB
import Derived.Test.YtoogeihbhhcpaaaGreatDoorFrP
set_option linter.unusedVariables false
namespace Go.Proofs.YtoogeihbhhcpaaaGreatDoor
open Go.RowKit Go.Fl Go.Fl.Nm Go.Fl.Dy Go.Fl.Rt Go.Fl.Fm

set_option maxHeartbeats 4000000 in
set_option maxRecDepth 100000 in
theorem edge_p (x : EdN) (w : World) (hx : InG w x) : Calls Tryz.prog 84 #[x.val] w (RetB (.bool x.ok) w) := by
  have HX := Lib.hid hx
  have hs : x.tn.size ≤ maxLen := hx.hs
  have hd1 := hx.d1
  have hd2 := hx.d2
  obtain ⟨u, hu⟩ : ∃ n, okE x.T = n := ⟨_, rfl⟩
  obtain ⟨n, hn⟩ : ∃ n, nameP x.tn.data.toList = n := ⟨_, rfl⟩
  obtain ⟨l, hl⟩ : ∃ n, decide ((x.len : Int) ≤ 4) = n := ⟨_, rfl⟩
  obtain ⟨a, ha⟩ : ∃ n, x.rs.all EqN.ok = n := ⟨_, rfl⟩
  have HE := Lib.hid (show x.ok = (u && (((x.dir == 1) || (x.dir == 2)) && (n && (l && a)))) by unfold EdN.ok EdN.dirB; rw [hu, hn, hl, ha])
  have HU := Lib.hid hu
  have HN := Lib.hid hn
  have HA := Lib.hid ha
  clear hx hn hu ha
  simp only [EdN.val]
  go_enter Tryz.func84, Tryz.ntmps84
  go_upto_region 1 with (fail)
  obtain ⟨w1, hw1⟩ : ∃ z9 : World, z9 = w.alloc (Obj.cells #[.int .i64 x.v.h.kind, .int .i64 x.v.h.n, .int .i64 x.v.h.d, .string x.v.h.name, .int .i64 x.v.h.k, .slice x.v.A x.v.len x.v.cap, .int .i64 x.dir, .string x.tn, .slice x.A x.len x.cap] 64) := ⟨_, rfl⟩
  have HW1 := Lib.hid (show Below w.heap.size w w1 by rw [hw1]; exact below_box _ _)
  have F1 := Lib.hid (show Blk w1 w.heap.size 64 #[.int .i64 x.v.h.kind, .int .i64 x.v.h.n, .int .i64 x.v.h.d, .string x.v.h.name, .int .i64 x.v.h.k, .slice x.v.A x.v.len x.v.cap, .int .i64 x.dir, .string x.tn, .slice x.A x.len x.cap] by rw [hw1]; exact Blk.new _ _ _)
  rw [← hw1]
  clear hw1
  obtain ⟨pr0, pr1, pr2, pr3, pr4, pr5, pr6, pr7, pr8⟩ := F1.out.cs9
  go_wp2_with fail
  refine (eValid_p x.T x.v w1 (HX.out.e.go HW1.out)).mono ?_
  rw [HU.out]
  rintro e w2 ⟨rfl, HB2⟩
  have HW2 := Lib.hid (HW1.out.trans (HB2.out.mono HW1.out.size))
  have F2 := Lib.hid (F1.out.belowW HB2.out)
  clear pr0 pr1 pr2 pr3 pr4 pr5 pr6 pr7 pr8
  obtain ⟨pr0, pr1, pr2, pr3, pr4, pr5, pr6, pr7, pr8⟩ := F2.out.cs9
  cases u with
  | false =>
    go_wp2_with fail
    go_ret
    exact ⟨ret_bool (by rw [HE.out]; rfl), HW2⟩
  | true =>
    obtain ⟨p, hp⟩ : ∃ n, (x.dir == 1) = n := ⟨_, rfl⟩
    obtain ⟨q, hq⟩ : ∃ n, (x.dir == 2) = n := ⟨_, rfl⟩
    rw [hp, hq] at HE
    have hx3 : x.dir ≠ 1 ∨ p = true := by
      cases p with
      | true => exact .inr rfl
      | false => exact .inl (by simpa using hp)
    by_cases hpq : (p || q) = true
    case neg =>
      have HPQ := Lib.hid (show (p || q) = false by simpa using hpq)
      obtain ⟨rfl, rfl⟩ : p = false ∧ q = false := by simpa using HPQ.out
      go_wp2_with fail
      go_ret
      exact ⟨ret_bool (by rw [HE.out]; rfl), HW2⟩
    have HPQ := Lib.hid hpq
    cases p with
    | true =>
      go_wp2_with fail
      refine (name_any x.tn w2 hs).mono ?_
      rw [HN.out]
      rintro e w3 ⟨rfl, rfl⟩
      cases n with
      | false =>
        go_wp2_with fail
        go_ret
        exact ⟨ret_bool (by rw [HE.out]; rfl), HW2⟩
      | true =>
        cases l with
        | false =>
          go_wp2_with fail
          go_ret
          exact ⟨ret_bool (by rw [HE.out]; rfl), HW2⟩
        | true =>
          go_wp2_with fail
          refine (every_R x.A x.len x.cap x.rs w2 (InQ.list HX.out.hr HW2.out)).mono ?_
          rw [HA.out]
          rintro e w4 ⟨rfl, HB4⟩
          go_wp2_with fail
          go_ret
          exact ⟨ret_bool (by rw [HE.out]; rfl), Lib.hid (HW2.out.trans (HB4.out.mono HW2.out.size))⟩
    | false =>
      obtain rfl : q = true := by simpa using HPQ.out
      go_wp2_with fail
      refine (name_any x.tn w2 hs).mono ?_
      rw [HN.out]
      rintro e w3 ⟨rfl, rfl⟩
      cases n with
      | false =>
        go_wp2_with fail
        go_ret
        exact ⟨ret_bool (by rw [HE.out]; rfl), HW2⟩
      | true =>
        cases l with
        | false =>
          go_wp2_with fail
          go_ret
          exact ⟨ret_bool (by rw [HE.out]; rfl), HW2⟩
        | true =>
          go_wp2_with fail
          refine (every_R x.A x.len x.cap x.rs w2 (InQ.list HX.out.hr HW2.out)).mono ?_
          rw [HA.out]
          rintro e w4 ⟨rfl, HB4⟩
          go_wp2_with fail
          go_ret
          exact ⟨ret_bool (by rw [HE.out]; rfl), Lib.hid (HW2.out.trans (HB4.out.mono HW2.out.size))⟩


set_option maxHeartbeats 4000000 in
set_option maxRecDepth 100000 in
theorem ev1_G (x : EdN) (bp : Nat) (w : World) (hx : InG w x) (hp : Blk w bp 122 #[.func (.func 84) #[] #[]]) :
    Calls Tryz.prog 129 #[x.val, .pointer (some ⟨bp, 0, none⟩)] w (RetB (.bool (!x.ok)) w) := by
  have HX := Lib.hid hx
  have HP := Lib.hid hp
  clear hx hp
  simp only [EdN.val]
  go_enter Tryz.func129, Tryz.ntmps129
  go_upto_region 1 with (fail)
  obtain ⟨w1, hw1⟩ : ∃ z9 : World, z9 = w.alloc (Obj.cells #[.int .i64 x.v.h.kind, .int .i64 x.v.h.n, .int .i64 x.v.h.d, .string x.v.h.name, .int .i64 x.v.h.k, .slice x.v.A x.v.len x.v.cap, .int .i64 x.dir, .string x.tn, .slice x.A x.len x.cap] 64) := ⟨_, rfl⟩
  have HW1 := Lib.hid (show Below w.heap.size w w1 by rw [hw1]; exact below_box _ _)
  have F1 := Lib.hid (show Blk w1 w.heap.size 64 #[.int .i64 x.v.h.kind, .int .i64 x.v.h.n, .int .i64 x.v.h.d, .string x.v.h.name, .int .i64 x.v.h.k, .slice x.v.A x.v.len x.v.cap, .int .i64 x.dir, .string x.tn, .slice x.A x.len x.cap] by rw [hw1]; exact Blk.new _ _ _)
  rw [← hw1]
  clear hw1
  have HP1 := Lib.hid (HP.out.belowW HW1.out)
  have KK := Lib.hid (edge_p x w1 (HX.out.belowW HW1.out))
  have pp : w1.cell? ⟨bp, 0, none⟩ = some (.func (.func 84) #[] #[]) := HP1.out.cell 0
  obtain ⟨pr0, pr1, pr2, pr3, pr4, pr5, pr6, pr7, pr8⟩ := F1.out.cs9
  go_wp2_with fail
  refine KK.out.mono ?_
  rintro e w5 ⟨rfl, HB⟩
  go_wp2_with fail
  go_ret
  exact ⟨rfl, Lib.hid (HW1.out.trans (HB.out.mono HW1.out.size))⟩

set_option maxHeartbeats 4000000 in
set_option maxRecDepth 100000 in
theorem idx_G (A : Option Addr) (len cap bp : Nat) (zs : List EdN) (w : World) (hx : InL 9 EdN.cells InG w A len cap zs) (hp : Blk w bp 122 #[.func (.func 84) #[] #[]]) :
    Calls Tryz.prog 162 #[.slice A len cap, .func (.func 129) #[] #[.pointer (some ⟨bp, 0, none⟩)]] w fun e w' => ∃ r : Int, e = .returned (.int .i64 r) ∧ Hid (decide (0 ≤ r) = !(zs.all EdN.ok)) ∧ Hid (Below w.heap.size w w') := by
  have HX := Lib.hid hx
  have HP := Lib.hid hp
  have HLN := Lib.hid hx.hl
  have hlm : len ≤ 9223372036854775807 := by
    have h1 := hx.hc
    have h2 := hx.hm
    unfold maxLen at h2
    omega
  clear hx hp
  go_enter Tryz.func162, Tryz.ntmps162
  go_wp2_with fail
  go_loopg [8] len (fun k i wr => ∃ j : Nat, i = .int .i64 j ∧ j ≤ len ∧ k = len - j ∧ Hid ((zs.take j).all EdN.ok = true) ∧ Hid (Below w.heap.size w wr))
  case atStart => exact ⟨0, rfl, by omega, by omega, by unfold Hid; simp, Below.refl _ _⟩
  case round =>
    obtain ⟨j, rfl, hj, rfl, HF, HL⟩ := hrel
    have hls := HL.out.size
    by_cases hlt : j < len
    · obtain ⟨b, o, x, hA, ht, hin, h7⟩ := InG.len (InG.list HX.out HL.out) j hlt
      subst hA
      obtain ⟨hbl, x0, x1, x2, x3, x4, x5, x6, x7, x8⟩ := EdN.cells_at h7
      have HTK := Lib.hid (take_snocA zs j x ht)
      have HME := Lib.hid (mem_takeA ht)
      have n1 : decide (j < len) = true := decide_eq_true hlt
      have KK := Lib.hid (ev1_G x bp wr hin (HP.out.belowW HL.out))
      clear ht hin h7
      cases hp : x.ok with
      | true =>
        rw [hp] at KK
        go_wp2_with fail
        refine KK.out.mono ?_
        rintro e w2 ⟨rfl, HB⟩
        have HL2 := Lib.hid (HL.out.trans (HB.out.mono hls))
        go_wp2_with fail
        go_roundg (len - (j + 1))
        case measure => omega
        case rel => exact ⟨j + 1, by go_num, by omega, rfl, Lib.hid (by rw [HTK.out, List.all_append, HF.out]; simp [hp]), HL2⟩
      | false =>
        rw [hp] at KK
        go_wp2_with fail
        refine KK.out.mono ?_
        rintro e w2 ⟨rfl, HB⟩
        have HL2 := Lib.hid (HL.out.trans (HB.out.mono hls))
        go_wp2_with fail
        go_ret
        exact ⟨j, rfl, Lib.hid (by rw [List.all_eq_false.2 ⟨x, HME.out, by rw [hp]; simp⟩]; simp), HL2⟩
    · have hjn : j = len := by omega
      have HF' := Lib.hid (show zs.all EdN.ok = true by have := HF.out; rwa [hjn, ← HLN.out, List.take_length] at this)
      have n1 : decide (j < len) = false := decide_eq_false hlt
      go_wp2_with fail
      go_ret
      exact ⟨-1, rfl, Lib.hid (by rw [HF'.out]; rfl), HL⟩

set_option maxHeartbeats 4000000 in
set_option maxRecDepth 100000 in
theorem has_G (A : Option Addr) (len cap bp : Nat) (zs : List EdN) (w : World) (hx : InL 9 EdN.cells InG w A len cap zs) (hp : Blk w bp 122 #[.func (.func 84) #[] #[]]) :
    Calls Tryz.prog 128 #[.slice A len cap, .func (.func 129) #[] #[.pointer (some ⟨bp, 0, none⟩)]] w (RetB (.bool (!(zs.all EdN.ok))) w) := by
  have KK := Lib.hid (idx_G A len cap bp zs w hx hp)
  clear hx hp
  go_enter Tryz.func128, Tryz.ntmps128
  go_wp2_with fail
  refine KK.out.mono ?_
  rintro e w2 ⟨r, rfl, HR, HB⟩
  go_wp2_with fail
  go_ret
  exact ⟨ret_bool HR.out, HB⟩

set_option maxHeartbeats 4000000 in
set_option maxRecDepth 100000 in
theorem every_G (A : Option Addr) (len cap : Nat) (zs : List EdN) (w : World) (hx : InL 9 EdN.cells InG w A len cap zs) :
    Calls Tryz.prog 83 #[.slice A len cap, .func (.func 84) #[] #[]] w (RetB (.bool (zs.all EdN.ok)) w) := by
  have HX := Lib.hid hx
  clear hx
  go_enter Tryz.func83, Tryz.ntmps83
  go_upto_region 1 with (fail)
  obtain ⟨w1, hw1⟩ : ∃ z9 : World, z9 = w.alloc (Obj.cells #[.func (.func 84) #[] #[]] 122) := ⟨_, rfl⟩
  have HW1 := Lib.hid (show Below w.heap.size w w1 by rw [hw1]; exact below_box _ _)
  have F1 := Lib.hid (show Blk w1 w.heap.size 122 #[.func (.func 84) #[] #[]] by rw [hw1]; exact Blk.new _ _ _)
  rw [← hw1]
  clear hw1
  have KK := Lib.hid (has_G A len cap w.heap.size zs w1 (InG.list HX.out HW1.out) F1.out)
  go_wp2_with fail
  refine KK.out.mono ?_
  rintro e w2 ⟨rfl, HB⟩
  go_wp2_with fail
  go_ret
  exact ⟨ret_bool (by simp), Lib.hid (HW1.out.trans (HB.out.mono HW1.out.size))⟩

set_option maxHeartbeats 4000000 in
set_option maxRecDepth 100000 in
theorem mode_p (x : MdN) (w : World) (hx : InM w x) : Calls Tryz.prog 40 #[x.val] w (RetB (.bool x.ok) w) := by
  have HX := Lib.hid hx
  have hs : x.s.size ≤ maxLen := hx.hs
  obtain ⟨n, hn⟩ : ∃ n, nameP x.s.data.toList = n := ⟨_, rfl⟩
  obtain ⟨u, hu⟩ : ∃ n, decide ((x.n : Int) ≤ 4) = n := ⟨_, rfl⟩
  obtain ⟨v, hv⟩ : ∃ n, decide ((x.m : Int) ≤ 4) = n := ⟨_, rfl⟩
  obtain ⟨a, ha⟩ : ∃ n, x.fl.all EqN.ok = n := ⟨_, rfl⟩
  obtain ⟨b, hb⟩ : ∃ n, x.ed.all EdN.ok = n := ⟨_, rfl⟩
  have HE := Lib.hid (show x.ok = (n && (u && (v && (a && b)))) by unfold MdN.ok; rw [hn, hu, hv, ha, hb])
  have HN := Lib.hid hn
  have HA := Lib.hid ha
  have HB := Lib.hid hb
  clear hx hn ha hb
  simp only [MdN.val]
  go_enter Tryz.func40, Tryz.ntmps40
  go_upto_region 1 with (fail)
  obtain ⟨w1, hw1⟩ : ∃ z9 : World, z9 = w.alloc (Obj.cells #[.string x.s, .slice x.A x.n x.c, .slice x.B x.m x.d] 61) := ⟨_, rfl⟩
  have HW1 := Lib.hid (show Below w.heap.size w w1 by rw [hw1]; exact below_box _ _)
  have F1 := Lib.hid (show Blk w1 w.heap.size 61 #[.string x.s, .slice x.A x.n x.c, .slice x.B x.m x.d] by rw [hw1]; exact Blk.new _ _ _)
  rw [← hw1]
  clear hw1
  have pr0 : w1.cell? ⟨w.heap.size, 0, none⟩ = some (.string x.s) := F1.out.cell 0
  have pr1 : w1.cell? ⟨w.heap.size, 1, none⟩ = some (.slice x.A x.n x.c) := F1.out.cell 1
  have pr2 : w1.cell? ⟨w.heap.size, 2, none⟩ = some (.slice x.B x.m x.d) := F1.out.cell 2
  go_wp2_with fail
  refine (name_any x.s w1 hs).mono ?_
  rw [HN.out]
  rintro e w2 ⟨rfl, rfl⟩
  cases n with
  | false =>
    go_wp2_with fail
    go_ret
    exact ⟨ret_bool (by rw [HE.out]; rfl), HW1⟩
  | true =>
    cases u with
    | false =>
      go_wp2_with fail
      go_ret
      exact ⟨ret_bool (by rw [HE.out]; rfl), HW1⟩
    | true =>
      cases v with
      | false =>
        go_wp2_with fail
        go_ret
        exact ⟨ret_bool (by rw [HE.out]; rfl), HW1⟩
      | true =>
        go_wp2_with fail
        refine (every_Q x.A x.n x.c x.fl w1 (InQ.list HX.out.hf HW1.out)).mono ?_
        rw [HA.out]
        rintro e w3 ⟨rfl, HB3⟩
        have HW3 := Lib.hid (HW1.out.trans (HB3.out.mono HW1.out.size))
        have F3 := Lib.hid (F1.out.belowW HB3.out)
        clear pr0 pr1 pr2
        have pr0 : w3.cell? ⟨w.heap.size, 0, none⟩ = some (.string x.s) := F3.out.cell 0
        have pr1 : w3.cell? ⟨w.heap.size, 1, none⟩ = some (.slice x.A x.n x.c) := F3.out.cell 1
        have pr2 : w3.cell? ⟨w.heap.size, 2, none⟩ = some (.slice x.B x.m x.d) := F3.out.cell 2
        cases a with
        | false =>
          go_wp2_with fail
          go_ret
          exact ⟨ret_bool (by rw [HE.out]; rfl), HW3⟩
        | true =>
          go_wp2_with fail
          refine (every_G x.B x.m x.d x.ed w3 (InG.list HX.out.he HW3.out)).mono ?_
          rw [HB.out]
          rintro e w4 ⟨rfl, HB4⟩
          go_wp2_with fail
          go_ret
          exact ⟨ret_bool (by rw [HE.out]; rfl), Lib.hid (HW3.out.trans (HB4.out.mono HW3.out.size))⟩

set_option maxHeartbeats 4000000 in
set_option maxRecDepth 100000 in
theorem ev1_M (x : MdN) (bp : Nat) (w : World) (hx : InM w x) (hp : Blk w bp 93 #[.func (.func 40) #[] #[]]) :
    Calls Tryz.prog 80 #[x.val, .pointer (some ⟨bp, 0, none⟩)] w (RetB (.bool (!x.ok)) w) := by
  have HX := Lib.hid hx
  have HP := Lib.hid hp
  clear hx hp
  simp only [MdN.val]
  go_enter Tryz.func80, Tryz.ntmps80
  go_upto_region 1 with (fail)
  obtain ⟨w1, hw1⟩ : ∃ z9 : World, z9 = w.alloc (Obj.cells #[.string x.s, .slice x.A x.n x.c, .slice x.B x.m x.d] 61) := ⟨_, rfl⟩
  have HW1 := Lib.hid (show Below w.heap.size w w1 by rw [hw1]; exact below_box _ _)
  have F1 := Lib.hid (show Blk w1 w.heap.size 61 #[.string x.s, .slice x.A x.n x.c, .slice x.B x.m x.d] by rw [hw1]; exact Blk.new _ _ _)
  rw [← hw1]
  clear hw1
  have HP1 := Lib.hid (HP.out.belowW HW1.out)
  have KK := Lib.hid (mode_p x w1 (HX.out.belowW HW1.out))
  have pp : w1.cell? ⟨bp, 0, none⟩ = some (.func (.func 40) #[] #[]) := HP1.out.cell 0
  have pr0 : w1.cell? ⟨w.heap.size, 0, none⟩ = some (.string x.s) := F1.out.cell 0
  have pr1 : w1.cell? ⟨w.heap.size, 1, none⟩ = some (.slice x.A x.n x.c) := F1.out.cell 1
  have pr2 : w1.cell? ⟨w.heap.size, 2, none⟩ = some (.slice x.B x.m x.d) := F1.out.cell 2
  go_wp2_with fail
  refine KK.out.mono ?_
  rintro e w5 ⟨rfl, HB⟩
  go_wp2_with fail
  go_ret
  exact ⟨rfl, Lib.hid (HW1.out.trans (HB.out.mono HW1.out.size))⟩

set_option maxHeartbeats 4000000 in
set_option maxRecDepth 100000 in
theorem idx_M (A : Option Addr) (len cap bp : Nat) (zs : List MdN) (w : World) (hx : InL 3 MdN.cells InM w A len cap zs) (hp : Blk w bp 93 #[.func (.func 40) #[] #[]]) :
    Calls Tryz.prog 125 #[.slice A len cap, .func (.func 80) #[] #[.pointer (some ⟨bp, 0, none⟩)]] w fun e w' => ∃ r : Int, e = .returned (.int .i64 r) ∧ Hid (decide (0 ≤ r) = !(zs.all MdN.ok)) ∧ Hid (Below w.heap.size w w') := by
  have HX := Lib.hid hx
  have HP := Lib.hid hp
  have HLN := Lib.hid hx.hl
  have hlm : len ≤ 9223372036854775807 := by
    have h1 := hx.hc
    have h2 := hx.hm
    unfold maxLen at h2
    omega
  clear hx hp
  go_enter Tryz.func125, Tryz.ntmps125
  go_wp2_with fail
  go_loopg [8] len (fun k i wr => ∃ j : Nat, i = .int .i64 j ∧ j ≤ len ∧ k = len - j ∧ Hid ((zs.take j).all MdN.ok = true) ∧ Hid (Below w.heap.size w wr))
  case atStart => exact ⟨0, rfl, by omega, by omega, by unfold Hid; simp, Below.refl _ _⟩
  case round =>
    obtain ⟨j, rfl, hj, rfl, HF, HL⟩ := hrel
    have hls := HL.out.size
    by_cases hlt : j < len
    · obtain ⟨b, o, x, hA, ht, hin, h7⟩ := InM.len (InM.list HX.out HL.out) j hlt
      subst hA
      obtain ⟨hbl, x0, x1, x2⟩ := MdN.cells_at h7
      have HTK := Lib.hid (take_snocA zs j x ht)
      have HME := Lib.hid (mem_takeA ht)
      have n1 : decide (j < len) = true := decide_eq_true hlt
      have KK := Lib.hid (ev1_M x bp wr hin (HP.out.belowW HL.out))
      clear ht hin h7
      cases hp : x.ok with
      | true =>
        rw [hp] at KK
        go_wp2_with fail
        refine KK.out.mono ?_
        rintro e w2 ⟨rfl, HB⟩
        have HL2 := Lib.hid (HL.out.trans (HB.out.mono hls))
        go_wp2_with fail
        go_roundg (len - (j + 1))
        case measure => omega
        case rel => exact ⟨j + 1, by go_num, by omega, rfl, Lib.hid (by rw [HTK.out, List.all_append, HF.out]; simp [hp]), HL2⟩
      | false =>
        rw [hp] at KK
        go_wp2_with fail
        refine KK.out.mono ?_
        rintro e w2 ⟨rfl, HB⟩
        have HL2 := Lib.hid (HL.out.trans (HB.out.mono hls))
        go_wp2_with fail
        go_ret
        exact ⟨j, rfl, Lib.hid (by rw [List.all_eq_false.2 ⟨x, HME.out, by rw [hp]; simp⟩]; simp), HL2⟩
    · have hjn : j = len := by omega
      have HF' := Lib.hid (show zs.all MdN.ok = true by have := HF.out; rwa [hjn, ← HLN.out, List.take_length] at this)
      have n1 : decide (j < len) = false := decide_eq_false hlt
      go_wp2_with fail
      go_ret
      exact ⟨-1, rfl, Lib.hid (by rw [HF'.out]; rfl), HL⟩

set_option maxHeartbeats 4000000 in
set_option maxRecDepth 100000 in
theorem has_M (A : Option Addr) (len cap bp : Nat) (zs : List MdN) (w : World) (hx : InL 3 MdN.cells InM w A len cap zs) (hp : Blk w bp 93 #[.func (.func 40) #[] #[]]) :
    Calls Tryz.prog 79 #[.slice A len cap, .func (.func 80) #[] #[.pointer (some ⟨bp, 0, none⟩)]] w (RetB (.bool (!(zs.all MdN.ok))) w) := by
  have KK := Lib.hid (idx_M A len cap bp zs w hx hp)
  clear hx hp
  go_enter Tryz.func79, Tryz.ntmps79
  go_wp2_with fail
  refine KK.out.mono ?_
  rintro e w2 ⟨r, rfl, HR, HB⟩
  go_wp2_with fail
  go_ret
  exact ⟨ret_bool HR.out, HB⟩

set_option maxHeartbeats 4000000 in
set_option maxRecDepth 100000 in
theorem every_M (A : Option Addr) (len cap : Nat) (zs : List MdN) (w : World) (hx : InL 3 MdN.cells InM w A len cap zs) :
    Calls Tryz.prog 39 #[.slice A len cap, .func (.func 40) #[] #[]] w (RetB (.bool (zs.all MdN.ok)) w) := by
  have HX := Lib.hid hx
  clear hx
  go_enter Tryz.func39, Tryz.ntmps39
  go_upto_region 1 with (fail)
  obtain ⟨w1, hw1⟩ : ∃ z9 : World, z9 = w.alloc (Obj.cells #[.func (.func 40) #[] #[]] 93) := ⟨_, rfl⟩
  have HW1 := Lib.hid (show Below w.heap.size w w1 by rw [hw1]; exact below_box _ _)
  have F1 := Lib.hid (show Blk w1 w.heap.size 93 #[.func (.func 40) #[] #[]] by rw [hw1]; exact Blk.new _ _ _)
  rw [← hw1]
  clear hw1
  have KK := Lib.hid (has_M A len cap w.heap.size zs w1 (InM.list HX.out HW1.out) F1.out)
  go_wp2_with fail
  refine KK.out.mono ?_
  rintro e w2 ⟨rfl, HB⟩
  go_wp2_with fail
  go_ret
  exact ⟨ret_bool (by simp), Lib.hid (HW1.out.trans (HB.out.mono HW1.out.size))⟩
theorem PbN.sz_iff {x : PbN} : x.sz = true ↔ 1 ≤ x.n ∧ x.n ≤ 4 ∧ x.m ≤ 4 ∧ 1 ≤ x.k ∧ x.k ≤ 8 := by
  unfold PbN.sz
  simp only [Bool.and_eq_true, decide_eq_true_eq, and_assoc]
theorem PbN.no {x : PbN} (h : ¬ (1 ≤ x.n ∧ x.n ≤ 4 ∧ x.m ≤ 4 ∧ 1 ≤ x.k ∧ x.k ≤ 8)) : x.ok = false := by
  unfold PbN.ok
  cases hs : x.sz with
  | true => exact absurd (PbN.sz_iff.1 hs) h
  | false => rfl
theorem PbN.yes {x : PbN} (h : 1 ≤ x.n ∧ x.n ≤ 4 ∧ x.m ≤ 4 ∧ 1 ≤ x.k ∧ x.k ≤ 8) : x.ok = (x.st.all DcN.ok && (x.pa.all DcN.ok && (x.ms.all MdN.ok && vB x.t x.u))) := by
  unfold PbN.ok
  rw [PbN.sz_iff.2 h]
  rfl
theorem PbN.ok_iff {x : PbN} : x.ok = true ↔ (1 ≤ x.n ∧ x.n ≤ 4 ∧ x.m ≤ 4 ∧ 1 ≤ x.k ∧ x.k ≤ 8) ∧ x.st.all DcN.ok = true ∧ x.pa.all DcN.ok = true ∧ x.ms.all MdN.ok = true ∧ vB x.t x.u = true := by
  unfold PbN.ok
  rw [Bool.and_eq_true, Bool.and_eq_true, Bool.and_eq_true, Bool.and_eq_true, PbN.sz_iff]

set_option maxHeartbeats 4000000 in
set_option maxRecDepth 100000 in
theorem tproblem_p (x0 : PbN) (w : World) (hx : InP w x0) : Calls Tryz.prog 18 #[x0.val] w (RetB (.bool x0.ok) w) := by
  obtain ⟨A0, n0, c0, st0, B0, m0, dd0, pa0, C0, k0, e0, ms0, t0, u0⟩ := x0
  have HS0 := Lib.hid (show InL 5 DcN.cells InD w A0 n0 c0 st0 from hx.hs)
  have HP0 := Lib.hid (show InL 5 DcN.cells InD w B0 m0 dd0 pa0 from hx.hp)
  have HM0 := Lib.hid (show InL 3 MdN.cells InM w C0 k0 e0 ms0 from hx.hm)
  have tL : -9223372036854775808 ≤ t0 := hx.t1
  have tH : t0 ≤ 9223372036854775807 := hx.t2
  have uL : -9223372036854775808 ≤ u0 := hx.u1
  have uH : u0 ≤ 9223372036854775807 := hx.u2
  clear hx
  simp only [PbN.val]
  go_enter Tryz.func18, Tryz.ntmps18
  go_upto_region 1 with (fail)
  obtain ⟨w1, hw1⟩ : ∃ z9 : World, z9 = w.alloc (Obj.cells #[.slice A0 n0 c0, .slice B0 m0 dd0, .slice C0 k0 e0, .int .i64 t0, .int .i64 u0] 27) := ⟨_, rfl⟩
  have HW1 := Lib.hid (show Below w.heap.size w w1 by rw [hw1]; exact below_box _ _)
  have F1 := Lib.hid (show Blk w1 w.heap.size 27 #[.slice A0 n0 c0, .slice B0 m0 dd0, .slice C0 k0 e0, .int .i64 t0, .int .i64 u0] by rw [hw1]; exact Blk.new _ _ _)
  rw [← hw1]
  clear hw1
  obtain ⟨pr0, pr1, pr2, pr3, pr4⟩ := F1.out.cs5
  by_cases h0 : n0 < 1
  case pos =>
    have d0 : decide ((n0 : Int) < 1) = true := decide_eq_true (by omega)
    have HE := Lib.hid (show PbN.ok ⟨A0, n0, c0, st0, B0, m0, dd0, pa0, C0, k0, e0, ms0, t0, u0⟩ = false from PbN.no (by simp only; omega))
    go_wp2_with fail
    go_ret
    exact ⟨ret_bool HE.out.symm, HW1⟩
  have d0 : decide ((n0 : Int) < 1) = false := decide_eq_false (by omega)
  by_cases h1 : 4 < n0
  case pos =>
    have d1 : decide ((4 : Int) < (n0 : Int)) = true := decide_eq_true (by omega)
    have HE := Lib.hid (show PbN.ok ⟨A0, n0, c0, st0, B0, m0, dd0, pa0, C0, k0, e0, ms0, t0, u0⟩ = false from PbN.no (by simp only; omega))
    go_wp2_with fail
    go_ret
    exact ⟨ret_bool HE.out.symm, HW1⟩
  have d1 : decide ((4 : Int) < (n0 : Int)) = false := decide_eq_false (by omega)
  by_cases h2 : 4 < m0
  case pos =>
    have d2 : decide ((4 : Int) < (m0 : Int)) = true := decide_eq_true (by omega)
    have HE := Lib.hid (show PbN.ok ⟨A0, n0, c0, st0, B0, m0, dd0, pa0, C0, k0, e0, ms0, t0, u0⟩ = false from PbN.no (by simp only; omega))
    go_wp2_with fail
    go_ret
    exact ⟨ret_bool HE.out.symm, HW1⟩
  have d2 : decide ((4 : Int) < (m0 : Int)) = false := decide_eq_false (by omega)
  by_cases h3 : k0 < 1
  case pos =>
    have d3 : decide ((k0 : Int) < 1) = true := decide_eq_true (by omega)
    have HE := Lib.hid (show PbN.ok ⟨A0, n0, c0, st0, B0, m0, dd0, pa0, C0, k0, e0, ms0, t0, u0⟩ = false from PbN.no (by simp only; omega))
    go_wp2_with fail
    go_ret
    exact ⟨ret_bool HE.out.symm, HW1⟩
  have d3 : decide ((k0 : Int) < 1) = false := decide_eq_false (by omega)
  by_cases h4 : 8 < k0
  case pos =>
    have d4 : decide ((8 : Int) < (k0 : Int)) = true := decide_eq_true (by omega)
    have HE := Lib.hid (show PbN.ok ⟨A0, n0, c0, st0, B0, m0, dd0, pa0, C0, k0, e0, ms0, t0, u0⟩ = false from PbN.no (by simp only; omega))
    go_wp2_with fail
    go_ret
    exact ⟨ret_bool HE.out.symm, HW1⟩
  have d4 : decide ((8 : Int) < (k0 : Int)) = false := decide_eq_false (by omega)
  obtain ⟨a, ha⟩ : ∃ n, st0.all DcN.ok = n := ⟨_, rfl⟩
  obtain ⟨b, hb⟩ : ∃ n, pa0.all DcN.ok = n := ⟨_, rfl⟩
  obtain ⟨c, hc⟩ : ∃ n, ms0.all MdN.ok = n := ⟨_, rfl⟩
  obtain ⟨v, hv⟩ : ∃ n, vB t0 u0 = n := ⟨_, rfl⟩
  have HE := Lib.hid (show PbN.ok ⟨A0, n0, c0, st0, B0, m0, dd0, pa0, C0, k0, e0, ms0, t0, u0⟩ = (a && (b && (c && v))) by rw [PbN.yes (by simp only; omega)]; simp only [ha, hb, hc, hv])
  have HA := Lib.hid ha
  have HB := Lib.hid hb
  have HC := Lib.hid hc
  have HV := Lib.hid hv
  clear ha hb hc hv
  go_wp2_with fail
  clear d0 d1 d2 d3 d4
  refine (every_D A0 n0 c0 st0 w1 (InD.list HS0.out HW1.out)).mono ?_
  rw [HA.out]
  rintro e w2 ⟨rfl, HB2⟩
  have HW2 := Lib.hid (HW1.out.trans (HB2.out.mono HW1.out.size))
  have F2 := Lib.hid (F1.out.belowW HB2.out)
  clear pr0 pr1 pr2 pr3 pr4
  obtain ⟨pr0, pr1, pr2, pr3, pr4⟩ := F2.out.cs5
  cases a with
  | false =>
    go_wp2_with fail
    go_ret
    exact ⟨ret_bool (by rw [HE.out]; rfl), HW2⟩
  | true =>
    go_wp2_with fail
    refine (every_D B0 m0 _ pa0 w2 (InD.list HP0.out HW2.out)).mono ?_
    rw [HB.out]
    rintro e w3 ⟨rfl, HB3⟩
    have HW3 := Lib.hid (HW2.out.trans (HB3.out.mono HW2.out.size))
    have F3 := Lib.hid (F2.out.belowW HB3.out)
    clear pr0 pr1 pr2 pr3 pr4
    obtain ⟨pr0, pr1, pr2, pr3, pr4⟩ := F3.out.cs5
    cases b with
    | false =>
      go_wp2_with fail
      go_ret
      exact ⟨ret_bool (by rw [HE.out]; rfl), HW3⟩
    | true =>
      go_wp2_with fail
      refine (every_M C0 k0 e0 ms0 w3 (InM.list HM0.out HW3.out)).mono ?_
      rw [HC.out]
      rintro e w4 ⟨rfl, HB4⟩
      have HW4 := Lib.hid (HW3.out.trans (HB4.out.mono HW3.out.size))
      have F4 := Lib.hid (F3.out.belowW HB4.out)
      clear pr0 pr1 pr2 pr3 pr4
      obtain ⟨pr0, pr1, pr2, pr3, pr4⟩ := F4.out.cs5
      cases c with
      | false =>
        go_wp2_with fail
        go_ret
        exact ⟨ret_bool (by rw [HE.out]; rfl), HW4⟩
      | true =>
        go_wp2_with fail
        refine (valid_q t0 u0 w4 tL tH uL uH).mono ?_
        rw [HV.out]
        rintro e w5 ⟨rfl, HB5⟩
        go_wp2_with fail
        go_ret
        exact ⟨ret_bool (by rw [HE.out]; rfl), Lib.hid (HW4.out.trans (HB5.out.mono HW4.out.size))⟩
end Go.Proofs.YtoogeihbhhcpaaaGreatDoor
