/-
  The walks of the program's tests of declarations, equations, edges, modes, and lists of them.
-/
import Derived.Test.YtoogeihbhhcpaaaGreatDoorFpA
import Derived.Test.YtoogeihbhhcpaaaGreatDoorFrP
set_option linter.unusedVariables false
namespace Go.Proofs.YtoogeihbhhcpaaaGreatDoor
open Go.RowKit Go.Fl Go.Fl.Nm Go.Fl.Dy Go.Fl.Rt Go.Fl.Fm

set_option maxHeartbeats 4000000 in
set_option maxRecDepth 100000 in
theorem decl_p (x : DcN) (w : World) (hx : InD w x) : Calls Tryz.prog 38 #[x.val] w (RetB (.bool x.ok) w) := by
  have KR := Lib.hid hx.r
  have hs : x.s.size ≤ maxLen := hx.hs
  obtain ⟨n, hn⟩ : ∃ n, nameP x.s.data.toList = n := ⟨_, rfl⟩
  obtain ⟨u, hu⟩ : ∃ n, vB x.a x.b = n := ⟨_, rfl⟩
  obtain ⟨v, hv⟩ : ∃ n, vB x.c x.d = n := ⟨_, rfl⟩
  have HE := Lib.hid (show x.ok = (n && (u && v)) by unfold DcN.ok; rw [hn, hu, hv])
  have HN := Lib.hid hn
  have HU := Lib.hid hu
  have HV := Lib.hid hv
  clear hx hn hu hv
  simp only [DcN.val]
  go_enter Tryz.func38, Tryz.ntmps38
  go_upto_region 1 with (fail)
  obtain ⟨w1, hw1⟩ : ∃ z9 : World, z9 = w.alloc (Obj.cells #[.string x.s, .int .i64 x.a, .int .i64 x.b, .int .i64 x.c, .int .i64 x.d] 82) := ⟨_, rfl⟩
  have HW1 := Lib.hid (show Below w.heap.size w w1 by rw [hw1]; exact below_box _ _)
  have F1 := Lib.hid (show Blk w1 w.heap.size 82 #[.string x.s, .int .i64 x.a, .int .i64 x.b, .int .i64 x.c, .int .i64 x.d] by rw [hw1]; exact Blk.new _ _ _)
  rw [← hw1]
  clear hw1
  obtain ⟨pr0, pr1, pr2, pr3, pr4⟩ := F1.out.cs5
  go_wp2_with fail
  refine (name_any x.s w1 hs).mono ?_
  rw [HN.out]
  rintro e w2 ⟨rfl, rfl⟩
  cases n with
  | false =>
    go_wp2_with fail
    go_ret
    exact ⟨ret_bool (by rw [HE.out]; rfl), HW1⟩
  | true =>
    go_wp2_with fail
    refine (valid_q x.a x.b w1 KR.out.a1 KR.out.a2 KR.out.b1 KR.out.b2).mono ?_
    rw [HU.out]
    rintro e w3 ⟨rfl, HB⟩
    have HW3 := Lib.hid (HW1.out.trans (HB.out.mono HW1.out.size))
    have F3 := Lib.hid (F1.out.belowW HB.out)
    clear pr0 pr1 pr2 pr3 pr4
    obtain ⟨pr0, pr1, pr2, pr3, pr4⟩ := F3.out.cs5
    cases u with
    | false =>
      go_wp2_with fail
      go_ret
      exact ⟨ret_bool (by rw [HE.out]; rfl), HW3⟩
    | true =>
      go_wp2_with fail
      refine (valid_q x.c x.d w3 KR.out.c1 KR.out.c2 KR.out.d1 KR.out.d2).mono ?_
      rw [HV.out]
      rintro e w4 ⟨rfl, HB4⟩
      go_wp2_with fail
      go_ret
      exact ⟨ret_bool (by rw [HE.out]; rfl), Lib.hid (HW3.out.trans (HB4.out.mono HW3.out.size))⟩

set_option maxHeartbeats 4000000 in
set_option maxRecDepth 100000 in
theorem eq_p (x : EqN) (w : World) (hx : InQ w x) : Calls Tryz.prog 82 #[x.val] w (RetB (.bool x.ok) w) := by
  have HX := Lib.hid hx
  have hs : x.s.size ≤ maxLen := hx.hs
  obtain ⟨n, hn⟩ : ∃ n, nameP x.s.data.toList = n := ⟨_, rfl⟩
  obtain ⟨u, hu⟩ : ∃ n, okE x.T = n := ⟨_, rfl⟩
  have HE := Lib.hid (show x.ok = (n && u) by unfold EqN.ok; rw [hn, hu])
  have HN := Lib.hid hn
  have HU := Lib.hid hu
  clear hx hn hu
  simp only [EqN.val]
  go_enter Tryz.func82, Tryz.ntmps82
  go_upto_region 1 with (fail)
  obtain ⟨w1, hw1⟩ : ∃ z9 : World, z9 = w.alloc (Obj.cells #[.string x.s, .int .i64 x.v.h.kind, .int .i64 x.v.h.n, .int .i64 x.v.h.d, .string x.v.h.name, .int .i64 x.v.h.k, .slice x.v.A x.v.len x.v.cap] 75) := ⟨_, rfl⟩
  have HW1 := Lib.hid (show Below w.heap.size w w1 by rw [hw1]; exact below_box _ _)
  have F1 := Lib.hid (show Blk w1 w.heap.size 75 #[.string x.s, .int .i64 x.v.h.kind, .int .i64 x.v.h.n, .int .i64 x.v.h.d, .string x.v.h.name, .int .i64 x.v.h.k, .slice x.v.A x.v.len x.v.cap] by rw [hw1]; exact Blk.new _ _ _)
  rw [← hw1]
  clear hw1
  obtain ⟨pr0, pr1, pr2, pr3, pr4, pr5, pr6⟩ := F1.out.cs7
  go_wp2_with fail
  refine (name_any x.s w1 hs).mono ?_
  rw [HN.out]
  rintro e w2 ⟨rfl, rfl⟩
  cases n with
  | false =>
    go_wp2_with fail
    go_ret
    exact ⟨ret_bool (by rw [HE.out]; rfl), HW1⟩
  | true =>
    go_wp2_with fail
    refine (eValid_p x.T x.v w1 (HX.out.e.go HW1.out)).mono ?_
    rw [HU.out]
    rintro e w3 ⟨rfl, HB⟩
    go_wp2_with fail
    go_ret
    exact ⟨ret_bool (by rw [HE.out]; rfl), Lib.hid (HW1.out.trans (HB.out.mono HW1.out.size))⟩

set_option maxHeartbeats 4000000 in
set_option maxRecDepth 100000 in
theorem reset_p (x : EqN) (w : World) (hx : InQ w x) : Calls Tryz.prog 86 #[x.val] w (RetB (.bool x.ok) w) := by
  have HX := Lib.hid hx
  have hs : x.s.size ≤ maxLen := hx.hs
  obtain ⟨n, hn⟩ : ∃ n, nameP x.s.data.toList = n := ⟨_, rfl⟩
  obtain ⟨u, hu⟩ : ∃ n, okE x.T = n := ⟨_, rfl⟩
  have HE := Lib.hid (show x.ok = (n && u) by unfold EqN.ok; rw [hn, hu])
  have HN := Lib.hid hn
  have HU := Lib.hid hu
  clear hx hn hu
  simp only [EqN.val]
  go_enter Tryz.func86, Tryz.ntmps86
  go_upto_region 1 with (fail)
  obtain ⟨w1, hw1⟩ : ∃ z9 : World, z9 = w.alloc (Obj.cells #[.string x.s, .int .i64 x.v.h.kind, .int .i64 x.v.h.n, .int .i64 x.v.h.d, .string x.v.h.name, .int .i64 x.v.h.k, .slice x.v.A x.v.len x.v.cap] 83) := ⟨_, rfl⟩
  have HW1 := Lib.hid (show Below w.heap.size w w1 by rw [hw1]; exact below_box _ _)
  have F1 := Lib.hid (show Blk w1 w.heap.size 83 #[.string x.s, .int .i64 x.v.h.kind, .int .i64 x.v.h.n, .int .i64 x.v.h.d, .string x.v.h.name, .int .i64 x.v.h.k, .slice x.v.A x.v.len x.v.cap] by rw [hw1]; exact Blk.new _ _ _)
  rw [← hw1]
  clear hw1
  obtain ⟨pr0, pr1, pr2, pr3, pr4, pr5, pr6⟩ := F1.out.cs7
  go_wp2_with fail
  refine (name_any x.s w1 hs).mono ?_
  rw [HN.out]
  rintro e w2 ⟨rfl, rfl⟩
  cases n with
  | false =>
    go_wp2_with fail
    go_ret
    exact ⟨ret_bool (by rw [HE.out]; rfl), HW1⟩
  | true =>
    go_wp2_with fail
    refine (eValid_p x.T x.v w1 (HX.out.e.go HW1.out)).mono ?_
    rw [HU.out]
    rintro e w3 ⟨rfl, HB⟩
    go_wp2_with fail
    go_ret
    exact ⟨ret_bool (by rw [HE.out]; rfl), Lib.hid (HW1.out.trans (HB.out.mono HW1.out.size))⟩

set_option maxHeartbeats 4000000 in
set_option maxRecDepth 100000 in
theorem ev1_D (x : DcN) (bp : Nat) (w : World) (hx : InD w x) (hp : Blk w bp 91 #[.func (.func 38) #[] #[]]) :
    Calls Tryz.prog 77 #[x.val, .pointer (some ⟨bp, 0, none⟩)] w (RetB (.bool (!x.ok)) w) := by
  have HX := Lib.hid hx
  have HP := Lib.hid hp
  clear hx hp
  simp only [DcN.val]
  go_enter Tryz.func77, Tryz.ntmps77
  go_upto_region 1 with (fail)
  obtain ⟨w1, hw1⟩ : ∃ z9 : World, z9 = w.alloc (Obj.cells #[.string x.s, .int .i64 x.a, .int .i64 x.b, .int .i64 x.c, .int .i64 x.d] 82) := ⟨_, rfl⟩
  have HW1 := Lib.hid (show Below w.heap.size w w1 by rw [hw1]; exact below_box _ _)
  have F1 := Lib.hid (show Blk w1 w.heap.size 82 #[.string x.s, .int .i64 x.a, .int .i64 x.b, .int .i64 x.c, .int .i64 x.d] by rw [hw1]; exact Blk.new _ _ _)
  rw [← hw1]
  clear hw1
  have HP1 := Lib.hid (HP.out.belowW HW1.out)
  have KK := Lib.hid (decl_p x w1 (HX.out.belowW HW1.out))
  have pp : w1.cell? ⟨bp, 0, none⟩ = some (.func (.func 38) #[] #[]) := HP1.out.cell 0
  obtain ⟨pr0, pr1, pr2, pr3, pr4⟩ := F1.out.cs5
  go_wp2_with fail
  refine KK.out.mono ?_
  rintro e w5 ⟨rfl, HB⟩
  go_wp2_with fail
  go_ret
  exact ⟨rfl, Lib.hid (HW1.out.trans (HB.out.mono HW1.out.size))⟩

set_option maxHeartbeats 4000000 in
set_option maxRecDepth 100000 in
theorem idx_D (A : Option Addr) (len cap bp : Nat) (zs : List DcN) (w : World) (hx : InL 5 DcN.cells InD w A len cap zs) (hp : Blk w bp 91 #[.func (.func 38) #[] #[]]) :
    Calls Tryz.prog 122 #[.slice A len cap, .func (.func 77) #[] #[.pointer (some ⟨bp, 0, none⟩)]] w fun e w' => ∃ r : Int, e = .returned (.int .i64 r) ∧ Hid (decide (0 ≤ r) = !(zs.all DcN.ok)) ∧ Hid (Below w.heap.size w w') := by
  have HX := Lib.hid hx
  have HP := Lib.hid hp
  have HLN := Lib.hid hx.hl
  have hlm : len ≤ 9223372036854775807 := by
    have h1 := hx.hc
    have h2 := hx.hm
    unfold maxLen at h2
    omega
  clear hx hp
  go_enter Tryz.func122, Tryz.ntmps122
  go_wp2_with fail
  go_loopg [8] len (fun k i wr => ∃ j : Nat, i = .int .i64 j ∧ j ≤ len ∧ k = len - j ∧ Hid ((zs.take j).all DcN.ok = true) ∧ Hid (Below w.heap.size w wr))
  case atStart => exact ⟨0, rfl, by omega, by omega, by unfold Hid; simp, Below.refl _ _⟩
  case round =>
    obtain ⟨j, rfl, hj, rfl, HF, HL⟩ := hrel
    have hls := HL.out.size
    by_cases hlt : j < len
    · obtain ⟨b, o, x, hA, ht, hin, h7⟩ := InD.len (InD.list HX.out HL.out) j hlt
      subst hA
      obtain ⟨hbl, x0, x1, x2, x3, x4⟩ := DcN.cells_at h7
      have HTK := Lib.hid (take_snocA zs j x ht)
      have HME := Lib.hid (mem_takeA ht)
      have n1 : decide (j < len) = true := decide_eq_true hlt
      have KK := Lib.hid (ev1_D x bp wr hin (HP.out.belowW HL.out))
      clear ht hin h7
      cases hp : x.ok with
      | true =>
        rw [hp] at KK
        go_wp2_with fail
        refine KK.out.mono ?_
        rintro e w2 ⟨rfl, HB⟩
        have HL2 := Lib.hid (HL.out.trans (HB.out.mono hls))
        go_wp2_with fail
        go_roundg (len - (j + 1))
        case measure => omega
        case rel => exact ⟨j + 1, by go_num, by omega, rfl, Lib.hid (by rw [HTK.out, List.all_append, HF.out]; simp [hp]), HL2⟩
      | false =>
        rw [hp] at KK
        go_wp2_with fail
        refine KK.out.mono ?_
        rintro e w2 ⟨rfl, HB⟩
        have HL2 := Lib.hid (HL.out.trans (HB.out.mono hls))
        go_wp2_with fail
        go_ret
        exact ⟨j, rfl, Lib.hid (by rw [List.all_eq_false.2 ⟨x, HME.out, by rw [hp]; simp⟩]; simp), HL2⟩
    · have hjn : j = len := by omega
      have HF' := Lib.hid (show zs.all DcN.ok = true by have := HF.out; rwa [hjn, ← HLN.out, List.take_length] at this)
      have n1 : decide (j < len) = false := decide_eq_false hlt
      go_wp2_with fail
      go_ret
      exact ⟨-1, rfl, Lib.hid (by rw [HF'.out]; rfl), HL⟩

set_option maxHeartbeats 4000000 in
set_option maxRecDepth 100000 in
theorem has_D (A : Option Addr) (len cap bp : Nat) (zs : List DcN) (w : World) (hx : InL 5 DcN.cells InD w A len cap zs) (hp : Blk w bp 91 #[.func (.func 38) #[] #[]]) :
    Calls Tryz.prog 76 #[.slice A len cap, .func (.func 77) #[] #[.pointer (some ⟨bp, 0, none⟩)]] w (RetB (.bool (!(zs.all DcN.ok))) w) := by
  have KK := Lib.hid (idx_D A len cap bp zs w hx hp)
  clear hx hp
  go_enter Tryz.func76, Tryz.ntmps76
  go_wp2_with fail
  refine KK.out.mono ?_
  rintro e w2 ⟨r, rfl, HR, HB⟩
  go_wp2_with fail
  go_ret
  exact ⟨ret_bool HR.out, HB⟩

set_option maxHeartbeats 4000000 in
set_option maxRecDepth 100000 in
theorem every_D (A : Option Addr) (len cap : Nat) (zs : List DcN) (w : World) (hx : InL 5 DcN.cells InD w A len cap zs) :
    Calls Tryz.prog 37 #[.slice A len cap, .func (.func 38) #[] #[]] w (RetB (.bool (zs.all DcN.ok)) w) := by
  have HX := Lib.hid hx
  clear hx
  go_enter Tryz.func37, Tryz.ntmps37
  go_upto_region 1 with (fail)
  obtain ⟨w1, hw1⟩ : ∃ z9 : World, z9 = w.alloc (Obj.cells #[.func (.func 38) #[] #[]] 91) := ⟨_, rfl⟩
  have HW1 := Lib.hid (show Below w.heap.size w w1 by rw [hw1]; exact below_box _ _)
  have F1 := Lib.hid (show Blk w1 w.heap.size 91 #[.func (.func 38) #[] #[]] by rw [hw1]; exact Blk.new _ _ _)
  rw [← hw1]
  clear hw1
  have KK := Lib.hid (has_D A len cap w.heap.size zs w1 (InD.list HX.out HW1.out) F1.out)
  go_wp2_with fail
  refine KK.out.mono ?_
  rintro e w2 ⟨rfl, HB⟩
  go_wp2_with fail
  go_ret
  exact ⟨ret_bool (by simp), Lib.hid (HW1.out.trans (HB.out.mono HW1.out.size))⟩

set_option maxHeartbeats 4000000 in
set_option maxRecDepth 100000 in
theorem ev1_Q (x : EqN) (bp : Nat) (w : World) (hx : InQ w x) (hp : Blk w bp 118 #[.func (.func 82) #[] #[]]) :
    Calls Tryz.prog 127 #[x.val, .pointer (some ⟨bp, 0, none⟩)] w (RetB (.bool (!x.ok)) w) := by
  have HX := Lib.hid hx
  have HP := Lib.hid hp
  clear hx hp
  simp only [EqN.val]
  go_enter Tryz.func127, Tryz.ntmps127
  go_upto_region 1 with (fail)
  obtain ⟨w1, hw1⟩ : ∃ z9 : World, z9 = w.alloc (Obj.cells #[.string x.s, .int .i64 x.v.h.kind, .int .i64 x.v.h.n, .int .i64 x.v.h.d, .string x.v.h.name, .int .i64 x.v.h.k, .slice x.v.A x.v.len x.v.cap] 75) := ⟨_, rfl⟩
  have HW1 := Lib.hid (show Below w.heap.size w w1 by rw [hw1]; exact below_box _ _)
  have F1 := Lib.hid (show Blk w1 w.heap.size 75 #[.string x.s, .int .i64 x.v.h.kind, .int .i64 x.v.h.n, .int .i64 x.v.h.d, .string x.v.h.name, .int .i64 x.v.h.k, .slice x.v.A x.v.len x.v.cap] by rw [hw1]; exact Blk.new _ _ _)
  rw [← hw1]
  clear hw1
  have HP1 := Lib.hid (HP.out.belowW HW1.out)
  have KK := Lib.hid (eq_p x w1 (HX.out.belowW HW1.out))
  have pp : w1.cell? ⟨bp, 0, none⟩ = some (.func (.func 82) #[] #[]) := HP1.out.cell 0
  obtain ⟨pr0, pr1, pr2, pr3, pr4, pr5, pr6⟩ := F1.out.cs7
  go_wp2_with fail
  refine KK.out.mono ?_
  rintro e w5 ⟨rfl, HB⟩
  go_wp2_with fail
  go_ret
  exact ⟨rfl, Lib.hid (HW1.out.trans (HB.out.mono HW1.out.size))⟩

set_option maxHeartbeats 4000000 in
set_option maxRecDepth 100000 in
theorem idx_Q (A : Option Addr) (len cap bp : Nat) (zs : List EqN) (w : World) (hx : InL 7 EqN.cells InQ w A len cap zs) (hp : Blk w bp 118 #[.func (.func 82) #[] #[]]) :
    Calls Tryz.prog 161 #[.slice A len cap, .func (.func 127) #[] #[.pointer (some ⟨bp, 0, none⟩)]] w fun e w' => ∃ r : Int, e = .returned (.int .i64 r) ∧ Hid (decide (0 ≤ r) = !(zs.all EqN.ok)) ∧ Hid (Below w.heap.size w w') := by
  have HX := Lib.hid hx
  have HP := Lib.hid hp
  have HLN := Lib.hid hx.hl
  have hlm : len ≤ 9223372036854775807 := by
    have h1 := hx.hc
    have h2 := hx.hm
    unfold maxLen at h2
    omega
  clear hx hp
  go_enter Tryz.func161, Tryz.ntmps161
  go_wp2_with fail
  go_loopg [8] len (fun k i wr => ∃ j : Nat, i = .int .i64 j ∧ j ≤ len ∧ k = len - j ∧ Hid ((zs.take j).all EqN.ok = true) ∧ Hid (Below w.heap.size w wr))
  case atStart => exact ⟨0, rfl, by omega, by omega, by unfold Hid; simp, Below.refl _ _⟩
  case round =>
    obtain ⟨j, rfl, hj, rfl, HF, HL⟩ := hrel
    have hls := HL.out.size
    by_cases hlt : j < len
    · obtain ⟨b, o, x, hA, ht, hin, h7⟩ := InQ.len (InQ.list HX.out HL.out) j hlt
      subst hA
      obtain ⟨hbl, x0, x1, x2, x3, x4, x5, x6⟩ := EqN.cells_at h7
      have HTK := Lib.hid (take_snocA zs j x ht)
      have HME := Lib.hid (mem_takeA ht)
      have n1 : decide (j < len) = true := decide_eq_true hlt
      have KK := Lib.hid (ev1_Q x bp wr hin (HP.out.belowW HL.out))
      clear ht hin h7
      cases hp : x.ok with
      | true =>
        rw [hp] at KK
        go_wp2_with fail
        refine KK.out.mono ?_
        rintro e w2 ⟨rfl, HB⟩
        have HL2 := Lib.hid (HL.out.trans (HB.out.mono hls))
        go_wp2_with fail
        go_roundg (len - (j + 1))
        case measure => omega
        case rel => exact ⟨j + 1, by go_num, by omega, rfl, Lib.hid (by rw [HTK.out, List.all_append, HF.out]; simp [hp]), HL2⟩
      | false =>
        rw [hp] at KK
        go_wp2_with fail
        refine KK.out.mono ?_
        rintro e w2 ⟨rfl, HB⟩
        have HL2 := Lib.hid (HL.out.trans (HB.out.mono hls))
        go_wp2_with fail
        go_ret
        exact ⟨j, rfl, Lib.hid (by rw [List.all_eq_false.2 ⟨x, HME.out, by rw [hp]; simp⟩]; simp), HL2⟩
    · have hjn : j = len := by omega
      have HF' := Lib.hid (show zs.all EqN.ok = true by have := HF.out; rwa [hjn, ← HLN.out, List.take_length] at this)
      have n1 : decide (j < len) = false := decide_eq_false hlt
      go_wp2_with fail
      go_ret
      exact ⟨-1, rfl, Lib.hid (by rw [HF'.out]; rfl), HL⟩

set_option maxHeartbeats 4000000 in
set_option maxRecDepth 100000 in
theorem has_Q (A : Option Addr) (len cap bp : Nat) (zs : List EqN) (w : World) (hx : InL 7 EqN.cells InQ w A len cap zs) (hp : Blk w bp 118 #[.func (.func 82) #[] #[]]) :
    Calls Tryz.prog 126 #[.slice A len cap, .func (.func 127) #[] #[.pointer (some ⟨bp, 0, none⟩)]] w (RetB (.bool (!(zs.all EqN.ok))) w) := by
  have KK := Lib.hid (idx_Q A len cap bp zs w hx hp)
  clear hx hp
  go_enter Tryz.func126, Tryz.ntmps126
  go_wp2_with fail
  refine KK.out.mono ?_
  rintro e w2 ⟨r, rfl, HR, HB⟩
  go_wp2_with fail
  go_ret
  exact ⟨ret_bool HR.out, HB⟩

set_option maxHeartbeats 4000000 in
set_option maxRecDepth 100000 in
theorem every_Q (A : Option Addr) (len cap : Nat) (zs : List EqN) (w : World) (hx : InL 7 EqN.cells InQ w A len cap zs) :
    Calls Tryz.prog 81 #[.slice A len cap, .func (.func 82) #[] #[]] w (RetB (.bool (zs.all EqN.ok)) w) := by
  have HX := Lib.hid hx
  clear hx
  go_enter Tryz.func81, Tryz.ntmps81
  go_upto_region 1 with (fail)
  obtain ⟨w1, hw1⟩ : ∃ z9 : World, z9 = w.alloc (Obj.cells #[.func (.func 82) #[] #[]] 118) := ⟨_, rfl⟩
  have HW1 := Lib.hid (show Below w.heap.size w w1 by rw [hw1]; exact below_box _ _)
  have F1 := Lib.hid (show Blk w1 w.heap.size 118 #[.func (.func 82) #[] #[]] by rw [hw1]; exact Blk.new _ _ _)
  rw [← hw1]
  clear hw1
  have KK := Lib.hid (has_Q A len cap w.heap.size zs w1 (InQ.list HX.out HW1.out) F1.out)
  go_wp2_with fail
  refine KK.out.mono ?_
  rintro e w2 ⟨rfl, HB⟩
  go_wp2_with fail
  go_ret
  exact ⟨ret_bool (by simp), Lib.hid (HW1.out.trans (HB.out.mono HW1.out.size))⟩

set_option maxHeartbeats 4000000 in
set_option maxRecDepth 100000 in
theorem ev1_R (x : EqN) (bp : Nat) (w : World) (hx : InQ w x) (hp : Blk w bp 121 #[.func (.func 86) #[] #[]]) :
    Calls Tryz.prog 131 #[x.val, .pointer (some ⟨bp, 0, none⟩)] w (RetB (.bool (!x.ok)) w) := by
  have HX := Lib.hid hx
  have HP := Lib.hid hp
  clear hx hp
  simp only [EqN.val]
  go_enter Tryz.func131, Tryz.ntmps131
  go_upto_region 1 with (fail)
  obtain ⟨w1, hw1⟩ : ∃ z9 : World, z9 = w.alloc (Obj.cells #[.string x.s, .int .i64 x.v.h.kind, .int .i64 x.v.h.n, .int .i64 x.v.h.d, .string x.v.h.name, .int .i64 x.v.h.k, .slice x.v.A x.v.len x.v.cap] 83) := ⟨_, rfl⟩
  have HW1 := Lib.hid (show Below w.heap.size w w1 by rw [hw1]; exact below_box _ _)
  have F1 := Lib.hid (show Blk w1 w.heap.size 83 #[.string x.s, .int .i64 x.v.h.kind, .int .i64 x.v.h.n, .int .i64 x.v.h.d, .string x.v.h.name, .int .i64 x.v.h.k, .slice x.v.A x.v.len x.v.cap] by rw [hw1]; exact Blk.new _ _ _)
  rw [← hw1]
  clear hw1
  have HP1 := Lib.hid (HP.out.belowW HW1.out)
  have KK := Lib.hid (reset_p x w1 (HX.out.belowW HW1.out))
  have pp : w1.cell? ⟨bp, 0, none⟩ = some (.func (.func 86) #[] #[]) := HP1.out.cell 0
  obtain ⟨pr0, pr1, pr2, pr3, pr4, pr5, pr6⟩ := F1.out.cs7
  go_wp2_with fail
  refine KK.out.mono ?_
  rintro e w5 ⟨rfl, HB⟩
  go_wp2_with fail
  go_ret
  exact ⟨rfl, Lib.hid (HW1.out.trans (HB.out.mono HW1.out.size))⟩

set_option maxHeartbeats 4000000 in
set_option maxRecDepth 100000 in
theorem idx_R (A : Option Addr) (len cap bp : Nat) (zs : List EqN) (w : World) (hx : InL 7 EqN.cells InQ w A len cap zs) (hp : Blk w bp 121 #[.func (.func 86) #[] #[]]) :
    Calls Tryz.prog 163 #[.slice A len cap, .func (.func 131) #[] #[.pointer (some ⟨bp, 0, none⟩)]] w fun e w' => ∃ r : Int, e = .returned (.int .i64 r) ∧ Hid (decide (0 ≤ r) = !(zs.all EqN.ok)) ∧ Hid (Below w.heap.size w w') := by
  have HX := Lib.hid hx
  have HP := Lib.hid hp
  have HLN := Lib.hid hx.hl
  have hlm : len ≤ 9223372036854775807 := by
    have h1 := hx.hc
    have h2 := hx.hm
    unfold maxLen at h2
    omega
  clear hx hp
  go_enter Tryz.func163, Tryz.ntmps163
  go_wp2_with fail
  go_loopg [8] len (fun k i wr => ∃ j : Nat, i = .int .i64 j ∧ j ≤ len ∧ k = len - j ∧ Hid ((zs.take j).all EqN.ok = true) ∧ Hid (Below w.heap.size w wr))
  case atStart => exact ⟨0, rfl, by omega, by omega, by unfold Hid; simp, Below.refl _ _⟩
  case round =>
    obtain ⟨j, rfl, hj, rfl, HF, HL⟩ := hrel
    have hls := HL.out.size
    by_cases hlt : j < len
    · obtain ⟨b, o, x, hA, ht, hin, h7⟩ := InQ.len (InQ.list HX.out HL.out) j hlt
      subst hA
      obtain ⟨hbl, x0, x1, x2, x3, x4, x5, x6⟩ := EqN.cells_at h7
      have HTK := Lib.hid (take_snocA zs j x ht)
      have HME := Lib.hid (mem_takeA ht)
      have n1 : decide (j < len) = true := decide_eq_true hlt
      have KK := Lib.hid (ev1_R x bp wr hin (HP.out.belowW HL.out))
      clear ht hin h7
      cases hp : x.ok with
      | true =>
        rw [hp] at KK
        go_wp2_with fail
        refine KK.out.mono ?_
        rintro e w2 ⟨rfl, HB⟩
        have HL2 := Lib.hid (HL.out.trans (HB.out.mono hls))
        go_wp2_with fail
        go_roundg (len - (j + 1))
        case measure => omega
        case rel => exact ⟨j + 1, by go_num, by omega, rfl, Lib.hid (by rw [HTK.out, List.all_append, HF.out]; simp [hp]), HL2⟩
      | false =>
        rw [hp] at KK
        go_wp2_with fail
        refine KK.out.mono ?_
        rintro e w2 ⟨rfl, HB⟩
        have HL2 := Lib.hid (HL.out.trans (HB.out.mono hls))
        go_wp2_with fail
        go_ret
        exact ⟨j, rfl, Lib.hid (by rw [List.all_eq_false.2 ⟨x, HME.out, by rw [hp]; simp⟩]; simp), HL2⟩
    · have hjn : j = len := by omega
      have HF' := Lib.hid (show zs.all EqN.ok = true by have := HF.out; rwa [hjn, ← HLN.out, List.take_length] at this)
      have n1 : decide (j < len) = false := decide_eq_false hlt
      go_wp2_with fail
      go_ret
      exact ⟨-1, rfl, Lib.hid (by rw [HF'.out]; rfl), HL⟩

set_option maxHeartbeats 4000000 in
set_option maxRecDepth 100000 in
theorem has_R (A : Option Addr) (len cap bp : Nat) (zs : List EqN) (w : World) (hx : InL 7 EqN.cells InQ w A len cap zs) (hp : Blk w bp 121 #[.func (.func 86) #[] #[]]) :
    Calls Tryz.prog 130 #[.slice A len cap, .func (.func 131) #[] #[.pointer (some ⟨bp, 0, none⟩)]] w (RetB (.bool (!(zs.all EqN.ok))) w) := by
  have KK := Lib.hid (idx_R A len cap bp zs w hx hp)
  clear hx hp
  go_enter Tryz.func130, Tryz.ntmps130
  go_wp2_with fail
  refine KK.out.mono ?_
  rintro e w2 ⟨r, rfl, HR, HB⟩
  go_wp2_with fail
  go_ret
  exact ⟨ret_bool HR.out, HB⟩

set_option maxHeartbeats 4000000 in
set_option maxRecDepth 100000 in
theorem every_R (A : Option Addr) (len cap : Nat) (zs : List EqN) (w : World) (hx : InL 7 EqN.cells InQ w A len cap zs) :
    Calls Tryz.prog 85 #[.slice A len cap, .func (.func 86) #[] #[]] w (RetB (.bool (zs.all EqN.ok)) w) := by
  have HX := Lib.hid hx
  clear hx
  go_enter Tryz.func85, Tryz.ntmps85
  go_upto_region 1 with (fail)
  obtain ⟨w1, hw1⟩ : ∃ z9 : World, z9 = w.alloc (Obj.cells #[.func (.func 86) #[] #[]] 121) := ⟨_, rfl⟩
  have HW1 := Lib.hid (show Below w.heap.size w w1 by rw [hw1]; exact below_box _ _)
  have F1 := Lib.hid (show Blk w1 w.heap.size 121 #[.func (.func 86) #[] #[]] by rw [hw1]; exact Blk.new _ _ _)
  rw [← hw1]
  clear hw1
  have KK := Lib.hid (has_R A len cap w.heap.size zs w1 (InQ.list HX.out HW1.out) F1.out)
  go_wp2_with fail
  refine KK.out.mono ?_
  rintro e w2 ⟨rfl, HB⟩
  go_wp2_with fail
  go_ret
  exact ⟨ret_bool (by simp), Lib.hid (HW1.out.trans (HB.out.mono HW1.out.size))⟩
end Go.Proofs.YtoogeihbhhcpaaaGreatDoor
