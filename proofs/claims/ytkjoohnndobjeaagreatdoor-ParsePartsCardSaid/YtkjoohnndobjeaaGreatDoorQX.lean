/-
 The walks of the program's tests of declarations, equations, edges, modes, and lists of them.
 The walks of the program's tests of edges, modes, problems.
-/
import Derived.Test.YtkjoohnndobjeaaGreatDoorQV
import Derived.Test.YtkjoohnndobjeaaGreatDoorQH
set_option linter.unusedVariables false
set_option maxHeartbeats 4000000
set_option maxRecDepth 100000
namespace Go.Proofs.YtkjoohnndobjeaaGreatDoor
open Go.RowKit Go.Fl Go.Fl.Nm Go.Fl.Dy Go.Fl.Rt Go.Fl.Fm

theorem decl_p (x : DcN) (w : World) (hx : InD w x) : Calls Tryz.prog 114 #[x.val] w (RetB (.bool x.ok) w) := by
 have g := hI hx.r
 have F : x.s.size ≤ maxLen := hx.hs
 obtain ⟨n, k⟩ : ∃ n, nameP x.s.data.toList = n := ⟨_, rfl⟩
 obtain ⟨u, l⟩ : ∃ n, vB x.a x.b = n := ⟨_, rfl⟩
 obtain ⟨v, m⟩ : ∃ n, vB x.c x.d = n := ⟨_, rfl⟩
 have o := hI (show x.ok = (n && (u && v)) by unfold DcN.ok; rw [k, l, m])
 have G := hI k
 have H := hI l
 have I := hI m
 clear hx k l m
 simp only [DcN.val]
 go_enter Tryz.func114, Tryz.ntmps114
 go_upto_region 1 with (fail)
 obtain ⟨i, j⟩ := eX (w.alloc (Obj.cells #[.string x.s, .int .i64 x.a, .int .i64 x.b, .int .i64 x.c, .int .i64 x.d] 76))
 have p := hI (show Below w.heap.size w i by rw [j]; exact below_box _ _)
 have y := hI (show Blk i w.heap.size 76 #[.string x.s, .int .i64 x.a, .int .i64 x.b, .int .i64 x.c, .int .i64 x.d] by rw [j]; exact Blk.new _ _ _)
 rw [← j]
 clear j
 obtain ⟨z, B, C, D, E⟩ := y.out.cs5
 go_wp2_with fail
 refine (name_any x.s i F).mono ?_
 rw [G.out]
 rintro e w2 ⟨rfl, rfl⟩
 cases n with
 | false =>
  go_wp2_with fail
  go_ret
  exact ⟨ret_bool (by rw [o.out]; rfl), p⟩
 | true =>
  go_wp2_with fail
  refine (valid_q x.a x.b i g.out.a1 g.out.a2 g.out.b1 g.out.b2).mono ?_
  rw [H.out]
  rintro e w3 ⟨rfl, HB⟩
  have q := hI (p.out.trans (HB.out.mono p.out.size))
  have J := hI (y.out.belowW HB.out)
  clear z B C D E
  obtain ⟨z, B, C, D, E⟩ := J.out.cs5
  cases u with
  | false =>
   go_wp2_with fail
   go_ret
   exact ⟨ret_bool (by rw [o.out]; rfl), q⟩
  | true =>
   go_wp2_with fail
   refine (valid_q x.c x.d w3 g.out.c1 g.out.c2 g.out.d1 g.out.d2).mono ?_
   rw [I.out]
   rintro e w4 ⟨rfl, HB4⟩
   go_wp2_with fail
   go_ret
   exact ⟨ret_bool (by rw [o.out]; rfl), hI (q.out.trans (HB4.out.mono q.out.size))⟩

theorem eq_p (x : EqN) (w : World) (hx : InQ w x) : Calls Tryz.prog 149 #[x.val] w (RetB (.bool x.ok) w) := by
 have l := hI hx
 have m : x.s.size ≤ maxLen := hx.hs
 obtain ⟨n, g⟩ : ∃ n, nameP x.s.data.toList = n := ⟨_, rfl⟩
 obtain ⟨u, i⟩ : ∃ n, okE x.T = n := ⟨_, rfl⟩
 have j := hI (show x.ok = (n && u) by unfold EqN.ok; rw [g, i])
 have o := hI g
 have p := hI i
 clear hx g i
 simp only [EqN.val]
 go_enter Tryz.func149, Tryz.ntmps149
 go_upto_region 1 with (fail)
 obtain ⟨a, b⟩ := eX (w.alloc (Obj.cells #[.string x.s, .int .i64 x.v.h.kind, .int .i64 x.v.h.n, .int .i64 x.v.h.d, .string x.v.h.name, .int .i64 x.v.h.k, .slice x.v.A x.v.len x.v.cap] 78))
 have c := hI (show Below w.heap.size w a by rw [b]; exact below_box _ _)
 have q := hI (show Blk a w.heap.size 78 #[.string x.s, .int .i64 x.v.h.kind, .int .i64 x.v.h.n, .int .i64 x.v.h.d, .string x.v.h.name, .int .i64 x.v.h.k, .slice x.v.A x.v.len x.v.cap] by rw [b]; exact Blk.new _ _ _)
 rw [← b]
 clear b
 obtain ⟨r, y, z, B, C, D, E⟩ := q.out.cs7
 go_wp2_with fail
 refine (name_any x.s a m).mono ?_
 rw [o.out]
 rintro e w2 ⟨rfl, rfl⟩
 cases n with
 | false =>
  go_wp2_with fail
  go_ret
  exact ⟨ret_bool (by rw [j.out]; rfl), c⟩
 | true =>
  go_wp2_with fail
  refine (eValid_p x.T x.v a (l.out.e.go c.out)).mono ?_
  rw [p.out]
  rintro e w3 ⟨rfl, HB⟩
  go_wp2_with fail
  go_ret
  exact ⟨ret_bool (by rw [j.out]; rfl), hI (c.out.trans (HB.out.mono c.out.size))⟩

theorem reset_p (x : EqN) (w : World) (hx : InQ w x) : Calls Tryz.prog 153 #[x.val] w (RetB (.bool x.ok) w) := by
 have l := hI hx
 have m : x.s.size ≤ maxLen := hx.hs
 obtain ⟨n, g⟩ : ∃ n, nameP x.s.data.toList = n := ⟨_, rfl⟩
 obtain ⟨u, i⟩ : ∃ n, okE x.T = n := ⟨_, rfl⟩
 have j := hI (show x.ok = (n && u) by unfold EqN.ok; rw [g, i])
 have o := hI g
 have p := hI i
 clear hx g i
 simp only [EqN.val]
 go_enter Tryz.func153, Tryz.ntmps153
 go_upto_region 1 with (fail)
 obtain ⟨a, b⟩ := eX (w.alloc (Obj.cells #[.string x.s, .int .i64 x.v.h.kind, .int .i64 x.v.h.n, .int .i64 x.v.h.d, .string x.v.h.name, .int .i64 x.v.h.k, .slice x.v.A x.v.len x.v.cap] 82))
 have c := hI (show Below w.heap.size w a by rw [b]; exact below_box _ _)
 have q := hI (show Blk a w.heap.size 82 #[.string x.s, .int .i64 x.v.h.kind, .int .i64 x.v.h.n, .int .i64 x.v.h.d, .string x.v.h.name, .int .i64 x.v.h.k, .slice x.v.A x.v.len x.v.cap] by rw [b]; exact Blk.new _ _ _)
 rw [← b]
 clear b
 obtain ⟨r, y, z, B, C, D, E⟩ := q.out.cs7
 go_wp2_with fail
 refine (name_any x.s a m).mono ?_
 rw [o.out]
 rintro e w2 ⟨rfl, rfl⟩
 cases n with
 | false =>
  go_wp2_with fail
  go_ret
  exact ⟨ret_bool (by rw [j.out]; rfl), c⟩
 | true =>
  go_wp2_with fail
  refine (eValid_p x.T x.v a (l.out.e.go c.out)).mono ?_
  rw [p.out]
  rintro e w3 ⟨rfl, HB⟩
  go_wp2_with fail
  go_ret
  exact ⟨ret_bool (by rw [j.out]; rfl), hI (c.out.trans (HB.out.mono c.out.size))⟩

theorem ev1_D (x : DcN) (bp : Nat) (w : World) (hx : InD w x) (hp : Blk w bp 158 #[.func (.func 114) #[] #[]]) :
  Calls Tryz.prog 145 #[x.val, .pointer (some ⟨bp, 0, none⟩)] w (RetB (.bool (!x.ok)) w) := by
 have HX := hI hx
 have HP := hI hp
 clear hx hp
 simp only [DcN.val]
 go_enter Tryz.func145, Tryz.ntmps145
 go_upto_region 1 with (fail)
 obtain ⟨w1, hw1⟩ := eX (w.alloc (Obj.cells #[.string x.s, .int .i64 x.a, .int .i64 x.b, .int .i64 x.c, .int .i64 x.d] 76))
 have HW1 := hI (show Below w.heap.size w w1 by rw [hw1]; exact below_box _ _)
 have F1 := hI (show Blk w1 w.heap.size 76 #[.string x.s, .int .i64 x.a, .int .i64 x.b, .int .i64 x.c, .int .i64 x.d] by rw [hw1]; exact Blk.new _ _ _)
 rw [← hw1]
 clear hw1
 have HP1 := hI (HP.out.belowW HW1.out)
 have KK := hI (decl_p x w1 (HX.out.belowW HW1.out))
 have pp : w1.cell? ⟨bp, 0, none⟩ = some (.func (.func 114) #[] #[]) := HP1.out.cell 0
 obtain ⟨pr0, pr1, pr2, pr3, pr4⟩ := F1.out.cs5
 go_wp2_with fail
 refine KK.out.mono ?_
 rintro e w5 ⟨rfl, HB⟩
 go_wp2_with fail
 go_ret
 exact ⟨rfl, hI (HW1.out.trans (HB.out.mono HW1.out.size))⟩

theorem idx_D (A : Option Addr) (len cap bp : Nat) (zs : List DcN) (w : World) (hx : InL 5 DcN.cells InD w A len cap zs) (hp : Blk w bp 158 #[.func (.func 114) #[] #[]]) :
  Calls Tryz.prog 168 #[.slice A len cap, .func (.func 145) #[] #[.pointer (some ⟨bp, 0, none⟩)]] w fun e w' => ∃ r : Int, e = .returned (.int .i64 r) ∧ Hid (decide (0 ≤ r) = !(zs.all DcN.ok)) ∧ Hid (Below w.heap.size w w') := by
 have q := hI hx
 have s := hI hp
 have u := hI hx.hl
 have F : len ≤ 9223372036854775807 := by
  have G := hx.hc
  have v := hx.hm
  unfold maxLen at v
  omega
 clear hx hp
 go_enter Tryz.func168, Tryz.ntmps168
 go_wp2_with fail
 go_loopg [8] len (fun k i wr => ∃ j : Nat, i = .int .i64 j ∧ j ≤ len ∧ k = len - j ∧ Hid ((zs.take j).all DcN.ok = true) ∧ Hid (Below w.heap.size w wr))
 case atStart => exact ⟨0, rfl, by omega, by omega, by unfold Hid; simp, Below.refl _ _⟩
 case round =>
  obtain ⟨j, rfl, H, rfl, l, a⟩ := hrel
  have m := a.out.size
  by_cases hlt : j < len
  ·
   obtain ⟨b, o, x, y, d, n, p⟩ := InD.len (InD.list q.out a.out) j hlt
   subst y
   obtain ⟨I, J, L, M, N, O⟩ := DcN.cells_at p
   have z := hI (take_snocA zs j x d)
   have B := hI (mem_takeA d)
   have C : decide (j < len) = true := decide_eq_true hlt
   have c := hI (ev1_D x bp wr n (s.out.belowW a.out))
   clear d n p
   cases hp : x.ok with
   | true =>
    rw [hp] at c
    go_wp2_with fail
    refine c.out.mono ?_
    rintro e w2 ⟨rfl, HB⟩
    have g := hI (a.out.trans (HB.out.mono m))
    go_wp2_with fail
    go_roundg (len - (j + 1))
    case measure => omega
    case rel => exact ⟨j + 1, by go_num, by omega, rfl, hI (by rw [z.out, List.all_append, l.out]; simp [hp]), g⟩
   | false =>
    rw [hp] at c
    go_wp2_with fail
    refine c.out.mono ?_
    rintro e w2 ⟨rfl, HB⟩
    have g := hI (a.out.trans (HB.out.mono m))
    go_wp2_with fail
    go_ret
    exact ⟨j, rfl, hI (by rw [List.all_eq_false.2 ⟨x, B.out, by rw [hp]; simp⟩]; simp), g⟩
  ·
   have D : j = len := by omega
   have E := hI (show zs.all DcN.ok = true by have := l.out; rwa [D, ← u.out, List.take_length] at this)
   have C : decide (j < len) = false := decide_eq_false hlt
   go_wp2_with fail
   go_ret
   exact ⟨-1, rfl, hI (by rw [E.out]; rfl), a⟩

theorem has_D (A : Option Addr) (len cap bp : Nat) (zs : List DcN) (w : World) (hx : InL 5 DcN.cells InD w A len cap zs) (hp : Blk w bp 158 #[.func (.func 114) #[] #[]]) :
  Calls Tryz.prog 144 #[.slice A len cap, .func (.func 145) #[] #[.pointer (some ⟨bp, 0, none⟩)]] w (RetB (.bool (!(zs.all DcN.ok))) w) := by
 have KK := hI (idx_D A len cap bp zs w hx hp)
 clear hx hp
 go_enter Tryz.func144, Tryz.ntmps144
 go_wp2_with fail
 refine KK.out.mono ?_
 rintro e w2 ⟨r, rfl, HR, HB⟩
 go_wp2_with fail
 go_ret
 exact ⟨ret_bool HR.out, HB⟩

theorem every_D (A : Option Addr) (len cap : Nat) (zs : List DcN) (w : World) (hx : InL 5 DcN.cells InD w A len cap zs) :
  Calls Tryz.prog 113 #[.slice A len cap, .func (.func 114) #[] #[]] w (RetB (.bool (zs.all DcN.ok)) w) := by
 have HX := hI hx
 clear hx
 go_enter Tryz.func113, Tryz.ntmps113
 go_upto_region 1 with (fail)
 obtain ⟨w1, hw1⟩ := eX (w.alloc (Obj.cells #[.func (.func 114) #[] #[]] 158))
 have HW1 := hI (show Below w.heap.size w w1 by rw [hw1]; exact below_box _ _)
 have F1 := hI (show Blk w1 w.heap.size 158 #[.func (.func 114) #[] #[]] by rw [hw1]; exact Blk.new _ _ _)
 rw [← hw1]
 clear hw1
 have KK := hI (has_D A len cap w.heap.size zs w1 (InD.list HX.out HW1.out) F1.out)
 go_wp2_with fail
 refine KK.out.mono ?_
 rintro e w2 ⟨rfl, HB⟩
 go_wp2_with fail
 go_ret
 exact ⟨ret_bool (by simp), hI (HW1.out.trans (HB.out.mono HW1.out.size))⟩

theorem ev1_Q (x : EqN) (bp : Nat) (w : World) (hx : InQ w x) (hp : Blk w bp 178 #[.func (.func 149) #[] #[]]) :
  Calls Tryz.prog 171 #[x.val, .pointer (some ⟨bp, 0, none⟩)] w (RetB (.bool (!x.ok)) w) := by
 have g := hI hx
 have i := hI hp
 clear hx hp
 simp only [EqN.val]
 go_enter Tryz.func171, Tryz.ntmps171
 go_upto_region 1 with (fail)
 obtain ⟨a, b⟩ := eX (w.alloc (Obj.cells #[.string x.s, .int .i64 x.v.h.kind, .int .i64 x.v.h.n, .int .i64 x.v.h.d, .string x.v.h.name, .int .i64 x.v.h.k, .slice x.v.A x.v.len x.v.cap] 78))
 have c := hI (show Below w.heap.size w a by rw [b]; exact below_box _ _)
 have j := hI (show Blk a w.heap.size 78 #[.string x.s, .int .i64 x.v.h.kind, .int .i64 x.v.h.n, .int .i64 x.v.h.d, .string x.v.h.name, .int .i64 x.v.h.k, .slice x.v.A x.v.len x.v.cap] by rw [b]; exact Blk.new _ _ _)
 rw [← b]
 clear b
 have l := hI (i.out.belowW c.out)
 have m := hI (eq_p x a (g.out.belowW c.out))
 have o : a.cell? ⟨bp, 0, none⟩ = some (.func (.func 149) #[] #[]) := l.out.cell 0
 obtain ⟨p, q, r, u, y, z, B⟩ := j.out.cs7
 go_wp2_with fail
 refine m.out.mono ?_
 rintro e w5 ⟨rfl, HB⟩
 go_wp2_with fail
 go_ret
 exact ⟨rfl, hI (c.out.trans (HB.out.mono c.out.size))⟩

theorem idx_Q (A : Option Addr) (len cap bp : Nat) (zs : List EqN) (w : World) (hx : InL 7 EqN.cells InQ w A len cap zs) (hp : Blk w bp 178 #[.func (.func 149) #[] #[]]) :
  Calls Tryz.prog 184 #[.slice A len cap, .func (.func 171) #[] #[.pointer (some ⟨bp, 0, none⟩)]] w fun e w' => ∃ r : Int, e = .returned (.int .i64 r) ∧ Hid (decide (0 ≤ r) = !(zs.all EqN.ok)) ∧ Hid (Below w.heap.size w w') := by
 have q := hI hx
 have s := hI hp
 have u := hI hx.hl
 have F : len ≤ 9223372036854775807 := by
  have G := hx.hc
  have v := hx.hm
  unfold maxLen at v
  omega
 clear hx hp
 go_enter Tryz.func184, Tryz.ntmps184
 go_wp2_with fail
 go_loopg [8] len (fun k i wr => ∃ j : Nat, i = .int .i64 j ∧ j ≤ len ∧ k = len - j ∧ Hid ((zs.take j).all EqN.ok = true) ∧ Hid (Below w.heap.size w wr))
 case atStart => exact ⟨0, rfl, by omega, by omega, by unfold Hid; simp, Below.refl _ _⟩
 case round =>
  obtain ⟨j, rfl, H, rfl, l, a⟩ := hrel
  have m := a.out.size
  by_cases hlt : j < len
  ·
   obtain ⟨b, o, x, y, d, n, p⟩ := InQ.len (InQ.list q.out a.out) j hlt
   subst y
   obtain ⟨I, J, L, M, N, O, P, Q⟩ := EqN.cells_at p
   have z := hI (take_snocA zs j x d)
   have B := hI (mem_takeA d)
   have C : decide (j < len) = true := decide_eq_true hlt
   have c := hI (ev1_Q x bp wr n (s.out.belowW a.out))
   clear d n p
   cases hp : x.ok with
   | true =>
    rw [hp] at c
    go_wp2_with fail
    refine c.out.mono ?_
    rintro e w2 ⟨rfl, HB⟩
    have g := hI (a.out.trans (HB.out.mono m))
    go_wp2_with fail
    go_roundg (len - (j + 1))
    case measure => omega
    case rel => exact ⟨j + 1, by go_num, by omega, rfl, hI (by rw [z.out, List.all_append, l.out]; simp [hp]), g⟩
   | false =>
    rw [hp] at c
    go_wp2_with fail
    refine c.out.mono ?_
    rintro e w2 ⟨rfl, HB⟩
    have g := hI (a.out.trans (HB.out.mono m))
    go_wp2_with fail
    go_ret
    exact ⟨j, rfl, hI (by rw [List.all_eq_false.2 ⟨x, B.out, by rw [hp]; simp⟩]; simp), g⟩
  ·
   have D : j = len := by omega
   have E := hI (show zs.all EqN.ok = true by have := l.out; rwa [D, ← u.out, List.take_length] at this)
   have C : decide (j < len) = false := decide_eq_false hlt
   go_wp2_with fail
   go_ret
   exact ⟨-1, rfl, hI (by rw [E.out]; rfl), a⟩

theorem has_Q (A : Option Addr) (len cap bp : Nat) (zs : List EqN) (w : World) (hx : InL 7 EqN.cells InQ w A len cap zs) (hp : Blk w bp 178 #[.func (.func 149) #[] #[]]) :
  Calls Tryz.prog 170 #[.slice A len cap, .func (.func 171) #[] #[.pointer (some ⟨bp, 0, none⟩)]] w (RetB (.bool (!(zs.all EqN.ok))) w) := by
 have KK := hI (idx_Q A len cap bp zs w hx hp)
 clear hx hp
 go_enter Tryz.func170, Tryz.ntmps170
 go_wp2_with fail
 refine KK.out.mono ?_
 rintro e w2 ⟨r, rfl, HR, HB⟩
 go_wp2_with fail
 go_ret
 exact ⟨ret_bool HR.out, HB⟩

theorem every_Q (A : Option Addr) (len cap : Nat) (zs : List EqN) (w : World) (hx : InL 7 EqN.cells InQ w A len cap zs) :
  Calls Tryz.prog 148 #[.slice A len cap, .func (.func 149) #[] #[]] w (RetB (.bool (zs.all EqN.ok)) w) := by
 have HX := hI hx
 clear hx
 go_enter Tryz.func148, Tryz.ntmps148
 go_upto_region 1 with (fail)
 obtain ⟨w1, hw1⟩ := eX (w.alloc (Obj.cells #[.func (.func 149) #[] #[]] 178))
 have HW1 := hI (show Below w.heap.size w w1 by rw [hw1]; exact below_box _ _)
 have F1 := hI (show Blk w1 w.heap.size 178 #[.func (.func 149) #[] #[]] by rw [hw1]; exact Blk.new _ _ _)
 rw [← hw1]
 clear hw1
 have KK := hI (has_Q A len cap w.heap.size zs w1 (InQ.list HX.out HW1.out) F1.out)
 go_wp2_with fail
 refine KK.out.mono ?_
 rintro e w2 ⟨rfl, HB⟩
 go_wp2_with fail
 go_ret
 exact ⟨ret_bool (by simp), hI (HW1.out.trans (HB.out.mono HW1.out.size))⟩

theorem ev1_R (x : EqN) (bp : Nat) (w : World) (hx : InQ w x) (hp : Blk w bp 181 #[.func (.func 153) #[] #[]]) :
  Calls Tryz.prog 175 #[x.val, .pointer (some ⟨bp, 0, none⟩)] w (RetB (.bool (!x.ok)) w) := by
 have HX := hI hx
 have HP := hI hp
 clear hx hp
 simp only [EqN.val]
 go_enter Tryz.func175, Tryz.ntmps175
 go_upto_region 1 with (fail)
 obtain ⟨w1, hw1⟩ := eX (w.alloc (Obj.cells #[.string x.s, .int .i64 x.v.h.kind, .int .i64 x.v.h.n, .int .i64 x.v.h.d, .string x.v.h.name, .int .i64 x.v.h.k, .slice x.v.A x.v.len x.v.cap] 82))
 have HW1 := hI (show Below w.heap.size w w1 by rw [hw1]; exact below_box _ _)
 have F1 := hI (show Blk w1 w.heap.size 82 #[.string x.s, .int .i64 x.v.h.kind, .int .i64 x.v.h.n, .int .i64 x.v.h.d, .string x.v.h.name, .int .i64 x.v.h.k, .slice x.v.A x.v.len x.v.cap] by rw [hw1]; exact Blk.new _ _ _)
 rw [← hw1]
 clear hw1
 have HP1 := hI (HP.out.belowW HW1.out)
 have KK := hI (reset_p x w1 (HX.out.belowW HW1.out))
 have pp : w1.cell? ⟨bp, 0, none⟩ = some (.func (.func 153) #[] #[]) := HP1.out.cell 0
 obtain ⟨pr0, pr1, pr2, pr3, pr4, pr5, pr6⟩ := F1.out.cs7
 go_wp2_with fail
 refine KK.out.mono ?_
 rintro e w5 ⟨rfl, HB⟩
 go_wp2_with fail
 go_ret
 exact ⟨rfl, hI (HW1.out.trans (HB.out.mono HW1.out.size))⟩

theorem idx_R (A : Option Addr) (len cap bp : Nat) (zs : List EqN) (w : World) (hx : InL 7 EqN.cells InQ w A len cap zs) (hp : Blk w bp 181 #[.func (.func 153) #[] #[]]) :
  Calls Tryz.prog 186 #[.slice A len cap, .func (.func 175) #[] #[.pointer (some ⟨bp, 0, none⟩)]] w fun e w' => ∃ r : Int, e = .returned (.int .i64 r) ∧ Hid (decide (0 ≤ r) = !(zs.all EqN.ok)) ∧ Hid (Below w.heap.size w w') := by
 have q := hI hx
 have s := hI hp
 have u := hI hx.hl
 have F : len ≤ 9223372036854775807 := by
  have G := hx.hc
  have v := hx.hm
  unfold maxLen at v
  omega
 clear hx hp
 go_enter Tryz.func186, Tryz.ntmps186
 go_wp2_with fail
 go_loopg [8] len (fun k i wr => ∃ j : Nat, i = .int .i64 j ∧ j ≤ len ∧ k = len - j ∧ Hid ((zs.take j).all EqN.ok = true) ∧ Hid (Below w.heap.size w wr))
 case atStart => exact ⟨0, rfl, by omega, by omega, by unfold Hid; simp, Below.refl _ _⟩
 case round =>
  obtain ⟨j, rfl, H, rfl, l, a⟩ := hrel
  have m := a.out.size
  by_cases hlt : j < len
  ·
   obtain ⟨b, o, x, y, d, n, p⟩ := InQ.len (InQ.list q.out a.out) j hlt
   subst y
   obtain ⟨I, J, L, M, N, O, P, Q⟩ := EqN.cells_at p
   have z := hI (take_snocA zs j x d)
   have B := hI (mem_takeA d)
   have C : decide (j < len) = true := decide_eq_true hlt
   have c := hI (ev1_R x bp wr n (s.out.belowW a.out))
   clear d n p
   cases hp : x.ok with
   | true =>
    rw [hp] at c
    go_wp2_with fail
    refine c.out.mono ?_
    rintro e w2 ⟨rfl, HB⟩
    have g := hI (a.out.trans (HB.out.mono m))
    go_wp2_with fail
    go_roundg (len - (j + 1))
    case measure => omega
    case rel => exact ⟨j + 1, by go_num, by omega, rfl, hI (by rw [z.out, List.all_append, l.out]; simp [hp]), g⟩
   | false =>
    rw [hp] at c
    go_wp2_with fail
    refine c.out.mono ?_
    rintro e w2 ⟨rfl, HB⟩
    have g := hI (a.out.trans (HB.out.mono m))
    go_wp2_with fail
    go_ret
    exact ⟨j, rfl, hI (by rw [List.all_eq_false.2 ⟨x, B.out, by rw [hp]; simp⟩]; simp), g⟩
  ·
   have D : j = len := by omega
   have E := hI (show zs.all EqN.ok = true by have := l.out; rwa [D, ← u.out, List.take_length] at this)
   have C : decide (j < len) = false := decide_eq_false hlt
   go_wp2_with fail
   go_ret
   exact ⟨-1, rfl, hI (by rw [E.out]; rfl), a⟩

theorem has_R (A : Option Addr) (len cap bp : Nat) (zs : List EqN) (w : World) (hx : InL 7 EqN.cells InQ w A len cap zs) (hp : Blk w bp 181 #[.func (.func 153) #[] #[]]) :
  Calls Tryz.prog 174 #[.slice A len cap, .func (.func 175) #[] #[.pointer (some ⟨bp, 0, none⟩)]] w (RetB (.bool (!(zs.all EqN.ok))) w) := by
 have KK := hI (idx_R A len cap bp zs w hx hp)
 clear hx hp
 go_enter Tryz.func174, Tryz.ntmps174
 go_wp2_with fail
 refine KK.out.mono ?_
 rintro e w2 ⟨r, rfl, HR, HB⟩
 go_wp2_with fail
 go_ret
 exact ⟨ret_bool HR.out, HB⟩

theorem every_R (A : Option Addr) (len cap : Nat) (zs : List EqN) (w : World) (hx : InL 7 EqN.cells InQ w A len cap zs) :
  Calls Tryz.prog 152 #[.slice A len cap, .func (.func 153) #[] #[]] w (RetB (.bool (zs.all EqN.ok)) w) := by
 have HX := hI hx
 clear hx
 go_enter Tryz.func152, Tryz.ntmps152
 go_upto_region 1 with (fail)
 obtain ⟨w1, hw1⟩ := eX (w.alloc (Obj.cells #[.func (.func 153) #[] #[]] 181))
 have HW1 := hI (show Below w.heap.size w w1 by rw [hw1]; exact below_box _ _)
 have F1 := hI (show Blk w1 w.heap.size 181 #[.func (.func 153) #[] #[]] by rw [hw1]; exact Blk.new _ _ _)
 rw [← hw1]
 clear hw1
 have KK := hI (has_R A len cap w.heap.size zs w1 (InQ.list HX.out HW1.out) F1.out)
 go_wp2_with fail
 refine KK.out.mono ?_
 rintro e w2 ⟨rfl, HB⟩
 go_wp2_with fail
 go_ret
 exact ⟨ret_bool (by simp), hI (HW1.out.trans (HB.out.mono HW1.out.size))⟩
end Go.Proofs.YtkjoohnndobjeaaGreatDoor
namespace Go.Proofs.YtkjoohnndobjeaaGreatDoor
open Go.RowKit Go.Fl Go.Fl.Nm Go.Fl.Dy Go.Fl.Rt Go.Fl.Fm

theorem edge_p (x : EdN) (w : World) (hx : InG w x) : Calls Tryz.prog 151 #[x.val] w (RetB (.bool x.ok) w) := by
 have i := hI hx
 have z : x.tn.size ≤ maxLen := hx.hs
 have U := hx.d1
 have V := hx.d2
 obtain ⟨u, j⟩ : ∃ n, okE x.T = n := ⟨_, rfl⟩
 obtain ⟨n, m⟩ : ∃ n, nameP x.tn.data.toList = n := ⟨_, rfl⟩
 obtain ⟨l, P⟩ : ∃ n, decide ((x.len : Int) ≤ 4) = n := ⟨_, rfl⟩
 obtain ⟨a, o⟩ : ∃ n, x.rs.all EqN.ok = n := ⟨_, rfl⟩
 have c := hI (show x.ok = (u && (((x.dir == 1) || (x.dir == 2)) && (n && (l && a)))) by unfold EdN.ok EdN.dirB; rw [j, m, P, o])
 have Q := hI j
 have B := hI m
 have C := hI o
 clear hx m j o
 simp only [EdN.val]
 go_enter Tryz.func151, Tryz.ntmps151
 go_upto_region 1 with (fail)
 obtain ⟨r, g⟩ := eX (w.alloc (Obj.cells #[.int .i64 x.v.h.kind, .int .i64 x.v.h.n, .int .i64 x.v.h.d, .string x.v.h.name, .int .i64 x.v.h.k, .slice x.v.A x.v.len x.v.cap, .int .i64 x.dir, .string x.tn, .slice x.A x.len x.cap] 81))
 have s := hI (show Below w.heap.size w r by rw [g]; exact below_box _ _)
 have D := hI (show Blk r w.heap.size 81 #[.int .i64 x.v.h.kind, .int .i64 x.v.h.n, .int .i64 x.v.h.d, .string x.v.h.name, .int .i64 x.v.h.k, .slice x.v.A x.v.len x.v.cap, .int .i64 x.dir, .string x.tn, .slice x.A x.len x.cap] by rw [g]; exact Blk.new _ _ _)
 rw [← g]
 clear g
 obtain ⟨E, F, G, H, I, J, L, M, N⟩ := D.out.cs9
 go_wp2_with fail
 refine (eValid_p x.T x.v r (i.out.e.go s.out)).mono ?_
 rw [Q.out]
 rintro e w2 ⟨rfl, HB2⟩
 have b := hI (s.out.trans (HB2.out.mono s.out.size))
 have R := hI (D.out.belowW HB2.out)
 clear E F G H I J L M N
 obtain ⟨E, F, G, H, I, J, L, M, N⟩ := R.out.cs9
 cases u with
 | false =>
  go_wp2_with fail
  go_ret
  exact ⟨ret_bool (by rw [c.out]; rfl), b⟩
 | true =>
  obtain ⟨p, O⟩ : ∃ n, (x.dir == 1) = n := ⟨_, rfl⟩
  obtain ⟨q, S⟩ : ∃ n, (x.dir == 2) = n := ⟨_, rfl⟩
  rw [O, S] at c
  have W : x.dir ≠ 1 ∨ p = true := by
   cases p with
   | true => exact .inr rfl
   | false => exact .inl (by simpa using O)
  by_cases hpq : (p || q) = true
  case neg =>
   have y := hI (show (p || q) = false by simpa using hpq)
   obtain ⟨rfl, rfl⟩ : p = false ∧ q = false := by simpa using y.out
   go_wp2_with fail
   go_ret
   exact ⟨ret_bool (by rw [c.out]; rfl), b⟩
  have y := hI hpq
  cases p with
  | true =>
   go_wp2_with fail
   refine (name_any x.tn w2 z).mono ?_
   rw [B.out]
   rintro e w3 ⟨rfl, rfl⟩
   cases n with
   | false =>
    go_wp2_with fail
    go_ret
    exact ⟨ret_bool (by rw [c.out]; rfl), b⟩
   | true =>
    cases l with
    | false =>
     go_wp2_with fail
     go_ret
     exact ⟨ret_bool (by rw [c.out]; rfl), b⟩
    | true =>
     go_wp2_with fail
     refine (every_R x.A x.len x.cap x.rs w2 (InQ.list i.out.hr b.out)).mono ?_
     rw [C.out]
     rintro e w4 ⟨rfl, HB4⟩
     go_wp2_with fail
     go_ret
     exact ⟨ret_bool (by rw [c.out]; rfl), hI (b.out.trans (HB4.out.mono b.out.size))⟩
  | false =>
   obtain rfl : q = true := by simpa using y.out
   go_wp2_with fail
   refine (name_any x.tn w2 z).mono ?_
   rw [B.out]
   rintro e w3 ⟨rfl, rfl⟩
   cases n with
   | false =>
    go_wp2_with fail
    go_ret
    exact ⟨ret_bool (by rw [c.out]; rfl), b⟩
   | true =>
    cases l with
    | false =>
     go_wp2_with fail
     go_ret
     exact ⟨ret_bool (by rw [c.out]; rfl), b⟩
    | true =>
     go_wp2_with fail
     refine (every_R x.A x.len x.cap x.rs w2 (InQ.list i.out.hr b.out)).mono ?_
     rw [C.out]
     rintro e w4 ⟨rfl, HB4⟩
     go_wp2_with fail
     go_ret
     exact ⟨ret_bool (by rw [c.out]; rfl), hI (b.out.trans (HB4.out.mono b.out.size))⟩


theorem ev1_G (x : EdN) (bp : Nat) (w : World) (hx : InG w x) (hp : Blk w bp 182 #[.func (.func 151) #[] #[]]) :
  Calls Tryz.prog 173 #[x.val, .pointer (some ⟨bp, 0, none⟩)] w (RetB (.bool (!x.ok)) w) := by
 have g := hI hx
 have i := hI hp
 clear hx hp
 simp only [EdN.val]
 go_enter Tryz.func173, Tryz.ntmps173
 go_upto_region 1 with (fail)
 obtain ⟨a, b⟩ := eX (w.alloc (Obj.cells #[.int .i64 x.v.h.kind, .int .i64 x.v.h.n, .int .i64 x.v.h.d, .string x.v.h.name, .int .i64 x.v.h.k, .slice x.v.A x.v.len x.v.cap, .int .i64 x.dir, .string x.tn, .slice x.A x.len x.cap] 81))
 have c := hI (show Below w.heap.size w a by rw [b]; exact below_box _ _)
 have j := hI (show Blk a w.heap.size 81 #[.int .i64 x.v.h.kind, .int .i64 x.v.h.n, .int .i64 x.v.h.d, .string x.v.h.name, .int .i64 x.v.h.k, .slice x.v.A x.v.len x.v.cap, .int .i64 x.dir, .string x.tn, .slice x.A x.len x.cap] by rw [b]; exact Blk.new _ _ _)
 rw [← b]
 clear b
 have l := hI (i.out.belowW c.out)
 have m := hI (edge_p x a (g.out.belowW c.out))
 have o : a.cell? ⟨bp, 0, none⟩ = some (.func (.func 151) #[] #[]) := l.out.cell 0
 obtain ⟨p, q, r, s, u, y, z, B, C⟩ := j.out.cs9
 go_wp2_with fail
 refine m.out.mono ?_
 rintro e w5 ⟨rfl, HB⟩
 go_wp2_with fail
 go_ret
 exact ⟨rfl, hI (c.out.trans (HB.out.mono c.out.size))⟩

theorem idx_G (A : Option Addr) (len cap bp : Nat) (zs : List EdN) (w : World) (hx : InL 9 EdN.cells InG w A len cap zs) (hp : Blk w bp 182 #[.func (.func 151) #[] #[]]) :
  Calls Tryz.prog 185 #[.slice A len cap, .func (.func 173) #[] #[.pointer (some ⟨bp, 0, none⟩)]] w fun e w' => ∃ r : Int, e = .returned (.int .i64 r) ∧ Hid (decide (0 ≤ r) = !(zs.all EdN.ok)) ∧ Hid (Below w.heap.size w w') := by
 have q := hI hx
 have s := hI hp
 have u := hI hx.hl
 have F : len ≤ 9223372036854775807 := by
  have G := hx.hc
  have v := hx.hm
  unfold maxLen at v
  omega
 clear hx hp
 go_enter Tryz.func185, Tryz.ntmps185
 go_wp2_with fail
 go_loopg [8] len (fun k i wr => ∃ j : Nat, i = .int .i64 j ∧ j ≤ len ∧ k = len - j ∧ Hid ((zs.take j).all EdN.ok = true) ∧ Hid (Below w.heap.size w wr))
 case atStart => exact ⟨0, rfl, by omega, by omega, by unfold Hid; simp, Below.refl _ _⟩
 case round =>
  obtain ⟨j, rfl, H, rfl, l, a⟩ := hrel
  have m := a.out.size
  by_cases hlt : j < len
  ·
   obtain ⟨b, o, x, y, d, n, p⟩ := InG.len (InG.list q.out a.out) j hlt
   subst y
   obtain ⟨I, J, L, M, N, O, P, Q, R, S⟩ := EdN.cells_at p
   have z := hI (take_snocA zs j x d)
   have B := hI (mem_takeA d)
   have C : decide (j < len) = true := decide_eq_true hlt
   have c := hI (ev1_G x bp wr n (s.out.belowW a.out))
   clear d n p
   cases hp : x.ok with
   | true =>
    rw [hp] at c
    go_wp2_with fail
    refine c.out.mono ?_
    rintro e w2 ⟨rfl, HB⟩
    have g := hI (a.out.trans (HB.out.mono m))
    go_wp2_with fail
    go_roundg (len - (j + 1))
    case measure => omega
    case rel => exact ⟨j + 1, by go_num, by omega, rfl, hI (by rw [z.out, List.all_append, l.out]; simp [hp]), g⟩
   | false =>
    rw [hp] at c
    go_wp2_with fail
    refine c.out.mono ?_
    rintro e w2 ⟨rfl, HB⟩
    have g := hI (a.out.trans (HB.out.mono m))
    go_wp2_with fail
    go_ret
    exact ⟨j, rfl, hI (by rw [List.all_eq_false.2 ⟨x, B.out, by rw [hp]; simp⟩]; simp), g⟩
  ·
   have D : j = len := by omega
   have E := hI (show zs.all EdN.ok = true by have := l.out; rwa [D, ← u.out, List.take_length] at this)
   have C : decide (j < len) = false := decide_eq_false hlt
   go_wp2_with fail
   go_ret
   exact ⟨-1, rfl, hI (by rw [E.out]; rfl), a⟩

theorem has_G (A : Option Addr) (len cap bp : Nat) (zs : List EdN) (w : World) (hx : InL 9 EdN.cells InG w A len cap zs) (hp : Blk w bp 182 #[.func (.func 151) #[] #[]]) :
  Calls Tryz.prog 172 #[.slice A len cap, .func (.func 173) #[] #[.pointer (some ⟨bp, 0, none⟩)]] w (RetB (.bool (!(zs.all EdN.ok))) w) := by
 have KK := hI (idx_G A len cap bp zs w hx hp)
 clear hx hp
 go_enter Tryz.func172, Tryz.ntmps172
 go_wp2_with fail
 refine KK.out.mono ?_
 rintro e w2 ⟨r, rfl, HR, HB⟩
 go_wp2_with fail
 go_ret
 exact ⟨ret_bool HR.out, HB⟩

theorem every_G (A : Option Addr) (len cap : Nat) (zs : List EdN) (w : World) (hx : InL 9 EdN.cells InG w A len cap zs) :
  Calls Tryz.prog 150 #[.slice A len cap, .func (.func 151) #[] #[]] w (RetB (.bool (zs.all EdN.ok)) w) := by
 have HX := hI hx
 clear hx
 go_enter Tryz.func150, Tryz.ntmps150
 go_upto_region 1 with (fail)
 obtain ⟨w1, hw1⟩ := eX (w.alloc (Obj.cells #[.func (.func 151) #[] #[]] 182))
 have HW1 := hI (show Below w.heap.size w w1 by rw [hw1]; exact below_box _ _)
 have F1 := hI (show Blk w1 w.heap.size 182 #[.func (.func 151) #[] #[]] by rw [hw1]; exact Blk.new _ _ _)
 rw [← hw1]
 clear hw1
 have KK := hI (has_G A len cap w.heap.size zs w1 (InG.list HX.out HW1.out) F1.out)
 go_wp2_with fail
 refine KK.out.mono ?_
 rintro e w2 ⟨rfl, HB⟩
 go_wp2_with fail
 go_ret
 exact ⟨ret_bool (by simp), hI (HW1.out.trans (HB.out.mono HW1.out.size))⟩

theorem mode_p (x : MdN) (w : World) (hx : InM w x) : Calls Tryz.prog 116 #[x.val] w (RetB (.bool x.ok) w) := by
 have z := hI hx
 have F : x.s.size ≤ maxLen := hx.hs
 obtain ⟨n, p⟩ : ∃ n, nameP x.s.data.toList = n := ⟨_, rfl⟩
 obtain ⟨u, G⟩ : ∃ n, decide ((x.n : Int) ≤ 4) = n := ⟨_, rfl⟩
 obtain ⟨v, H⟩ : ∃ n, decide ((x.m : Int) ≤ 4) = n := ⟨_, rfl⟩
 obtain ⟨a, q⟩ : ∃ n, x.fl.all EqN.ok = n := ⟨_, rfl⟩
 obtain ⟨b, r⟩ : ∃ n, x.ed.all EdN.ok = n := ⟨_, rfl⟩
 have j := hI (show x.ok = (n && (u && (v && (a && b)))) by unfold MdN.ok; rw [p, G, H, q, r])
 have I := hI p
 have J := hI q
 have L := hI r
 clear hx p q r
 simp only [MdN.val]
 go_enter Tryz.func116, Tryz.ntmps116
 go_upto_region 1 with (fail)
 obtain ⟨g, k⟩ := eX (w.alloc (Obj.cells #[.string x.s, .slice x.A x.n x.c, .slice x.B x.m x.d] 74))
 have i := hI (show Below w.heap.size w g by rw [k]; exact below_box _ _)
 have l := hI (show Blk g w.heap.size 74 #[.string x.s, .slice x.A x.n x.c, .slice x.B x.m x.d] by rw [k]; exact Blk.new _ _ _)
 rw [← k]
 clear k
 have C : g.cell? ⟨w.heap.size, 0, none⟩ = some (.string x.s) := l.out.cell 0
 have D : g.cell? ⟨w.heap.size, 1, none⟩ = some (.slice x.A x.n x.c) := l.out.cell 1
 have E : g.cell? ⟨w.heap.size, 2, none⟩ = some (.slice x.B x.m x.d) := l.out.cell 2
 go_wp2_with fail
 refine (name_any x.s g F).mono ?_
 rw [I.out]
 rintro e w2 ⟨rfl, rfl⟩
 cases n with
 | false =>
  go_wp2_with fail
  go_ret
  exact ⟨ret_bool (by rw [j.out]; rfl), i⟩
 | true =>
  cases u with
  | false =>
   go_wp2_with fail
   go_ret
   exact ⟨ret_bool (by rw [j.out]; rfl), i⟩
  | true =>
   cases v with
   | false =>
    go_wp2_with fail
    go_ret
    exact ⟨ret_bool (by rw [j.out]; rfl), i⟩
   | true =>
    go_wp2_with fail
    refine (every_Q x.A x.n x.c x.fl g (InQ.list z.out.hf i.out)).mono ?_
    rw [J.out]
    rintro e w3 ⟨rfl, HB3⟩
    have o := hI (i.out.trans (HB3.out.mono i.out.size))
    have y := hI (l.out.belowW HB3.out)
    clear C D E
    have C : w3.cell? ⟨w.heap.size, 0, none⟩ = some (.string x.s) := y.out.cell 0
    have D : w3.cell? ⟨w.heap.size, 1, none⟩ = some (.slice x.A x.n x.c) := y.out.cell 1
    have E : w3.cell? ⟨w.heap.size, 2, none⟩ = some (.slice x.B x.m x.d) := y.out.cell 2
    cases a with
    | false =>
     go_wp2_with fail
     go_ret
     exact ⟨ret_bool (by rw [j.out]; rfl), o⟩
    | true =>
     go_wp2_with fail
     refine (every_G x.B x.m x.d x.ed w3 (InG.list z.out.he o.out)).mono ?_
     rw [L.out]
     rintro e w4 ⟨rfl, HB4⟩
     go_wp2_with fail
     go_ret
     exact ⟨ret_bool (by rw [j.out]; rfl), hI (o.out.trans (HB4.out.mono o.out.size))⟩

theorem ev1_M (x : MdN) (bp : Nat) (w : World) (hx : InM w x) (hp : Blk w bp 160 #[.func (.func 116) #[] #[]]) :
  Calls Tryz.prog 147 #[x.val, .pointer (some ⟨bp, 0, none⟩)] w (RetB (.bool (!x.ok)) w) := by
 have j := hI hx
 have k := hI hp
 clear hx hp
 simp only [MdN.val]
 go_enter Tryz.func147, Tryz.ntmps147
 go_upto_region 1 with (fail)
 obtain ⟨a, b⟩ := eX (w.alloc (Obj.cells #[.string x.s, .slice x.A x.n x.c, .slice x.B x.m x.d] 74))
 have g := hI (show Below w.heap.size w a by rw [b]; exact below_box _ _)
 have i := hI (show Blk a w.heap.size 74 #[.string x.s, .slice x.A x.n x.c, .slice x.B x.m x.d] by rw [b]; exact Blk.new _ _ _)
 rw [← b]
 clear b
 have l := hI (k.out.belowW g.out)
 have o := hI (mode_p x a (j.out.belowW g.out))
 have p : a.cell? ⟨bp, 0, none⟩ = some (.func (.func 116) #[] #[]) := l.out.cell 0
 have q : a.cell? ⟨w.heap.size, 0, none⟩ = some (.string x.s) := i.out.cell 0
 have r : a.cell? ⟨w.heap.size, 1, none⟩ = some (.slice x.A x.n x.c) := i.out.cell 1
 have u : a.cell? ⟨w.heap.size, 2, none⟩ = some (.slice x.B x.m x.d) := i.out.cell 2
 go_wp2_with fail
 refine o.out.mono ?_
 rintro e w5 ⟨rfl, HB⟩
 go_wp2_with fail
 go_ret
 exact ⟨rfl, hI (g.out.trans (HB.out.mono g.out.size))⟩

theorem idx_M (A : Option Addr) (len cap bp : Nat) (zs : List MdN) (w : World) (hx : InL 3 MdN.cells InM w A len cap zs) (hp : Blk w bp 160 #[.func (.func 116) #[] #[]]) :
  Calls Tryz.prog 169 #[.slice A len cap, .func (.func 147) #[] #[.pointer (some ⟨bp, 0, none⟩)]] w fun e w' => ∃ r : Int, e = .returned (.int .i64 r) ∧ Hid (decide (0 ≤ r) = !(zs.all MdN.ok)) ∧ Hid (Below w.heap.size w w') := by
 have q := hI hx
 have s := hI hp
 have u := hI hx.hl
 have F : len ≤ 9223372036854775807 := by
  have G := hx.hc
  have v := hx.hm
  unfold maxLen at v
  omega
 clear hx hp
 go_enter Tryz.func169, Tryz.ntmps169
 go_wp2_with fail
 go_loopg [8] len (fun k i wr => ∃ j : Nat, i = .int .i64 j ∧ j ≤ len ∧ k = len - j ∧ Hid ((zs.take j).all MdN.ok = true) ∧ Hid (Below w.heap.size w wr))
 case atStart => exact ⟨0, rfl, by omega, by omega, by unfold Hid; simp, Below.refl _ _⟩
 case round =>
  obtain ⟨j, rfl, H, rfl, l, a⟩ := hrel
  have m := a.out.size
  by_cases hlt : j < len
  ·
   obtain ⟨b, o, x, y, d, n, p⟩ := InM.len (InM.list q.out a.out) j hlt
   subst y
   obtain ⟨I, J, L, M⟩ := MdN.cells_at p
   have z := hI (take_snocA zs j x d)
   have B := hI (mem_takeA d)
   have C : decide (j < len) = true := decide_eq_true hlt
   have c := hI (ev1_M x bp wr n (s.out.belowW a.out))
   clear d n p
   cases hp : x.ok with
   | true =>
    rw [hp] at c
    go_wp2_with fail
    refine c.out.mono ?_
    rintro e w2 ⟨rfl, HB⟩
    have g := hI (a.out.trans (HB.out.mono m))
    go_wp2_with fail
    go_roundg (len - (j + 1))
    case measure => omega
    case rel => exact ⟨j + 1, by go_num, by omega, rfl, hI (by rw [z.out, List.all_append, l.out]; simp [hp]), g⟩
   | false =>
    rw [hp] at c
    go_wp2_with fail
    refine c.out.mono ?_
    rintro e w2 ⟨rfl, HB⟩
    have g := hI (a.out.trans (HB.out.mono m))
    go_wp2_with fail
    go_ret
    exact ⟨j, rfl, hI (by rw [List.all_eq_false.2 ⟨x, B.out, by rw [hp]; simp⟩]; simp), g⟩
  ·
   have D : j = len := by omega
   have E := hI (show zs.all MdN.ok = true by have := l.out; rwa [D, ← u.out, List.take_length] at this)
   have C : decide (j < len) = false := decide_eq_false hlt
   go_wp2_with fail
   go_ret
   exact ⟨-1, rfl, hI (by rw [E.out]; rfl), a⟩

theorem has_M (A : Option Addr) (len cap bp : Nat) (zs : List MdN) (w : World) (hx : InL 3 MdN.cells InM w A len cap zs) (hp : Blk w bp 160 #[.func (.func 116) #[] #[]]) :
  Calls Tryz.prog 146 #[.slice A len cap, .func (.func 147) #[] #[.pointer (some ⟨bp, 0, none⟩)]] w (RetB (.bool (!(zs.all MdN.ok))) w) := by
 have KK := hI (idx_M A len cap bp zs w hx hp)
 clear hx hp
 go_enter Tryz.func146, Tryz.ntmps146
 go_wp2_with fail
 refine KK.out.mono ?_
 rintro e w2 ⟨r, rfl, HR, HB⟩
 go_wp2_with fail
 go_ret
 exact ⟨ret_bool HR.out, HB⟩

theorem every_M (A : Option Addr) (len cap : Nat) (zs : List MdN) (w : World) (hx : InL 3 MdN.cells InM w A len cap zs) :
  Calls Tryz.prog 115 #[.slice A len cap, .func (.func 116) #[] #[]] w (RetB (.bool (zs.all MdN.ok)) w) := by
 have HX := hI hx
 clear hx
 go_enter Tryz.func115, Tryz.ntmps115
 go_upto_region 1 with (fail)
 obtain ⟨w1, hw1⟩ := eX (w.alloc (Obj.cells #[.func (.func 116) #[] #[]] 160))
 have HW1 := hI (show Below w.heap.size w w1 by rw [hw1]; exact below_box _ _)
 have F1 := hI (show Blk w1 w.heap.size 160 #[.func (.func 116) #[] #[]] by rw [hw1]; exact Blk.new _ _ _)
 rw [← hw1]
 clear hw1
 have KK := hI (has_M A len cap w.heap.size zs w1 (InM.list HX.out HW1.out) F1.out)
 go_wp2_with fail
 refine KK.out.mono ?_
 rintro e w2 ⟨rfl, HB⟩
 go_wp2_with fail
 go_ret
 exact ⟨ret_bool (by simp), hI (HW1.out.trans (HB.out.mono HW1.out.size))⟩
theorem PbN.sz_iff {x : PbN} : x.sz = true ↔ 1 ≤ x.n ∧ x.n ≤ 4 ∧ x.m ≤ 4 ∧ 1 ≤ x.k ∧ x.k ≤ 8 := by
 unfold PbN.sz
 simp only [Bool.and_eq_true, decide_eq_true_eq, and_assoc]
theorem PbN.no {x : PbN} (h : ¬ (1 ≤ x.n ∧ x.n ≤ 4 ∧ x.m ≤ 4 ∧ 1 ≤ x.k ∧ x.k ≤ 8)) : x.ok = false := by
 unfold PbN.ok
 cases hs : x.sz with
 | true => exact absurd (PbN.sz_iff.1 hs) h
 | false => rfl
theorem PbN.yes {x : PbN} (h : 1 ≤ x.n ∧ x.n ≤ 4 ∧ x.m ≤ 4 ∧ 1 ≤ x.k ∧ x.k ≤ 8) : x.ok = (x.st.all DcN.ok && (x.pa.all DcN.ok && (x.ms.all MdN.ok && vB x.t x.u))) := by
 unfold PbN.ok
 rw [PbN.sz_iff.2 h]
 rfl
theorem PbN.ok_iff {x : PbN} : x.ok = true ↔ (1 ≤ x.n ∧ x.n ≤ 4 ∧ x.m ≤ 4 ∧ 1 ≤ x.k ∧ x.k ≤ 8) ∧ x.st.all DcN.ok = true ∧ x.pa.all DcN.ok = true ∧ x.ms.all MdN.ok = true ∧ vB x.t x.u = true := by
 unfold PbN.ok
 rw [Bool.and_eq_true, Bool.and_eq_true, Bool.and_eq_true, Bool.and_eq_true, PbN.sz_iff]

theorem tproblem_p (x0 : PbN) (w : World) (hx : InP w x0) : Calls Tryz.prog 70 #[x0.val] w (RetB (.bool x0.ok) w) := by
 obtain ⟨m, d, o, s, p, j, u, x, q, g, r, y, k, l⟩ := x0
 have X := hI (show InL 5 DcN.cells InD w m d o s from hx.hs)
 have Y := hI (show InL 5 DcN.cells InD w p j u x from hx.hp)
 have Z := hI (show InL 3 MdN.cells InM w q g r y from hx.hm)
 have tL : -9223372036854775808 ≤ k := hx.t1
 have tH : k ≤ 9223372036854775807 := hx.t2
 have uL : -9223372036854775808 ≤ l := hx.u1
 have uH : l ≤ 9223372036854775807 := hx.u2
 clear hx
 simp only [PbN.val]
 go_enter Tryz.func70, Tryz.ntmps70
 go_upto_region 1 with (fail)
 obtain ⟨J, G⟩ := eX (w.alloc (Obj.cells #[.slice m d o, .slice p j u, .slice q g r, .int .i64 k, .int .i64 l] 68))
 have z := hI (show Below w.heap.size w J by rw [G]; exact below_box _ _)
 have P := hI (show Blk J w.heap.size 68 #[.slice m d o, .slice p j u, .slice q g r, .int .i64 k, .int .i64 l] by rw [G]; exact Blk.new _ _ _)
 rw [← G]
 clear G
 obtain ⟨B, C, D, E, F⟩ := P.out.cs5
 by_cases h0 : d < 1
 case pos =>
  have Q : decide ((d : Int) < 1) = true := decide_eq_true (by omega)
  have i := hI (show PbN.ok ⟨m, d, o, s, p, j, u, x, q, g, r, y, k, l⟩ = false from PbN.no (by simp only; omega))
  go_wp2_with fail
  go_ret
  exact ⟨ret_bool i.out.symm, z⟩
 have Q : decide ((d : Int) < 1) = false := decide_eq_false (by omega)
 by_cases h1 : 4 < d
 case pos =>
  have R : decide ((4 : Int) < (d : Int)) = true := decide_eq_true (by omega)
  have i := hI (show PbN.ok ⟨m, d, o, s, p, j, u, x, q, g, r, y, k, l⟩ = false from PbN.no (by simp only; omega))
  go_wp2_with fail
  go_ret
  exact ⟨ret_bool i.out.symm, z⟩
 have R : decide ((4 : Int) < (d : Int)) = false := decide_eq_false (by omega)
 by_cases h2 : 4 < j
 case pos =>
  have S : decide ((4 : Int) < (j : Int)) = true := decide_eq_true (by omega)
  have i := hI (show PbN.ok ⟨m, d, o, s, p, j, u, x, q, g, r, y, k, l⟩ = false from PbN.no (by simp only; omega))
  go_wp2_with fail
  go_ret
  exact ⟨ret_bool i.out.symm, z⟩
 have S : decide ((4 : Int) < (j : Int)) = false := decide_eq_false (by omega)
 by_cases h3 : g < 1
 case pos =>
  have T : decide ((g : Int) < 1) = true := decide_eq_true (by omega)
  have i := hI (show PbN.ok ⟨m, d, o, s, p, j, u, x, q, g, r, y, k, l⟩ = false from PbN.no (by simp only; omega))
  go_wp2_with fail
  go_ret
  exact ⟨ret_bool i.out.symm, z⟩
 have T : decide ((g : Int) < 1) = false := decide_eq_false (by omega)
 by_cases h4 : 8 < g
 case pos =>
  have U : decide ((8 : Int) < (g : Int)) = true := decide_eq_true (by omega)
  have i := hI (show PbN.ok ⟨m, d, o, s, p, j, u, x, q, g, r, y, k, l⟩ = false from PbN.no (by simp only; omega))
  go_wp2_with fail
  go_ret
  exact ⟨ret_bool i.out.symm, z⟩
 have U : decide ((8 : Int) < (g : Int)) = false := decide_eq_false (by omega)
 obtain ⟨a, L⟩ : ∃ n, s.all DcN.ok = n := ⟨_, rfl⟩
 obtain ⟨b, M⟩ : ∃ n, x.all DcN.ok = n := ⟨_, rfl⟩
 obtain ⟨c, hc⟩ : ∃ n, y.all MdN.ok = n := ⟨_, rfl⟩
 obtain ⟨v, N⟩ : ∃ n, vB k l = n := ⟨_, rfl⟩
 have i := hI (show PbN.ok ⟨m, d, o, s, p, j, u, x, q, g, r, y, k, l⟩ = (a && (b && (c && v))) by rw [PbN.yes (by simp only; omega)]; simp only [L, M, hc, N])
 have HA := hI L
 have HB := hI M
 have HC := hI hc
 have HV := hI N
 clear L M hc N
 go_wp2_with fail
 clear Q R S T U
 refine (every_D m d o s J (InD.list X.out z.out)).mono ?_
 rw [HA.out]
 rintro e w2 ⟨rfl, HB2⟩
 have H := hI (z.out.trans (HB2.out.mono z.out.size))
 have V := hI (P.out.belowW HB2.out)
 clear B C D E F
 obtain ⟨B, C, D, E, F⟩ := V.out.cs5
 cases a with
 | false =>
  go_wp2_with fail
  go_ret
  exact ⟨ret_bool (by rw [i.out]; rfl), H⟩
 | true =>
  go_wp2_with fail
  refine (every_D p j _ x w2 (InD.list Y.out H.out)).mono ?_
  rw [HB.out]
  rintro e w3 ⟨rfl, HB3⟩
  have I := hI (H.out.trans (HB3.out.mono H.out.size))
  have W := hI (V.out.belowW HB3.out)
  clear B C D E F
  obtain ⟨B, C, D, E, F⟩ := W.out.cs5
  cases b with
  | false =>
   go_wp2_with fail
   go_ret
   exact ⟨ret_bool (by rw [i.out]; rfl), I⟩
  | true =>
   go_wp2_with fail
   refine (every_M q g r y w3 (InM.list Z.out I.out)).mono ?_
   rw [HC.out]
   rintro e w4 ⟨rfl, HB4⟩
   have O := hI (I.out.trans (HB4.out.mono I.out.size))
   have F4 := hI (W.out.belowW HB4.out)
   clear B C D E F
   obtain ⟨B, C, D, E, F⟩ := F4.out.cs5
   cases c with
   | false =>
    go_wp2_with fail
    go_ret
    exact ⟨ret_bool (by rw [i.out]; rfl), O⟩
   | true =>
    go_wp2_with fail
    refine (valid_q k l w4 tL tH uL uH).mono ?_
    rw [HV.out]
    rintro e w5 ⟨rfl, HB5⟩
    go_wp2_with fail
    go_ret
    exact ⟨ret_bool (by rw [i.out]; rfl), hI (O.out.trans (HB5.out.mono O.out.size))⟩
end Go.Proofs.YtkjoohnndobjeaaGreatDoor
