/-
  The walks of the program's tests of declarations, equations, edges, modes, and lists of them.
  The walks of the program's tests of edges, modes, problems.
-/
import Derived.Test.YtkjoohnndobjeaaGreatDoorQV
import Derived.Test.YtkjoohnndobjeaaGreatDoorQH
set_option linter.unusedVariables false
set_option maxHeartbeats 4000000
set_option maxRecDepth 100000
namespace Go.Proofs.YtkjoohnndobjeaaGreatDoor
open Go.RowKit Go.Fl Go.Fl.Nm Go.Fl.Dy Go.Fl.Rt Go.Fl.Fm

theorem decl_p (x : DcN) (w : World) (hx : InD w x) : Calls Tryz.prog 114 #[x.val] w (RetB (.bool x.ok) w) := by
 have g := hI hx.r
 have G : x.s.size ≤ maxLen := hx.hs
 obtain ⟨n, i⟩ : ∃ n, nameP x.s.data.toList = n := ⟨_, rfl⟩
 obtain ⟨u, j⟩ : ∃ n, vB x.a x.b = n := ⟨_, rfl⟩
 obtain ⟨v, k⟩ : ∃ n, vB x.c x.d = n := ⟨_, rfl⟩
 have l := hI (show x.ok = (n && (u && v)) by unfold DcN.ok; rw [i, j, k])
 have H := hI i
 have I := hI j
 have J := hI k
 clear hx i j k
 simp only [DcN.val]
 go_enter Tryz.func114, Tryz.ntmps114
 go_upto_region 1 with (fail)
 obtain ⟨m, o, p, q⟩ := aX w 76 #[.string x.s, .int .i64 x.a, .int .i64 x.b, .int .i64 x.c, .int .i64 x.d]
 rw [← o]
 clear o
 obtain ⟨y, z, B, C, D⟩ := q.out.cs5
 go_wp2_with fail
 refine (name_any x.s m G).mono ?_
 rw [H.out]
 rintro e w2 ⟨rfl, rfl⟩
 cases n with
 | false =>
  go_wp2_with fail
  go_ret
  exact ⟨ret_bool (by rw [l.out]; rfl), p⟩
 | true =>
  go_wp2_with fail
  refine (valid_q x.a x.b m g.out.a1 g.out.a2 g.out.b1 g.out.b2).mono ?_
  rw [I.out]; rintro e w3 ⟨rfl, E⟩; have F := p.out.t E; clear y z B C D; obtain ⟨y, z, B, C, D⟩ := (q.out.belowW E.out).cs5
  cases u with
  | false =>
   go_wp2_with fail
   go_ret
   exact ⟨ret_bool (by rw [l.out]; rfl), F⟩
  | true =>
   go_wp2_with fail
   refine (valid_q x.c x.d w3 g.out.c1 g.out.c2 g.out.d1 g.out.d2).mono ?_
   rw [J.out]; rintro e w4 ⟨rfl, L⟩
   go_wp2_with fail
   go_ret
   exact ⟨ret_bool (by rw [l.out]; rfl), F.out.t L⟩

theorem eq_p (x : EqN) (w : World) (hx : InQ w x) : Calls Tryz.prog 149 #[x.val] w (RetB (.bool x.ok) w) := by
 have HX := hI hx
 have hs : x.s.size ≤ maxLen := hx.hs
 obtain ⟨n, hn⟩ : ∃ n, nameP x.s.data.toList = n := ⟨_, rfl⟩
 obtain ⟨u, hu⟩ : ∃ n, okE x.T = n := ⟨_, rfl⟩
 have HE := hI (show x.ok = (n && u) by unfold EqN.ok; rw [hn, hu])
 have HN := hI hn
 have HU := hI hu
 clear hx hn hu
 simp only [EqN.val]
 go_enter Tryz.func149, Tryz.ntmps149
 go_upto_region 1 with (fail)
 obtain ⟨w1, hw1, HW1, F1⟩ := aX w 78 #[.string x.s, .int .i64 x.v.h.kind, .int .i64 x.v.h.n, .int .i64 x.v.h.d, .string x.v.h.name, .int .i64 x.v.h.k, .slice x.v.A x.v.len x.v.cap]
 rw [← hw1]
 clear hw1
 obtain ⟨pr0, pr1, pr2, pr3, pr4, pr5, pr6⟩ := F1.out.cs7
 go_wp2_with fail
 refine (name_any x.s w1 hs).mono ?_
 rw [HN.out]
 rintro e w2 ⟨rfl, rfl⟩
 cases n with
 | false =>
  go_wp2_with fail
  go_ret
  exact ⟨ret_bool (by rw [HE.out]; rfl), HW1⟩
 | true =>
  go_wp2_with fail
  refine (eValid_p x.T x.v w1 (HX.out.e.go HW1.out)).mono ?_
  rw [HU.out]
  rintro e w3 ⟨rfl, HB⟩
  go_wp2_with fail
  go_ret
  exact ⟨ret_bool (by rw [HE.out]; rfl), HW1.out.t HB⟩

theorem reset_p (x : EqN) (w : World) (hx : InQ w x) : Calls Tryz.prog 153 #[x.val] w (RetB (.bool x.ok) w) := by
 have HX := hI hx
 have hs : x.s.size ≤ maxLen := hx.hs
 obtain ⟨n, hn⟩ : ∃ n, nameP x.s.data.toList = n := ⟨_, rfl⟩
 obtain ⟨u, hu⟩ : ∃ n, okE x.T = n := ⟨_, rfl⟩
 have HE := hI (show x.ok = (n && u) by unfold EqN.ok; rw [hn, hu])
 have HN := hI hn
 have HU := hI hu
 clear hx hn hu
 simp only [EqN.val]
 go_enter Tryz.func153, Tryz.ntmps153
 go_upto_region 1 with (fail)
 obtain ⟨w1, hw1, HW1, F1⟩ := aX w 82 #[.string x.s, .int .i64 x.v.h.kind, .int .i64 x.v.h.n, .int .i64 x.v.h.d, .string x.v.h.name, .int .i64 x.v.h.k, .slice x.v.A x.v.len x.v.cap]
 rw [← hw1]
 clear hw1
 obtain ⟨pr0, pr1, pr2, pr3, pr4, pr5, pr6⟩ := F1.out.cs7
 go_wp2_with fail
 refine (name_any x.s w1 hs).mono ?_
 rw [HN.out]
 rintro e w2 ⟨rfl, rfl⟩
 cases n with
 | false =>
  go_wp2_with fail
  go_ret
  exact ⟨ret_bool (by rw [HE.out]; rfl), HW1⟩
 | true =>
  go_wp2_with fail
  refine (eValid_p x.T x.v w1 (HX.out.e.go HW1.out)).mono ?_
  rw [HU.out]
  rintro e w3 ⟨rfl, HB⟩
  go_wp2_with fail
  go_ret
  exact ⟨ret_bool (by rw [HE.out]; rfl), HW1.out.t HB⟩

theorem ev1_D (x : DcN) (bp : Nat) (w : World) (hx : InD w x) (hp : Blk w bp 158 #[.func (.func 114) #[] #[]]) :
 Calls Tryz.prog 145 #[x.val, .pointer (some ⟨bp, 0, none⟩)] w (RetB (.bool (!x.ok)) w) := by
 have HX := hI hx
 have HP := hI hp
 clear hx hp
 simp only [DcN.val]
 go_enter Tryz.func145, Tryz.ntmps145
 go_upto_region 1 with (fail)
 obtain ⟨w1, hw1, HW1, F1⟩ := aX w 76 #[.string x.s, .int .i64 x.a, .int .i64 x.b, .int .i64 x.c, .int .i64 x.d]
 rw [← hw1]
 clear hw1
 have pp : w1.cell? ⟨bp, 0, none⟩ = some (.func (.func 114) #[] #[]) := (HP.out.belowW HW1.out).cell 0
 obtain ⟨pr0, pr1, pr2, pr3, pr4⟩ := F1.out.cs5
 go_wp2_with fail
 refine (decl_p x w1 (HX.out.belowW HW1.out)).mono ?_
 rintro e w5 ⟨rfl, HB⟩
 go_wp2_with fail
 go_ret
 exact ⟨rfl, HW1.out.t HB⟩

theorem idx_D (A : Option Addr) (len cap bp : Nat) (zs : List DcN) (w : World) (hx : InL 5 DcN.cells InD w A len cap zs) (hp : Blk w bp 158 #[.func (.func 114) #[] #[]]) :
 Calls Tryz.prog 168 #[.slice A len cap, .func (.func 145) #[] #[.pointer (some ⟨bp, 0, none⟩)]] w fun e w' => ∃ r : Int, e = .returned (.int .i64 r) ∧ Hid (decide (0 ≤ r) = !(zs.all DcN.ok)) ∧ Hid (Below w.heap.size w w') := by
 have q := hI hx
 have s := hI hp
 have u := hI hx.hl
 have F : len ≤ 9223372036854775807 := by
  have G := hx.hc; have v := hx.hm
  unfold maxLen at v
  omega
 clear hx hp
 go_enter Tryz.func168, Tryz.ntmps168
 go_wp2_with fail
 go_loopg [8] len (fun k i wr => ∃ j : Nat, i = .int .i64 j ∧ j ≤ len ∧ k = len - j ∧ Hid ((zs.take j).all DcN.ok = true) ∧ Hid (Below w.heap.size w wr))
 case atStart => exact ⟨0, rfl, by omega, by omega, by unfold Hid; simp, Below.refl _ _⟩
 obtain ⟨j, rfl, H, rfl, l, a⟩ := hrel
 have m := a.out.size
 by_cases hlt : j < len
 ·
  obtain ⟨b, o, x, y, d, n, p⟩ := InD.len (InD.list q.out a.out) j hlt; subst y; obtain ⟨I, J, L, M, N, O⟩ := DcN.cells_at p; have z := hI (take_snocA zs j x d); have B := hI (mem_takeA d); have C : decide (j < len) = true := decide_eq_true hlt; have c := hI (ev1_D x bp wr n (s.out.belowW a.out)); clear d n p
  cases hp : x.ok with
  | true =>
   rw [hp] at c
   go_wp2_with fail
   refine c.out.mono ?_
   rintro e w2 ⟨rfl, g⟩
   go_wp2_with fail
   go_roundg (len - (j + 1))
   case measure => omega
   case rel => exact ⟨j + 1, by go_num, by omega, rfl, hI (by rw [z.out, List.all_append, l.out]; simp [hp]), (hI (a.out.trans (g.out.mono m)))⟩
  | false =>
   rw [hp] at c
   go_wp2_with fail
   refine c.out.mono ?_
   rintro e w2 ⟨rfl, g⟩
   go_wp2_with fail
   go_ret
   exact ⟨j, rfl, hI (by rw [List.all_eq_false.2 ⟨x, B.out, by rw [hp]; simp⟩]; simp), (hI (a.out.trans (g.out.mono m)))⟩
 have D : j = len := by omega
 have E := hI (show zs.all DcN.ok = true by have := l.out; rwa [D, ← u.out, List.take_length] at this)
 have C : decide (j < len) = false := decide_eq_false hlt
 go_wp2_with fail
 go_ret
 exact ⟨-1, rfl, hI (by rw [E.out]; rfl), a⟩

theorem has_D (A : Option Addr) (len cap bp : Nat) (zs : List DcN) (w : World) (hx : InL 5 DcN.cells InD w A len cap zs) (hp : Blk w bp 158 #[.func (.func 114) #[] #[]]) :
 Calls Tryz.prog 144 #[.slice A len cap, .func (.func 145) #[] #[.pointer (some ⟨bp, 0, none⟩)]] w (RetB (.bool (!(zs.all DcN.ok))) w) := by
 have KK := hI (idx_D A len cap bp zs w hx hp)
 clear hx hp
 go_enter Tryz.func144, Tryz.ntmps144
 go_wp2_with fail
 refine KK.out.mono ?_
 rintro e w2 ⟨r, rfl, HR, HB⟩
 go_wp2_with fail
 go_ret
 exact ⟨ret_bool HR.out, HB⟩

theorem every_D (A : Option Addr) (len cap : Nat) (zs : List DcN) (w : World) (hx : InL 5 DcN.cells InD w A len cap zs) :
 Calls Tryz.prog 113 #[.slice A len cap, .func (.func 114) #[] #[]] w (RetB (.bool (zs.all DcN.ok)) w) := by
 have HX := hI hx
 clear hx
 go_enter Tryz.func113, Tryz.ntmps113
 go_upto_region 1 with (fail)
 obtain ⟨w1, hw1, HW1, F1⟩ := aX w 158 #[.func (.func 114) #[] #[]]
 rw [← hw1]
 clear hw1
 go_wp2_with fail
 refine (has_D A len cap w.heap.size zs w1 (InD.list HX.out HW1.out) F1.out).mono ?_
 rintro e w2 ⟨rfl, HB⟩
 go_wp2_with fail
 go_ret
 exact ⟨ret_bool (by simp), HW1.out.t HB⟩

theorem ev1_Q (x : EqN) (bp : Nat) (w : World) (hx : InQ w x) (hp : Blk w bp 178 #[.func (.func 149) #[] #[]]) :
 Calls Tryz.prog 171 #[x.val, .pointer (some ⟨bp, 0, none⟩)] w (RetB (.bool (!x.ok)) w) := by
 have HX := hI hx
 have HP := hI hp
 clear hx hp
 simp only [EqN.val]
 go_enter Tryz.func171, Tryz.ntmps171
 go_upto_region 1 with (fail)
 obtain ⟨w1, hw1, HW1, F1⟩ := aX w 78 #[.string x.s, .int .i64 x.v.h.kind, .int .i64 x.v.h.n, .int .i64 x.v.h.d, .string x.v.h.name, .int .i64 x.v.h.k, .slice x.v.A x.v.len x.v.cap]
 rw [← hw1]
 clear hw1
 have pp : w1.cell? ⟨bp, 0, none⟩ = some (.func (.func 149) #[] #[]) := (HP.out.belowW HW1.out).cell 0
 obtain ⟨pr0, pr1, pr2, pr3, pr4, pr5, pr6⟩ := F1.out.cs7
 go_wp2_with fail
 refine (eq_p x w1 (HX.out.belowW HW1.out)).mono ?_
 rintro e w5 ⟨rfl, HB⟩
 go_wp2_with fail
 go_ret
 exact ⟨rfl, HW1.out.t HB⟩

theorem idx_Q (A : Option Addr) (len cap bp : Nat) (zs : List EqN) (w : World) (hx : InL 7 EqN.cells InQ w A len cap zs) (hp : Blk w bp 178 #[.func (.func 149) #[] #[]]) :
 Calls Tryz.prog 184 #[.slice A len cap, .func (.func 171) #[] #[.pointer (some ⟨bp, 0, none⟩)]] w fun e w' => ∃ r : Int, e = .returned (.int .i64 r) ∧ Hid (decide (0 ≤ r) = !(zs.all EqN.ok)) ∧ Hid (Below w.heap.size w w') := by
 have q := hI hx
 have s := hI hp
 have u := hI hx.hl
 have F : len ≤ 9223372036854775807 := by
  have G := hx.hc; have v := hx.hm
  unfold maxLen at v
  omega
 clear hx hp
 go_enter Tryz.func184, Tryz.ntmps184
 go_wp2_with fail
 go_loopg [8] len (fun k i wr => ∃ j : Nat, i = .int .i64 j ∧ j ≤ len ∧ k = len - j ∧ Hid ((zs.take j).all EqN.ok = true) ∧ Hid (Below w.heap.size w wr))
 case atStart => exact ⟨0, rfl, by omega, by omega, by unfold Hid; simp, Below.refl _ _⟩
 obtain ⟨j, rfl, H, rfl, l, a⟩ := hrel
 have m := a.out.size
 by_cases hlt : j < len
 ·
  obtain ⟨b, o, x, y, d, n, p⟩ := InQ.len (InQ.list q.out a.out) j hlt; subst y; obtain ⟨I, J, L, M, N, O, P, Q⟩ := EqN.cells_at p; have z := hI (take_snocA zs j x d); have B := hI (mem_takeA d); have C : decide (j < len) = true := decide_eq_true hlt; have c := hI (ev1_Q x bp wr n (s.out.belowW a.out)); clear d n p
  cases hp : x.ok with
  | true =>
   rw [hp] at c
   go_wp2_with fail
   refine c.out.mono ?_
   rintro e w2 ⟨rfl, g⟩
   go_wp2_with fail
   go_roundg (len - (j + 1))
   case measure => omega
   case rel => exact ⟨j + 1, by go_num, by omega, rfl, hI (by rw [z.out, List.all_append, l.out]; simp [hp]), (hI (a.out.trans (g.out.mono m)))⟩
  | false =>
   rw [hp] at c
   go_wp2_with fail
   refine c.out.mono ?_
   rintro e w2 ⟨rfl, g⟩
   go_wp2_with fail
   go_ret
   exact ⟨j, rfl, hI (by rw [List.all_eq_false.2 ⟨x, B.out, by rw [hp]; simp⟩]; simp), (hI (a.out.trans (g.out.mono m)))⟩
 have D : j = len := by omega
 have E := hI (show zs.all EqN.ok = true by have := l.out; rwa [D, ← u.out, List.take_length] at this)
 have C : decide (j < len) = false := decide_eq_false hlt
 go_wp2_with fail
 go_ret
 exact ⟨-1, rfl, hI (by rw [E.out]; rfl), a⟩

theorem has_Q (A : Option Addr) (len cap bp : Nat) (zs : List EqN) (w : World) (hx : InL 7 EqN.cells InQ w A len cap zs) (hp : Blk w bp 178 #[.func (.func 149) #[] #[]]) :
 Calls Tryz.prog 170 #[.slice A len cap, .func (.func 171) #[] #[.pointer (some ⟨bp, 0, none⟩)]] w (RetB (.bool (!(zs.all EqN.ok))) w) := by
 have KK := hI (idx_Q A len cap bp zs w hx hp)
 clear hx hp
 go_enter Tryz.func170, Tryz.ntmps170
 go_wp2_with fail
 refine KK.out.mono ?_
 rintro e w2 ⟨r, rfl, HR, HB⟩
 go_wp2_with fail
 go_ret
 exact ⟨ret_bool HR.out, HB⟩

theorem every_Q (A : Option Addr) (len cap : Nat) (zs : List EqN) (w : World) (hx : InL 7 EqN.cells InQ w A len cap zs) :
 Calls Tryz.prog 148 #[.slice A len cap, .func (.func 149) #[] #[]] w (RetB (.bool (zs.all EqN.ok)) w) := by
 have HX := hI hx
 clear hx
 go_enter Tryz.func148, Tryz.ntmps148
 go_upto_region 1 with (fail)
 obtain ⟨w1, hw1, HW1, F1⟩ := aX w 178 #[.func (.func 149) #[] #[]]
 rw [← hw1]
 clear hw1
 go_wp2_with fail
 refine (has_Q A len cap w.heap.size zs w1 (InQ.list HX.out HW1.out) F1.out).mono ?_
 rintro e w2 ⟨rfl, HB⟩
 go_wp2_with fail
 go_ret
 exact ⟨ret_bool (by simp), HW1.out.t HB⟩

theorem ev1_R (x : EqN) (bp : Nat) (w : World) (hx : InQ w x) (hp : Blk w bp 181 #[.func (.func 153) #[] #[]]) :
 Calls Tryz.prog 175 #[x.val, .pointer (some ⟨bp, 0, none⟩)] w (RetB (.bool (!x.ok)) w) := by
 have HX := hI hx
 have HP := hI hp
 clear hx hp
 simp only [EqN.val]
 go_enter Tryz.func175, Tryz.ntmps175
 go_upto_region 1 with (fail)
 obtain ⟨w1, hw1, HW1, F1⟩ := aX w 82 #[.string x.s, .int .i64 x.v.h.kind, .int .i64 x.v.h.n, .int .i64 x.v.h.d, .string x.v.h.name, .int .i64 x.v.h.k, .slice x.v.A x.v.len x.v.cap]
 rw [← hw1]
 clear hw1
 have pp : w1.cell? ⟨bp, 0, none⟩ = some (.func (.func 153) #[] #[]) := (HP.out.belowW HW1.out).cell 0
 obtain ⟨pr0, pr1, pr2, pr3, pr4, pr5, pr6⟩ := F1.out.cs7
 go_wp2_with fail
 refine (reset_p x w1 (HX.out.belowW HW1.out)).mono ?_
 rintro e w5 ⟨rfl, HB⟩
 go_wp2_with fail
 go_ret
 exact ⟨rfl, HW1.out.t HB⟩

theorem idx_R (A : Option Addr) (len cap bp : Nat) (zs : List EqN) (w : World) (hx : InL 7 EqN.cells InQ w A len cap zs) (hp : Blk w bp 181 #[.func (.func 153) #[] #[]]) :
 Calls Tryz.prog 186 #[.slice A len cap, .func (.func 175) #[] #[.pointer (some ⟨bp, 0, none⟩)]] w fun e w' => ∃ r : Int, e = .returned (.int .i64 r) ∧ Hid (decide (0 ≤ r) = !(zs.all EqN.ok)) ∧ Hid (Below w.heap.size w w') := by
 have q := hI hx
 have s := hI hp
 have u := hI hx.hl
 have F : len ≤ 9223372036854775807 := by
  have G := hx.hc; have v := hx.hm
  unfold maxLen at v
  omega
 clear hx hp
 go_enter Tryz.func186, Tryz.ntmps186
 go_wp2_with fail
 go_loopg [8] len (fun k i wr => ∃ j : Nat, i = .int .i64 j ∧ j ≤ len ∧ k = len - j ∧ Hid ((zs.take j).all EqN.ok = true) ∧ Hid (Below w.heap.size w wr))
 case atStart => exact ⟨0, rfl, by omega, by omega, by unfold Hid; simp, Below.refl _ _⟩
 obtain ⟨j, rfl, H, rfl, l, a⟩ := hrel
 have m := a.out.size
 by_cases hlt : j < len
 ·
  obtain ⟨b, o, x, y, d, n, p⟩ := InQ.len (InQ.list q.out a.out) j hlt; subst y; obtain ⟨I, J, L, M, N, O, P, Q⟩ := EqN.cells_at p; have z := hI (take_snocA zs j x d); have B := hI (mem_takeA d); have C : decide (j < len) = true := decide_eq_true hlt; have c := hI (ev1_R x bp wr n (s.out.belowW a.out)); clear d n p
  cases hp : x.ok with
  | true =>
   rw [hp] at c
   go_wp2_with fail
   refine c.out.mono ?_
   rintro e w2 ⟨rfl, g⟩
   go_wp2_with fail
   go_roundg (len - (j + 1))
   case measure => omega
   case rel => exact ⟨j + 1, by go_num, by omega, rfl, hI (by rw [z.out, List.all_append, l.out]; simp [hp]), (hI (a.out.trans (g.out.mono m)))⟩
  | false =>
   rw [hp] at c
   go_wp2_with fail
   refine c.out.mono ?_
   rintro e w2 ⟨rfl, g⟩
   go_wp2_with fail
   go_ret
   exact ⟨j, rfl, hI (by rw [List.all_eq_false.2 ⟨x, B.out, by rw [hp]; simp⟩]; simp), (hI (a.out.trans (g.out.mono m)))⟩
 have D : j = len := by omega
 have E := hI (show zs.all EqN.ok = true by have := l.out; rwa [D, ← u.out, List.take_length] at this)
 have C : decide (j < len) = false := decide_eq_false hlt
 go_wp2_with fail
 go_ret
 exact ⟨-1, rfl, hI (by rw [E.out]; rfl), a⟩

theorem has_R (A : Option Addr) (len cap bp : Nat) (zs : List EqN) (w : World) (hx : InL 7 EqN.cells InQ w A len cap zs) (hp : Blk w bp 181 #[.func (.func 153) #[] #[]]) :
 Calls Tryz.prog 174 #[.slice A len cap, .func (.func 175) #[] #[.pointer (some ⟨bp, 0, none⟩)]] w (RetB (.bool (!(zs.all EqN.ok))) w) := by
 have KK := hI (idx_R A len cap bp zs w hx hp)
 clear hx hp
 go_enter Tryz.func174, Tryz.ntmps174
 go_wp2_with fail
 refine KK.out.mono ?_
 rintro e w2 ⟨r, rfl, HR, HB⟩
 go_wp2_with fail
 go_ret
 exact ⟨ret_bool HR.out, HB⟩

theorem every_R (A : Option Addr) (len cap : Nat) (zs : List EqN) (w : World) (hx : InL 7 EqN.cells InQ w A len cap zs) :
 Calls Tryz.prog 152 #[.slice A len cap, .func (.func 153) #[] #[]] w (RetB (.bool (zs.all EqN.ok)) w) := by
 have HX := hI hx
 clear hx
 go_enter Tryz.func152, Tryz.ntmps152
 go_upto_region 1 with (fail)
 obtain ⟨w1, hw1, HW1, F1⟩ := aX w 181 #[.func (.func 153) #[] #[]]
 rw [← hw1]
 clear hw1
 go_wp2_with fail
 refine (has_R A len cap w.heap.size zs w1 (InQ.list HX.out HW1.out) F1.out).mono ?_
 rintro e w2 ⟨rfl, HB⟩
 go_wp2_with fail
 go_ret
 exact ⟨ret_bool (by simp), HW1.out.t HB⟩
end Go.Proofs.YtkjoohnndobjeaaGreatDoor
namespace Go.Proofs.YtkjoohnndobjeaaGreatDoor
open Go.RowKit Go.Fl Go.Fl.Nm Go.Fl.Dy Go.Fl.Rt Go.Fl.Fm

theorem edge_p (x : EdN) (w : World) (hx : InG w x) : Calls Tryz.prog 151 #[x.val] w (RetB (.bool x.ok) w) := by
 have g := hI hx
 have r : x.tn.size ≤ maxLen := hx.hs
 have V := hx.d1
 have W := hx.d2
 obtain ⟨u, i⟩ : ∃ n, okE x.T = n := ⟨_, rfl⟩
 obtain ⟨n, j⟩ : ∃ n, nameP x.tn.data.toList = n := ⟨_, rfl⟩
 obtain ⟨l, P⟩ : ∃ n, decide ((x.len : Int) ≤ 4) = n := ⟨_, rfl⟩
 obtain ⟨a, m⟩ : ∃ n, x.rs.all EqN.ok = n := ⟨_, rfl⟩
 have c := hI (show x.ok = (u && (((x.dir == 1) || (x.dir == 2)) && (n && (l && a)))) by unfold EdN.ok EdN.dirB; rw [i, j, P, m])
 have Q := hI i
 have s := hI j
 have y := hI m
 clear hx j i m
 simp only [EdN.val]
 go_enter Tryz.func151, Tryz.ntmps151
 go_upto_region 1 with (fail)
 obtain ⟨R, z, B, C⟩ := aX w 81 #[.int .i64 x.v.h.kind, .int .i64 x.v.h.n, .int .i64 x.v.h.d, .string x.v.h.name, .int .i64 x.v.h.k, .slice x.v.A x.v.len x.v.cap, .int .i64 x.dir, .string x.tn, .slice x.A x.len x.cap]
 rw [← z]
 clear z
 obtain ⟨D, E, F, G, H, I, J, L, M⟩ := C.out.cs9
 go_wp2_with fail
 refine (eValid_p x.T x.v R (g.out.e.go B.out)).mono ?_
 rw [Q.out]
 rintro e w2 ⟨rfl, N⟩
 have b := B.out.t N
 clear D E F G H I J L M
 obtain ⟨D, E, F, G, H, I, J, L, M⟩ := (C.out.belowW N.out).cs9
 cases u with
 | false =>
  go_wp2_with fail
  go_ret
  exact ⟨ret_bool (by rw [c.out]; rfl), b⟩
 | true =>
  obtain ⟨p, O⟩ : ∃ n, (x.dir == 1) = n := ⟨_, rfl⟩
  obtain ⟨q, S⟩ : ∃ n, (x.dir == 2) = n := ⟨_, rfl⟩
  rw [O, S] at c
  have X : x.dir ≠ 1 ∨ p = true := by
   cases p with
   | true => exact .inr rfl
   | false => exact .inl (by simpa using O)
  by_cases hpq : (p || q) = true
  case neg =>
   have U := hI (show (p || q) = false by simpa using hpq)
   obtain ⟨rfl, rfl⟩ : p = false ∧ q = false := by simpa using U.out
   go_wp2_with fail
   go_ret
   exact ⟨ret_bool (by rw [c.out]; rfl), b⟩
  cases p with
  | true =>
   go_wp2_with fail
   refine (name_any x.tn w2 r).mono ?_
   rw [s.out]; rintro e w3 ⟨rfl, rfl⟩
   cases n with
   | false =>
    go_wp2_with fail
    go_ret
    exact ⟨ret_bool (by rw [c.out]; rfl), b⟩
   | true =>
    cases l with
    | false =>
     go_wp2_with fail
     go_ret
     exact ⟨ret_bool (by rw [c.out]; rfl), b⟩
    | true =>
     go_wp2_with fail
     refine (every_R x.A x.len x.cap x.rs w2 (InQ.list g.out.hr b.out)).mono ?_
     rw [y.out]; rintro e w4 ⟨rfl, o⟩
     go_wp2_with fail
     go_ret
     exact ⟨ret_bool (by rw [c.out]; rfl), b.out.t o⟩
  | false =>
   obtain rfl : q = true := by simpa using hpq
   go_wp2_with fail
   refine (name_any x.tn w2 r).mono ?_
   rw [s.out]; rintro e w3 ⟨rfl, rfl⟩
   cases n with
   | false =>
    go_wp2_with fail
    go_ret
    exact ⟨ret_bool (by rw [c.out]; rfl), b⟩
   | true =>
    cases l with
    | false =>
     go_wp2_with fail
     go_ret
     exact ⟨ret_bool (by rw [c.out]; rfl), b⟩
    | true =>
     go_wp2_with fail
     refine (every_R x.A x.len x.cap x.rs w2 (InQ.list g.out.hr b.out)).mono ?_
     rw [y.out]; rintro e w4 ⟨rfl, o⟩
     go_wp2_with fail
     go_ret
     exact ⟨ret_bool (by rw [c.out]; rfl), b.out.t o⟩


theorem ev1_G (x : EdN) (bp : Nat) (w : World) (hx : InG w x) (hp : Blk w bp 182 #[.func (.func 151) #[] #[]]) :
 Calls Tryz.prog 173 #[x.val, .pointer (some ⟨bp, 0, none⟩)] w (RetB (.bool (!x.ok)) w) := by
 have HX := hI hx
 have HP := hI hp
 clear hx hp
 simp only [EdN.val]
 go_enter Tryz.func173, Tryz.ntmps173
 go_upto_region 1 with (fail)
 obtain ⟨w1, hw1, HW1, F1⟩ := aX w 81 #[.int .i64 x.v.h.kind, .int .i64 x.v.h.n, .int .i64 x.v.h.d, .string x.v.h.name, .int .i64 x.v.h.k, .slice x.v.A x.v.len x.v.cap, .int .i64 x.dir, .string x.tn, .slice x.A x.len x.cap]
 rw [← hw1]
 clear hw1
 have pp : w1.cell? ⟨bp, 0, none⟩ = some (.func (.func 151) #[] #[]) := (HP.out.belowW HW1.out).cell 0
 obtain ⟨pr0, pr1, pr2, pr3, pr4, pr5, pr6, pr7, pr8⟩ := F1.out.cs9
 go_wp2_with fail
 refine (edge_p x w1 (HX.out.belowW HW1.out)).mono ?_
 rintro e w5 ⟨rfl, HB⟩
 go_wp2_with fail
 go_ret
 exact ⟨rfl, HW1.out.t HB⟩

theorem idx_G (A : Option Addr) (len cap bp : Nat) (zs : List EdN) (w : World) (hx : InL 9 EdN.cells InG w A len cap zs) (hp : Blk w bp 182 #[.func (.func 151) #[] #[]]) :
 Calls Tryz.prog 185 #[.slice A len cap, .func (.func 173) #[] #[.pointer (some ⟨bp, 0, none⟩)]] w fun e w' => ∃ r : Int, e = .returned (.int .i64 r) ∧ Hid (decide (0 ≤ r) = !(zs.all EdN.ok)) ∧ Hid (Below w.heap.size w w') := by
 have q := hI hx
 have s := hI hp
 have u := hI hx.hl
 have F : len ≤ 9223372036854775807 := by
  have G := hx.hc; have v := hx.hm
  unfold maxLen at v
  omega
 clear hx hp
 go_enter Tryz.func185, Tryz.ntmps185
 go_wp2_with fail
 go_loopg [8] len (fun k i wr => ∃ j : Nat, i = .int .i64 j ∧ j ≤ len ∧ k = len - j ∧ Hid ((zs.take j).all EdN.ok = true) ∧ Hid (Below w.heap.size w wr))
 case atStart => exact ⟨0, rfl, by omega, by omega, by unfold Hid; simp, Below.refl _ _⟩
 obtain ⟨j, rfl, H, rfl, l, a⟩ := hrel
 have m := a.out.size
 by_cases hlt : j < len
 ·
  obtain ⟨b, o, x, y, d, n, p⟩ := InG.len (InG.list q.out a.out) j hlt; subst y; obtain ⟨I, J, L, M, N, O, P, Q, R, S⟩ := EdN.cells_at p; have z := hI (take_snocA zs j x d); have B := hI (mem_takeA d); have C : decide (j < len) = true := decide_eq_true hlt; have c := hI (ev1_G x bp wr n (s.out.belowW a.out)); clear d n p
  cases hp : x.ok with
  | true =>
   rw [hp] at c
   go_wp2_with fail
   refine c.out.mono ?_
   rintro e w2 ⟨rfl, g⟩
   go_wp2_with fail
   go_roundg (len - (j + 1))
   case measure => omega
   case rel => exact ⟨j + 1, by go_num, by omega, rfl, hI (by rw [z.out, List.all_append, l.out]; simp [hp]), (hI (a.out.trans (g.out.mono m)))⟩
  | false =>
   rw [hp] at c
   go_wp2_with fail
   refine c.out.mono ?_
   rintro e w2 ⟨rfl, g⟩
   go_wp2_with fail
   go_ret
   exact ⟨j, rfl, hI (by rw [List.all_eq_false.2 ⟨x, B.out, by rw [hp]; simp⟩]; simp), (hI (a.out.trans (g.out.mono m)))⟩
 have D : j = len := by omega
 have E := hI (show zs.all EdN.ok = true by have := l.out; rwa [D, ← u.out, List.take_length] at this)
 have C : decide (j < len) = false := decide_eq_false hlt
 go_wp2_with fail
 go_ret
 exact ⟨-1, rfl, hI (by rw [E.out]; rfl), a⟩

theorem has_G (A : Option Addr) (len cap bp : Nat) (zs : List EdN) (w : World) (hx : InL 9 EdN.cells InG w A len cap zs) (hp : Blk w bp 182 #[.func (.func 151) #[] #[]]) :
 Calls Tryz.prog 172 #[.slice A len cap, .func (.func 173) #[] #[.pointer (some ⟨bp, 0, none⟩)]] w (RetB (.bool (!(zs.all EdN.ok))) w) := by
 have KK := hI (idx_G A len cap bp zs w hx hp)
 clear hx hp
 go_enter Tryz.func172, Tryz.ntmps172
 go_wp2_with fail
 refine KK.out.mono ?_
 rintro e w2 ⟨r, rfl, HR, HB⟩
 go_wp2_with fail
 go_ret
 exact ⟨ret_bool HR.out, HB⟩

theorem every_G (A : Option Addr) (len cap : Nat) (zs : List EdN) (w : World) (hx : InL 9 EdN.cells InG w A len cap zs) :
 Calls Tryz.prog 150 #[.slice A len cap, .func (.func 151) #[] #[]] w (RetB (.bool (zs.all EdN.ok)) w) := by
 have HX := hI hx
 clear hx
 go_enter Tryz.func150, Tryz.ntmps150
 go_upto_region 1 with (fail)
 obtain ⟨w1, hw1, HW1, F1⟩ := aX w 182 #[.func (.func 151) #[] #[]]
 rw [← hw1]
 clear hw1
 go_wp2_with fail
 refine (has_G A len cap w.heap.size zs w1 (InG.list HX.out HW1.out) F1.out).mono ?_
 rintro e w2 ⟨rfl, HB⟩
 go_wp2_with fail
 go_ret
 exact ⟨ret_bool (by simp), HW1.out.t HB⟩

theorem mode_p (x : MdN) (w : World) (hx : InM w x) : Calls Tryz.prog 116 #[x.val] w (RetB (.bool x.ok) w) := by
 have y := hI hx
 have G : x.s.size ≤ maxLen := hx.hs
 obtain ⟨n, l⟩ : ∃ n, nameP x.s.data.toList = n := ⟨_, rfl⟩
 obtain ⟨u, H⟩ : ∃ n, decide ((x.n : Int) ≤ 4) = n := ⟨_, rfl⟩
 obtain ⟨v, I⟩ : ∃ n, decide ((x.m : Int) ≤ 4) = n := ⟨_, rfl⟩
 obtain ⟨a, o⟩ : ∃ n, x.fl.all EqN.ok = n := ⟨_, rfl⟩
 obtain ⟨b, p⟩ : ∃ n, x.ed.all EdN.ok = n := ⟨_, rfl⟩
 have g := hI (show x.ok = (n && (u && (v && (a && b)))) by unfold MdN.ok; rw [l, H, I, o, p])
 have J := hI l
 have L := hI o
 have M := hI p
 clear hx l o p
 simp only [MdN.val]
 go_enter Tryz.func116, Tryz.ntmps116
 go_upto_region 1 with (fail)
 obtain ⟨i, z, j, k⟩ := aX w 74 #[.string x.s, .slice x.A x.n x.c, .slice x.B x.m x.d]
 rw [← z]
 clear z
 have C : i.cell? ⟨w.heap.size, 0, none⟩ = some (.string x.s) := k.out.cell 0
 have D : i.cell? ⟨w.heap.size, 1, none⟩ = some (.slice x.A x.n x.c) := k.out.cell 1
 have E : i.cell? ⟨w.heap.size, 2, none⟩ = some (.slice x.B x.m x.d) := k.out.cell 2
 go_wp2_with fail
 refine (name_any x.s i G).mono ?_
 rw [J.out]
 rintro e w2 ⟨rfl, rfl⟩
 cases n with
 | false =>
  go_wp2_with fail
  go_ret
  exact ⟨ret_bool (by rw [g.out]; rfl), j⟩
 | true =>
  cases u with
  | false =>
   go_wp2_with fail
   go_ret
   exact ⟨ret_bool (by rw [g.out]; rfl), j⟩
  | true =>
   cases v with
   | false =>
    go_wp2_with fail
    go_ret
    exact ⟨ret_bool (by rw [g.out]; rfl), j⟩
   | true =>
    go_wp2_with fail
    refine (every_Q x.A x.n x.c x.fl i (InQ.list y.out.hf j.out)).mono ?_
    rw [L.out]; rintro e w3 ⟨rfl, F⟩; have q := j.out.t F; have r := k.out.b9 F; clear C D E; have C : w3.cell? ⟨w.heap.size, 0, none⟩ = some (.string x.s) := r.out.cell 0; have D : w3.cell? ⟨w.heap.size, 1, none⟩ = some (.slice x.A x.n x.c) := r.out.cell 1; have E : w3.cell? ⟨w.heap.size, 2, none⟩ = some (.slice x.B x.m x.d) := r.out.cell 2
    cases a with
    | false =>
     go_wp2_with fail
     go_ret
     exact ⟨ret_bool (by rw [g.out]; rfl), q⟩
    | true =>
     go_wp2_with fail
     refine (every_G x.B x.m x.d x.ed w3 (InG.list y.out.he q.out)).mono ?_
     rw [M.out]; rintro e w4 ⟨rfl, N⟩
     go_wp2_with fail
     go_ret
     exact ⟨ret_bool (by rw [g.out]; rfl), q.out.t N⟩

theorem ev1_M (x : MdN) (bp : Nat) (w : World) (hx : InM w x) (hp : Blk w bp 160 #[.func (.func 116) #[] #[]]) :
 Calls Tryz.prog 147 #[x.val, .pointer (some ⟨bp, 0, none⟩)] w (RetB (.bool (!x.ok)) w) := by
 have HX := hI hx
 have HP := hI hp
 clear hx hp
 simp only [MdN.val]
 go_enter Tryz.func147, Tryz.ntmps147
 go_upto_region 1 with (fail)
 obtain ⟨w1, hw1, HW1, F1⟩ := aX w 74 #[.string x.s, .slice x.A x.n x.c, .slice x.B x.m x.d]
 rw [← hw1]
 clear hw1
 have pp : w1.cell? ⟨bp, 0, none⟩ = some (.func (.func 116) #[] #[]) := (HP.out.belowW HW1.out).cell 0
 have pr0 : w1.cell? ⟨w.heap.size, 0, none⟩ = some (.string x.s) := F1.out.cell 0
 have pr1 : w1.cell? ⟨w.heap.size, 1, none⟩ = some (.slice x.A x.n x.c) := F1.out.cell 1
 have pr2 : w1.cell? ⟨w.heap.size, 2, none⟩ = some (.slice x.B x.m x.d) := F1.out.cell 2
 go_wp2_with fail
 refine (mode_p x w1 (HX.out.belowW HW1.out)).mono ?_
 rintro e w5 ⟨rfl, HB⟩
 go_wp2_with fail
 go_ret
 exact ⟨rfl, HW1.out.t HB⟩

theorem idx_M (A : Option Addr) (len cap bp : Nat) (zs : List MdN) (w : World) (hx : InL 3 MdN.cells InM w A len cap zs) (hp : Blk w bp 160 #[.func (.func 116) #[] #[]]) :
 Calls Tryz.prog 169 #[.slice A len cap, .func (.func 147) #[] #[.pointer (some ⟨bp, 0, none⟩)]] w fun e w' => ∃ r : Int, e = .returned (.int .i64 r) ∧ Hid (decide (0 ≤ r) = !(zs.all MdN.ok)) ∧ Hid (Below w.heap.size w w') := by
 have q := hI hx
 have s := hI hp
 have u := hI hx.hl
 have F : len ≤ 9223372036854775807 := by
  have G := hx.hc; have v := hx.hm
  unfold maxLen at v
  omega
 clear hx hp
 go_enter Tryz.func169, Tryz.ntmps169
 go_wp2_with fail
 go_loopg [8] len (fun k i wr => ∃ j : Nat, i = .int .i64 j ∧ j ≤ len ∧ k = len - j ∧ Hid ((zs.take j).all MdN.ok = true) ∧ Hid (Below w.heap.size w wr))
 case atStart => exact ⟨0, rfl, by omega, by omega, by unfold Hid; simp, Below.refl _ _⟩
 obtain ⟨j, rfl, H, rfl, l, a⟩ := hrel
 have m := a.out.size
 by_cases hlt : j < len
 ·
  obtain ⟨b, o, x, y, d, n, p⟩ := InM.len (InM.list q.out a.out) j hlt; subst y; obtain ⟨I, J, L, M⟩ := MdN.cells_at p; have z := hI (take_snocA zs j x d); have B := hI (mem_takeA d); have C : decide (j < len) = true := decide_eq_true hlt; have c := hI (ev1_M x bp wr n (s.out.belowW a.out)); clear d n p
  cases hp : x.ok with
  | true =>
   rw [hp] at c
   go_wp2_with fail
   refine c.out.mono ?_
   rintro e w2 ⟨rfl, g⟩
   go_wp2_with fail
   go_roundg (len - (j + 1))
   case measure => omega
   case rel => exact ⟨j + 1, by go_num, by omega, rfl, hI (by rw [z.out, List.all_append, l.out]; simp [hp]), (hI (a.out.trans (g.out.mono m)))⟩
  | false =>
   rw [hp] at c
   go_wp2_with fail
   refine c.out.mono ?_
   rintro e w2 ⟨rfl, g⟩
   go_wp2_with fail
   go_ret
   exact ⟨j, rfl, hI (by rw [List.all_eq_false.2 ⟨x, B.out, by rw [hp]; simp⟩]; simp), (hI (a.out.trans (g.out.mono m)))⟩
 have D : j = len := by omega
 have E := hI (show zs.all MdN.ok = true by have := l.out; rwa [D, ← u.out, List.take_length] at this)
 have C : decide (j < len) = false := decide_eq_false hlt
 go_wp2_with fail
 go_ret
 exact ⟨-1, rfl, hI (by rw [E.out]; rfl), a⟩

theorem has_M (A : Option Addr) (len cap bp : Nat) (zs : List MdN) (w : World) (hx : InL 3 MdN.cells InM w A len cap zs) (hp : Blk w bp 160 #[.func (.func 116) #[] #[]]) :
 Calls Tryz.prog 146 #[.slice A len cap, .func (.func 147) #[] #[.pointer (some ⟨bp, 0, none⟩)]] w (RetB (.bool (!(zs.all MdN.ok))) w) := by
 have KK := hI (idx_M A len cap bp zs w hx hp)
 clear hx hp
 go_enter Tryz.func146, Tryz.ntmps146
 go_wp2_with fail
 refine KK.out.mono ?_
 rintro e w2 ⟨r, rfl, HR, HB⟩
 go_wp2_with fail
 go_ret
 exact ⟨ret_bool HR.out, HB⟩

theorem every_M (A : Option Addr) (len cap : Nat) (zs : List MdN) (w : World) (hx : InL 3 MdN.cells InM w A len cap zs) :
 Calls Tryz.prog 115 #[.slice A len cap, .func (.func 116) #[] #[]] w (RetB (.bool (zs.all MdN.ok)) w) := by
 have HX := hI hx
 clear hx
 go_enter Tryz.func115, Tryz.ntmps115
 go_upto_region 1 with (fail)
 obtain ⟨w1, hw1, HW1, F1⟩ := aX w 160 #[.func (.func 116) #[] #[]]
 rw [← hw1]
 clear hw1
 go_wp2_with fail
 refine (has_M A len cap w.heap.size zs w1 (InM.list HX.out HW1.out) F1.out).mono ?_
 rintro e w2 ⟨rfl, HB⟩
 go_wp2_with fail
 go_ret
 exact ⟨ret_bool (by simp), HW1.out.t HB⟩
theorem PbN.sz_iff {x : PbN} : x.sz = true ↔ 1 ≤ x.n ∧ x.n ≤ 4 ∧ x.m ≤ 4 ∧ 1 ≤ x.k ∧ x.k ≤ 8 := by
 unfold PbN.sz
 simp only [Bool.and_eq_true, decide_eq_true_eq, and_assoc]
theorem PbN.no {x : PbN} (h : ¬ (1 ≤ x.n ∧ x.n ≤ 4 ∧ x.m ≤ 4 ∧ 1 ≤ x.k ∧ x.k ≤ 8)) : x.ok = false := by
 unfold PbN.ok
 cases hs : x.sz with
 | true => exact absurd (PbN.sz_iff.1 hs) h
 | false => rfl
theorem PbN.yes {x : PbN} (h : 1 ≤ x.n ∧ x.n ≤ 4 ∧ x.m ≤ 4 ∧ 1 ≤ x.k ∧ x.k ≤ 8) : x.ok = (x.st.all DcN.ok && (x.pa.all DcN.ok && (x.ms.all MdN.ok && vB x.t x.u))) := by
 unfold PbN.ok
 rw [PbN.sz_iff.2 h]
 rfl
theorem PbN.ok_iff {x : PbN} : x.ok = true ↔ (1 ≤ x.n ∧ x.n ≤ 4 ∧ x.m ≤ 4 ∧ 1 ≤ x.k ∧ x.k ≤ 8) ∧ x.st.all DcN.ok = true ∧ x.pa.all DcN.ok = true ∧ x.ms.all MdN.ok = true ∧ vB x.t x.u = true := by
 unfold PbN.ok
 rw [Bool.and_eq_true, Bool.and_eq_true, Bool.and_eq_true, Bool.and_eq_true, PbN.sz_iff]

theorem tproblem_p (x0 : PbN) (w : World) (hx : InP w x0) : Calls Tryz.prog 70 #[x0.val] w (RetB (.bool x0.ok) w) := by
 obtain ⟨m, d, o, p, q, j, y, r, s, g, u, x, k, l⟩ := x0
 have Z := hI (show InL 5 DcN.cells InD w m d o p from hx.hs)
 have aa := hI (show InL 5 DcN.cells InD w q j y r from hx.hp)
 have ab := hI (show InL 3 MdN.cells InM w s g u x from hx.hm)
 have tL : -9223372036854775808 ≤ k := hx.t1
 have tH : k ≤ 9223372036854775807 := hx.t2
 have uL : -9223372036854775808 ≤ l := hx.u1
 have uH : l ≤ 9223372036854775807 := hx.u2
 clear hx
 simp only [PbN.val]
 go_enter Tryz.func70, Tryz.ntmps70
 go_upto_region 1 with (fail)
 obtain ⟨w1, M, z, N⟩ := aX w 68 #[.slice m d o, .slice q j y, .slice s g u, .int .i64 k, .int .i64 l]
 rw [← M]
 clear M
 obtain ⟨B, C, D, E, F⟩ := N.out.cs5
 by_cases h0 : d < 1
 case pos =>
  have O : decide ((d : Int) < 1) = true := decide_eq_true (by omega); have i := hI (show PbN.ok ⟨m, d, o, p, q, j, y, r, s, g, u, x, k, l⟩ = false from PbN.no (by simp only; omega))
  go_wp2_with fail
  go_ret
  exact ⟨ret_bool i.out.symm, z⟩
 have O : decide ((d : Int) < 1) = false := decide_eq_false (by omega)
 by_cases h1 : 4 < d
 case pos =>
  have P : decide ((4 : Int) < (d : Int)) = true := decide_eq_true (by omega); have i := hI (show PbN.ok ⟨m, d, o, p, q, j, y, r, s, g, u, x, k, l⟩ = false from PbN.no (by simp only; omega))
  go_wp2_with fail
  go_ret
  exact ⟨ret_bool i.out.symm, z⟩
 have P : decide ((4 : Int) < (d : Int)) = false := decide_eq_false (by omega)
 by_cases h2 : 4 < j
 case pos =>
  have Q : decide ((4 : Int) < (j : Int)) = true := decide_eq_true (by omega); have i := hI (show PbN.ok ⟨m, d, o, p, q, j, y, r, s, g, u, x, k, l⟩ = false from PbN.no (by simp only; omega))
  go_wp2_with fail
  go_ret
  exact ⟨ret_bool i.out.symm, z⟩
 have Q : decide ((4 : Int) < (j : Int)) = false := decide_eq_false (by omega)
 by_cases h3 : g < 1
 case pos =>
  have R : decide ((g : Int) < 1) = true := decide_eq_true (by omega); have i := hI (show PbN.ok ⟨m, d, o, p, q, j, y, r, s, g, u, x, k, l⟩ = false from PbN.no (by simp only; omega))
  go_wp2_with fail
  go_ret
  exact ⟨ret_bool i.out.symm, z⟩
 have R : decide ((g : Int) < 1) = false := decide_eq_false (by omega)
 by_cases h4 : 8 < g
 case pos =>
  have S : decide ((8 : Int) < (g : Int)) = true := decide_eq_true (by omega); have i := hI (show PbN.ok ⟨m, d, o, p, q, j, y, r, s, g, u, x, k, l⟩ = false from PbN.no (by simp only; omega))
  go_wp2_with fail
  go_ret
  exact ⟨ret_bool i.out.symm, z⟩
 have S : decide ((8 : Int) < (g : Int)) = false := decide_eq_false (by omega)
 obtain ⟨a, G⟩ : ∃ n, p.all DcN.ok = n := ⟨_, rfl⟩
 obtain ⟨b, H⟩ : ∃ n, r.all DcN.ok = n := ⟨_, rfl⟩
 obtain ⟨c, hc⟩ : ∃ n, x.all MdN.ok = n := ⟨_, rfl⟩
 obtain ⟨v, I⟩ : ∃ n, vB k l = n := ⟨_, rfl⟩
 have i := hI (show PbN.ok ⟨m, d, o, p, q, j, y, r, s, g, u, x, k, l⟩ = (a && (b && (c && v))) by rw [PbN.yes (by simp only; omega)]; simp only [G, H, hc, I])
 have HA := hI G
 have HB := hI H
 have HC := hI hc
 have HV := hI I
 clear G H hc I
 go_wp2_with fail
 clear O P Q R S
 refine (every_D m d o p w1 (InD.list Z.out z.out)).mono ?_
 rw [HA.out]
 rintro e w2 ⟨rfl, T⟩
 have J := z.out.t T
 have U := N.out.b9 T
 clear B C D E F
 obtain ⟨B, C, D, E, F⟩ := U.out.cs5
 cases a with
 | false =>
  go_wp2_with fail
  go_ret
  exact ⟨ret_bool (by rw [i.out]; rfl), J⟩
 | true =>
  go_wp2_with fail
  refine (every_D q j _ r w2 (InD.list aa.out J.out)).mono ?_
  rw [HB.out]; rintro e w3 ⟨rfl, V⟩; have L := J.out.t V; have W := U.out.b9 V; clear B C D E F; obtain ⟨B, C, D, E, F⟩ := W.out.cs5
  cases b with
  | false =>
   go_wp2_with fail
   go_ret
   exact ⟨ret_bool (by rw [i.out]; rfl), L⟩
  | true =>
   go_wp2_with fail
   refine (every_M s g u x w3 (InM.list ab.out L.out)).mono ?_
   rw [HC.out]; rintro e w4 ⟨rfl, X⟩; have Y := L.out.t X; clear B C D E F; obtain ⟨B, C, D, E, F⟩ := (W.out.belowW X.out).cs5
   cases c with
   | false =>
    go_wp2_with fail
    go_ret
    exact ⟨ret_bool (by rw [i.out]; rfl), Y⟩
   | true =>
    go_wp2_with fail
    refine (valid_q k l w4 tL tH uL uH).mono ?_
    rw [HV.out]; rintro e w5 ⟨rfl, al⟩
    go_wp2_with fail
    go_ret
    exact ⟨ret_bool (by rw [i.out]; rfl), Y.out.t al⟩
end Go.Proofs.YtkjoohnndobjeaaGreatDoor
