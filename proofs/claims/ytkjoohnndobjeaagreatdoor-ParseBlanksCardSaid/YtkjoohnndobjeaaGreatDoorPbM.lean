/-
  The walks of the tests whether parts of problems are equal (the law's problems).
-/
import Derived.Test.YtkjoohnndobjeaaGreatDoorQb
set_option linter.unusedVariables false
set_option maxHeartbeats 4000000
set_option maxRecDepth 100000
namespace Go.Proofs.YtkjoohnndobjeaaGreatDoor
open Go.RowKit Go.Fl Go.Fl.Lx Go.Fl.Nm Go.Fl.Fm Go.Fl.Rt Go.Fl.Pa
open List (setIfInBounds_toArray set_cons_zero set_cons_succ getElem_toArray getElem_cons_zero getElem_cons_succ)

theorem peq_el (x y : EqN) (w : World) (hx : InQ w x) (hy : InQ w y) : Calls Tryz.prog 72 #[x.val, y.val] w (EqR x.pl y.pl w) := by
 have O := hI hx
 have P := hI hy
 clear hx hy
 obtain ⟨m, i⟩ : ∃ c, (x.s == y.s) = c := ⟨_, rfl⟩
 have S := str_beq _ _ _ i
 have j := hI (show x.pl = y.pl ↔ m = true ∧ x.T = y.T from ⟨fun e => by
  injection e with e1 e2
  exact ⟨(str_iff i).2 e1, e2⟩, fun e => by
  unfold EqN.pl
  rw [(str_iff i).1 e.1, e.2]⟩)
 go_enter Tryz.func72, Tryz.ntmps72
 go_upto_region 1 with (fail)
 obtain ⟨a, b⟩ := eX ((w.alloc (Obj.cells #[.string x.s, .int .i64 x.v.h.kind, .int .i64 x.v.h.n, .int .i64 x.v.h.d, .string x.v.h.name, .int .i64 x.v.h.k, .slice x.v.A x.v.len x.v.cap] 78)).alloc (Obj.cells #[.string y.s, .int .i64 y.v.h.kind, .int .i64 y.v.h.n, .int .i64 y.v.h.d, .string y.v.h.name, .int .i64 y.v.h.k, .slice y.v.A y.v.len y.v.cap] 78))
 have g := hI (show Below w.heap.size w a by rw [b]; exact (below_box _ _).trans ((below_box _ _).mono (by simp)))
 have o := hI (show Blk a w.heap.size 78 #[.string x.s, .int .i64 x.v.h.kind, .int .i64 x.v.h.n, .int .i64 x.v.h.d, .string x.v.h.name, .int .i64 x.v.h.k, .slice x.v.A x.v.len x.v.cap] by rw [b]; exact (Blk.new w 78 #[.string x.s, .int .i64 x.v.h.kind, .int .i64 x.v.h.n, .int .i64 x.v.h.d, .string x.v.h.name, .int .i64 x.v.h.k, .slice x.v.A x.v.len x.v.cap]).belowW (below_box _ _))
 have p := hI (show Blk a (w.heap.size + 1) 78 #[.string y.s, .int .i64 y.v.h.kind, .int .i64 y.v.h.n, .int .i64 y.v.h.d, .string y.v.h.name, .int .i64 y.v.h.k, .slice y.v.A y.v.len y.v.cap] by rw [b]; exact (by have := Blk.new (w.alloc (Obj.cells #[.string x.s, .int .i64 x.v.h.kind, .int .i64 x.v.h.n, .int .i64 x.v.h.d, .string x.v.h.name, .int .i64 x.v.h.k, .slice x.v.A x.v.len x.v.cap] 78)) 78 #[.string y.s, .int .i64 y.v.h.kind, .int .i64 y.v.h.n, .int .i64 y.v.h.d, .string y.v.h.name, .int .i64 y.v.h.k, .slice y.v.A y.v.len y.v.cap]; simpa using this))
 rw [← b]
 clear b
 obtain ⟨q, _, r, _, u, _, z, _, B, _, C, _, D, _⟩ := o.out.all7
 obtain ⟨E, _, F, _, G, _, H, _, I, _, J, _, L, _⟩ := p.out.all7
 cases m with
 | false =>
  go_wp2_with fail
  go_ret
  exact ⟨_, rfl, hI ⟨fun h => (by cases h), fun h => (by have := (j.out.1 h).1; cases this)⟩, g⟩
 | true =>
  go_wp2_with fail
  refine (show Calls Tryz.prog 17 #[.agg #[.int .i64 x.v.h.kind, .int .i64 x.v.h.n, .int .i64 x.v.h.d, .string x.v.h.name, .int .i64 x.v.h.k, .slice x.v.A x.v.len x.v.cap], .agg #[.int .i64 y.v.h.kind, .int .i64 y.v.h.n, .int .i64 y.v.h.d, .string y.v.h.name, .int .i64 y.v.h.k, .slice y.v.A y.v.len y.v.cap]] a _ from same_any _ x.T (Nat.le_refl _) y.T x.v y.v a (O.out.e.belowW g.out) (P.out.e.belowW g.out)).mono ?_
  rintro e w3 ⟨Q, rfl, M, l⟩; have N := g.out.t l; clear q E r F u G z H B I C J D L; obtain ⟨q, _, r, _, u, _, z, _, B, _, C, _, D, _⟩ := (o.out.belowW l.out).all7; obtain ⟨E, _, F, _, G, _, H, _, I, _, J, _, L, _⟩ := (p.out.belowW l.out).all7
  cases Q with
  | false =>
   go_wp2_with fail
   go_ret
   exact ⟨_, rfl, hI ⟨fun h => (by cases h), fun h => (by have := M.out.2 ((j.out.1 h).2); cases this)⟩, N⟩
  | true =>
   have R := hI (M.out.1 rfl)
   go_wp2_with fail
   go_ret
   exact ⟨_, rfl, hI ⟨fun _ => j.out.2 ⟨(by trivial), R.out⟩, fun _ => rfl⟩, N⟩

theorem peq_eqf (A : Option Addr) (len cap : Nat) (zs : List EqN) (A2 : Option Addr) (len2 cap2 : Nat) (ys : List EqN) (w : World) (hx : InL 7 EqN.cells InQ w A len cap zs) (hy : InL 7 EqN.cells InQ w A2 len2 cap2 ys)
 (ih : ∀ (x y : EqN) (w' : World), Below w.heap.size w w' → InQ w' x → InQ w' y → Calls Tryz.prog 72 #[x.val, y.val] w' (EqR x.pl y.pl w')) :
 Calls Tryz.prog 77 #[.slice A len cap, .slice A2 len2 cap2, .func (.func 72) #[] #[]] w (EqR (zs.map EqN.pl) (ys.map EqN.pl) w) := by
 have S := hI hx
 have T := hI hy
 have U := hI ih
 have B := hI hx.hl
 have C := hI hy.hl
 have an : len ≤ 9223372036854775807 := by
  have h1 := hx.hc; have V := hx.hm
  unfold maxLen at V
  omega
 clear hx hy ih
 by_cases hll : len = len2
 case neg =>
  have W : ((len : Int) != (len2 : Int)) = true := (by rw [bne_iff_ne]; omega); have d2 : (len != len2) = true := (by rw [bne_iff_ne]; exact hll)
  go_enter Tryz.func77, Tryz.ntmps77
  go_wp2_with fail
  go_ret
  exact ⟨_, rfl, hI ⟨fun h => (by cases h), fun h => absurd (by have := congrArg List.length h; rw [List.length_map, List.length_map, B.out, C.out] at this; exact this) hll⟩, hI (Below.refl _ _)⟩
 subst hll
 have W : ((len : Int) != (len : Int)) = false := by simp
 go_enter Tryz.func77, Tryz.ntmps77
 go_wp2_with fail
 go_loopg [17] len (fun gk d wr => ∃ i : Nat, d = .int .i64 (i : Nat) ∧ i ≤ len ∧ gk = len - i ∧ Hid ((zs.take i).map EqN.pl = (ys.take i).map EqN.pl) ∧ Hid (Below w.heap.size w wr))
 case atStart => exact ⟨0, rfl, Nat.zero_le _, rfl, hI (by simp), hI (Below.refl _ _)⟩
 obtain ⟨i, rfl, hi, rfl, D, a⟩ := hrel
 have X := a.out.size
 by_cases hlt : i < len
 ·
  obtain ⟨b, o, x, Y, E, hx, F⟩ := InQ.len (InQ.list S.out a.out) i hlt; obtain ⟨b2, o2, y, Z, G, hy, H⟩ := InQ.len (InQ.list T.out a.out) i hlt; subst Y Z; have d3 : decide ((i : Int) < (len : Int)) = true := decide_eq_true (by omega); have d4 : decide (i < len) = true := decide_eq_true hlt; have av : 0 ≤ (i : Int) ∧ (i : Int) < (len : Int) := (by omega); have ac := hI hx; have ad := hI hy; have EY := hI H; have I := hI E; have J := hI G; obtain ⟨c, g, j, l, m, p, q, u⟩ := EqN.cells_at F; clear hx hy H F E G
  go_upto_region 6 with (fail)
  obtain ⟨w1, L, M, E1⟩ := aX wr 78 #[.string x.s, .int .i64 x.v.h.kind, .int .i64 x.v.h.n, .int .i64 x.v.h.d, .string x.v.h.name, .int .i64 x.v.h.k, .slice x.v.A x.v.len x.v.cap]; rw [← L]; clear L c g j l m p q u; obtain ⟨c, g, j, l, m, p, q, u⟩ := EqN.cells_at (EY.out.belowW M.out)
  go_upto_region 7 with (fail)
  obtain ⟨w2, N, O, E2⟩ := aX w1 78 #[.string y.s, .int .i64 y.v.h.kind, .int .i64 y.v.h.n, .int .i64 y.v.h.d, .string y.v.h.name, .int .i64 y.v.h.k, .slice y.v.A y.v.len y.v.cap]; rw [← N]; clear N c g j l m p q u; have z := M.out.t O; have P := hI (a.out.trans (z.out.mono X)); obtain ⟨p0, _, p1, _, p2, _, p3, _, p4, _, p5, _, p6, _⟩ := (E1.out.belowW O.out).all7; obtain ⟨q0, _, q1, _, q2, _, q3, _, q4, _, q5, _, q6, _⟩ := E2.out.all7
  go_wp2_with fail
  refine (U.out x y w2 P.out (ac.out.belowW z.out) (ad.out.belowW z.out)).mono ?_
  rintro e w3 ⟨r, rfl, Q, aj⟩; have R := P.out.t aj
  cases r with
  | false =>
   go_wp2_with fail
   go_ret
   exact ⟨_, rfl, hI ⟨fun h => (by cases h), fun h => absurd h (map_ne _ I.out J.out (fun e => by have := Q.out.2 e; cases this))⟩, R⟩
  | true =>
   have ak := hI (Q.out.1 rfl); have e1 : IntKind.i64.wrap ((i : Int) + 1) = (i : Int) + 1 := (by rw [IntKind.wrap_i64]; omega)
   go_wp2_with fail
   go_roundg (len - (i + 1))
   case measure => omega
   case rel => exact ⟨i + 1, by go_num, by omega, rfl, hI (by rw [take_snocA _ _ _ I.out, take_snocA _ _ _ J.out, List.map_append, List.map_append, D.out]; simp [ak.out]), R⟩
 have d3 : decide ((i : Int) < (len : Int)) = false := decide_eq_false (by omega)
 have d4 : decide (i < len) = false := decide_eq_false hlt
 have al : i = len := by omega
 have HF := hI (show zs.map EqN.pl = ys.map EqN.pl by
  have := D.out
  rw [al, List.take_of_length_le (by rw [B.out]; exact Nat.le_refl _), List.take_of_length_le (by rw [C.out]; exact Nat.le_refl _)] at this
  exact this)
 go_wp2_with fail
 go_ret
 exact ⟨_, rfl, hI ⟨fun _ => HF.out, fun _ => rfl⟩, a⟩

theorem per_el (x y : EqN) (w : World) (hx : InQ w x) (hy : InQ w y) : Calls Tryz.prog 73 #[x.val, y.val] w (EqR x.pl y.pl w) := by
 have O := hI hx
 have P := hI hy
 clear hx hy
 obtain ⟨m, i⟩ : ∃ c, (x.s == y.s) = c := ⟨_, rfl⟩
 have S := str_beq _ _ _ i
 have j := hI (show x.pl = y.pl ↔ m = true ∧ x.T = y.T from ⟨fun e => by
  injection e with e1 e2
  exact ⟨(str_iff i).2 e1, e2⟩, fun e => by
  unfold EqN.pl
  rw [(str_iff i).1 e.1, e.2]⟩)
 go_enter Tryz.func73, Tryz.ntmps73
 go_upto_region 1 with (fail)
 obtain ⟨a, b⟩ := eX ((w.alloc (Obj.cells #[.string x.s, .int .i64 x.v.h.kind, .int .i64 x.v.h.n, .int .i64 x.v.h.d, .string x.v.h.name, .int .i64 x.v.h.k, .slice x.v.A x.v.len x.v.cap] 82)).alloc (Obj.cells #[.string y.s, .int .i64 y.v.h.kind, .int .i64 y.v.h.n, .int .i64 y.v.h.d, .string y.v.h.name, .int .i64 y.v.h.k, .slice y.v.A y.v.len y.v.cap] 82))
 have g := hI (show Below w.heap.size w a by rw [b]; exact (below_box _ _).trans ((below_box _ _).mono (by simp)))
 have o := hI (show Blk a w.heap.size 82 #[.string x.s, .int .i64 x.v.h.kind, .int .i64 x.v.h.n, .int .i64 x.v.h.d, .string x.v.h.name, .int .i64 x.v.h.k, .slice x.v.A x.v.len x.v.cap] by rw [b]; exact (Blk.new w 82 #[.string x.s, .int .i64 x.v.h.kind, .int .i64 x.v.h.n, .int .i64 x.v.h.d, .string x.v.h.name, .int .i64 x.v.h.k, .slice x.v.A x.v.len x.v.cap]).belowW (below_box _ _))
 have p := hI (show Blk a (w.heap.size + 1) 82 #[.string y.s, .int .i64 y.v.h.kind, .int .i64 y.v.h.n, .int .i64 y.v.h.d, .string y.v.h.name, .int .i64 y.v.h.k, .slice y.v.A y.v.len y.v.cap] by rw [b]; exact (by have := Blk.new (w.alloc (Obj.cells #[.string x.s, .int .i64 x.v.h.kind, .int .i64 x.v.h.n, .int .i64 x.v.h.d, .string x.v.h.name, .int .i64 x.v.h.k, .slice x.v.A x.v.len x.v.cap] 82)) 82 #[.string y.s, .int .i64 y.v.h.kind, .int .i64 y.v.h.n, .int .i64 y.v.h.d, .string y.v.h.name, .int .i64 y.v.h.k, .slice y.v.A y.v.len y.v.cap]; simpa using this))
 rw [← b]
 clear b
 obtain ⟨q, _, r, _, u, _, z, _, B, _, C, _, D, _⟩ := o.out.all7
 obtain ⟨E, _, F, _, G, _, H, _, I, _, J, _, L, _⟩ := p.out.all7
 cases m with
 | false =>
  go_wp2_with fail
  go_ret
  exact ⟨_, rfl, hI ⟨fun h => (by cases h), fun h => (by have := (j.out.1 h).1; cases this)⟩, g⟩
 | true =>
  go_wp2_with fail
  refine (show Calls Tryz.prog 17 #[.agg #[.int .i64 x.v.h.kind, .int .i64 x.v.h.n, .int .i64 x.v.h.d, .string x.v.h.name, .int .i64 x.v.h.k, .slice x.v.A x.v.len x.v.cap], .agg #[.int .i64 y.v.h.kind, .int .i64 y.v.h.n, .int .i64 y.v.h.d, .string y.v.h.name, .int .i64 y.v.h.k, .slice y.v.A y.v.len y.v.cap]] a _ from same_any _ x.T (Nat.le_refl _) y.T x.v y.v a (O.out.e.belowW g.out) (P.out.e.belowW g.out)).mono ?_
  rintro e w3 ⟨Q, rfl, M, l⟩; have N := g.out.t l; clear q E r F u G z H B I C J D L; obtain ⟨q, _, r, _, u, _, z, _, B, _, C, _, D, _⟩ := (o.out.belowW l.out).all7; obtain ⟨E, _, F, _, G, _, H, _, I, _, J, _, L, _⟩ := (p.out.belowW l.out).all7
  cases Q with
  | false =>
   go_wp2_with fail
   go_ret
   exact ⟨_, rfl, hI ⟨fun h => (by cases h), fun h => (by have := M.out.2 ((j.out.1 h).2); cases this)⟩, N⟩
  | true =>
   have R := hI (M.out.1 rfl)
   go_wp2_with fail
   go_ret
   exact ⟨_, rfl, hI ⟨fun _ => j.out.2 ⟨(by trivial), R.out⟩, fun _ => rfl⟩, N⟩

theorem per_eqf (A : Option Addr) (len cap : Nat) (zs : List EqN) (A2 : Option Addr) (len2 cap2 : Nat) (ys : List EqN) (w : World) (hx : InL 7 EqN.cells InQ w A len cap zs) (hy : InL 7 EqN.cells InQ w A2 len2 cap2 ys)
 (ih : ∀ (x y : EqN) (w' : World), Below w.heap.size w w' → InQ w' x → InQ w' y → Calls Tryz.prog 73 #[x.val, y.val] w' (EqR x.pl y.pl w')) :
 Calls Tryz.prog 75 #[.slice A len cap, .slice A2 len2 cap2, .func (.func 73) #[] #[]] w (EqR (zs.map EqN.pl) (ys.map EqN.pl) w) := by
 have S := hI hx
 have T := hI hy
 have U := hI ih
 have B := hI hx.hl
 have C := hI hy.hl
 have an : len ≤ 9223372036854775807 := by
  have h1 := hx.hc; have V := hx.hm
  unfold maxLen at V
  omega
 clear hx hy ih
 by_cases hll : len = len2
 case neg =>
  have W : ((len : Int) != (len2 : Int)) = true := (by rw [bne_iff_ne]; omega); have d2 : (len != len2) = true := (by rw [bne_iff_ne]; exact hll)
  go_enter Tryz.func75, Tryz.ntmps75
  go_wp2_with fail
  go_ret
  exact ⟨_, rfl, hI ⟨fun h => (by cases h), fun h => absurd (by have := congrArg List.length h; rw [List.length_map, List.length_map, B.out, C.out] at this; exact this) hll⟩, hI (Below.refl _ _)⟩
 subst hll
 have W : ((len : Int) != (len : Int)) = false := by simp
 go_enter Tryz.func75, Tryz.ntmps75
 go_wp2_with fail
 go_loopg [17] len (fun gk d wr => ∃ i : Nat, d = .int .i64 (i : Nat) ∧ i ≤ len ∧ gk = len - i ∧ Hid ((zs.take i).map EqN.pl = (ys.take i).map EqN.pl) ∧ Hid (Below w.heap.size w wr))
 case atStart => exact ⟨0, rfl, Nat.zero_le _, rfl, hI (by simp), hI (Below.refl _ _)⟩
 obtain ⟨i, rfl, hi, rfl, D, a⟩ := hrel
 have X := a.out.size
 by_cases hlt : i < len
 ·
  obtain ⟨b, o, x, Y, E, hx, F⟩ := InQ.len (InQ.list S.out a.out) i hlt; obtain ⟨b2, o2, y, Z, G, hy, H⟩ := InQ.len (InQ.list T.out a.out) i hlt; subst Y Z; have d3 : decide ((i : Int) < (len : Int)) = true := decide_eq_true (by omega); have d4 : decide (i < len) = true := decide_eq_true hlt; have av : 0 ≤ (i : Int) ∧ (i : Int) < (len : Int) := (by omega); have ac := hI hx; have ad := hI hy; have EY := hI H; have I := hI E; have J := hI G; obtain ⟨c, g, j, l, m, p, q, u⟩ := EqN.cells_at F; clear hx hy H F E G
  go_upto_region 6 with (fail)
  obtain ⟨w1, L, M, E1⟩ := aX wr 82 #[.string x.s, .int .i64 x.v.h.kind, .int .i64 x.v.h.n, .int .i64 x.v.h.d, .string x.v.h.name, .int .i64 x.v.h.k, .slice x.v.A x.v.len x.v.cap]; rw [← L]; clear L c g j l m p q u; obtain ⟨c, g, j, l, m, p, q, u⟩ := EqN.cells_at (EY.out.belowW M.out)
  go_upto_region 7 with (fail)
  obtain ⟨w2, N, O, E2⟩ := aX w1 82 #[.string y.s, .int .i64 y.v.h.kind, .int .i64 y.v.h.n, .int .i64 y.v.h.d, .string y.v.h.name, .int .i64 y.v.h.k, .slice y.v.A y.v.len y.v.cap]; rw [← N]; clear N c g j l m p q u; have z := M.out.t O; have P := hI (a.out.trans (z.out.mono X)); obtain ⟨p0, _, p1, _, p2, _, p3, _, p4, _, p5, _, p6, _⟩ := (E1.out.belowW O.out).all7; obtain ⟨q0, _, q1, _, q2, _, q3, _, q4, _, q5, _, q6, _⟩ := E2.out.all7
  go_wp2_with fail
  refine (U.out x y w2 P.out (ac.out.belowW z.out) (ad.out.belowW z.out)).mono ?_
  rintro e w3 ⟨r, rfl, Q, aj⟩; have R := P.out.t aj
  cases r with
  | false =>
   go_wp2_with fail
   go_ret
   exact ⟨_, rfl, hI ⟨fun h => (by cases h), fun h => absurd h (map_ne _ I.out J.out (fun e => by have := Q.out.2 e; cases this))⟩, R⟩
  | true =>
   have ak := hI (Q.out.1 rfl); have e1 : IntKind.i64.wrap ((i : Int) + 1) = (i : Int) + 1 := (by rw [IntKind.wrap_i64]; omega)
   go_wp2_with fail
   go_roundg (len - (i + 1))
   case measure => omega
   case rel => exact ⟨i + 1, by go_num, by omega, rfl, hI (by rw [take_snocA _ _ _ I.out, take_snocA _ _ _ J.out, List.map_append, List.map_append, D.out]; simp [ak.out]), R⟩
 have d3 : decide ((i : Int) < (len : Int)) = false := decide_eq_false (by omega)
 have d4 : decide (i < len) = false := decide_eq_false hlt
 have al : i = len := by omega
 have HF := hI (show zs.map EqN.pl = ys.map EqN.pl by
  have := D.out
  rw [al, List.take_of_length_le (by rw [B.out]; exact Nat.le_refl _), List.take_of_length_le (by rw [C.out]; exact Nat.le_refl _)] at this
  exact this)
 go_wp2_with fail
 go_ret
 exact ⟨_, rfl, hI ⟨fun _ => HF.out, fun _ => rfl⟩, a⟩

theorem peg_el (pr : Nat) (x y : EdN) (w : World) (hx : InG w x) (hy : InG w y) (hp : Blk w pr 124 #[.func (.func 73) #[] #[]]) : Calls Tryz.prog 74 #[x.val, y.val, .pointer (some ⟨pr, 0, none⟩)] w (EqR x.pl y.pl w) := by
 have U := hI hx
 have V := hI hy
 clear hx hy
 obtain ⟨W, X⟩ : ∃ c, (x.dir == y.dir) = c := ⟨_, rfl⟩
 obtain ⟨Y, P⟩ : ∃ c, (x.tn == y.tn) = c := ⟨_, rfl⟩
 have an := str_beq _ _ _ P
 have HP := hI hp
 clear hp
 have b := hI (show x.pl = y.pl ↔ x.T = y.T ∧ W = true ∧ Y = true ∧ x.rs.map EqN.pl = y.rs.map EqN.pl from ⟨fun e => by
  injection e with Q j R S
  exact ⟨Q, by rw [← X, j]; simp, (str_iff P).2 R, S⟩, fun e => by
  obtain ⟨Q, j, R, S⟩ := e; rw [← X, beq_iff_eq] at j
  unfold EdN.pl
  rw [Q, j, (str_iff P).1 R, S]⟩)
 go_enter Tryz.func74, Tryz.ntmps74
 go_upto_region 1 with (fail)
 obtain ⟨g, i⟩ := eX ((w.alloc (Obj.cells #[.int .i64 x.v.h.kind, .int .i64 x.v.h.n, .int .i64 x.v.h.d, .string x.v.h.name, .int .i64 x.v.h.k, .slice x.v.A x.v.len x.v.cap, .int .i64 x.dir, .string x.tn, .slice x.A x.len x.cap] 81)).alloc (Obj.cells #[.int .i64 y.v.h.kind, .int .i64 y.v.h.n, .int .i64 y.v.h.d, .string y.v.h.name, .int .i64 y.v.h.k, .slice y.v.A y.v.len y.v.cap, .int .i64 y.dir, .string y.tn, .slice y.A y.len y.cap] 81))
 have l := hI (show Below w.heap.size w g by rw [i]; exact (below_box _ _).trans ((below_box _ _).mono (by simp)))
 have Z := hI (show Blk g w.heap.size 81 #[.int .i64 x.v.h.kind, .int .i64 x.v.h.n, .int .i64 x.v.h.d, .string x.v.h.name, .int .i64 x.v.h.k, .slice x.v.A x.v.len x.v.cap, .int .i64 x.dir, .string x.tn, .slice x.A x.len x.cap] by rw [i]; exact (Blk.new w 81 #[.int .i64 x.v.h.kind, .int .i64 x.v.h.n, .int .i64 x.v.h.d, .string x.v.h.name, .int .i64 x.v.h.k, .slice x.v.A x.v.len x.v.cap, .int .i64 x.dir, .string x.tn, .slice x.A x.len x.cap]).belowW (below_box _ _))
 have E2 := hI (show Blk g (w.heap.size + 1) 81 #[.int .i64 y.v.h.kind, .int .i64 y.v.h.n, .int .i64 y.v.h.d, .string y.v.h.name, .int .i64 y.v.h.k, .slice y.v.A y.v.len y.v.cap, .int .i64 y.dir, .string y.tn, .slice y.A y.len y.cap] by rw [i]; exact (by have := Blk.new (w.alloc (Obj.cells #[.int .i64 x.v.h.kind, .int .i64 x.v.h.n, .int .i64 x.v.h.d, .string x.v.h.name, .int .i64 x.v.h.k, .slice x.v.A x.v.len x.v.cap, .int .i64 x.dir, .string x.tn, .slice x.A x.len x.cap] 81)) 81 #[.int .i64 y.v.h.kind, .int .i64 y.v.h.n, .int .i64 y.v.h.d, .string y.v.h.name, .int .i64 y.v.h.k, .slice y.v.A y.v.len y.v.cap, .int .i64 y.dir, .string y.tn, .slice y.A y.len y.cap]; simpa using this))
 rw [← i]
 clear i
 have ab := HP.out.b9 l
 obtain ⟨m, _, o, _, p, _, q, _, r, _, s, _, u, _, z, _, B, _⟩ := Z.out.all9
 obtain ⟨C, _, D, _, E, _, F, _, G, _, H, _, I, _, J, _, L, _⟩ := E2.out.all9
 obtain ⟨M, _⟩ := ab.out.all1
 go_wp2_with fail
 refine (show Calls Tryz.prog 17 #[.agg #[.int .i64 x.v.h.kind, .int .i64 x.v.h.n, .int .i64 x.v.h.d, .string x.v.h.name, .int .i64 x.v.h.k, .slice x.v.A x.v.len x.v.cap], .agg #[.int .i64 y.v.h.kind, .int .i64 y.v.h.n, .int .i64 y.v.h.d, .string y.v.h.name, .int .i64 y.v.h.k, .slice y.v.A y.v.len y.v.cap]] g _ from same_any _ x.T (Nat.le_refl _) y.T x.v y.v g (U.out.e.belowW l.out) (V.out.e.belowW l.out)).mono ?_
 rintro e w3 ⟨r3, rfl, ac, N⟩
 have a := l.out.t N
 have ad := Z.out.b9 N
 have ae := E2.out.b9 N
 have af := ab.out.b9 N
 clear m C o D p E q F r G s H u I z J B L M
 obtain ⟨m, _, o, _, p, _, q, _, r, _, s, _, u, _, z, _, B, _⟩ := ad.out.all9
 obtain ⟨C, _, D, _, E, _, F, _, G, _, H, _, I, _, J, _, L, _⟩ := ae.out.all9
 obtain ⟨M, _⟩ := af.out.all1
 cases r3 with
 | false =>
  go_wp2_with fail
  go_ret
  exact ⟨_, rfl, hI ⟨fun h => (by cases h), fun h => (by have := ac.out.2 ((b.out.1 h).1); cases this)⟩, a⟩
 | true =>
  have ak := hI (ac.out.1 rfl)
  cases W with
  | false =>
   go_wp2_with fail
   go_ret
   exact ⟨_, rfl, hI ⟨fun h => (by cases h), fun h => (by have := (b.out.1 h).2.1; cases this)⟩, a⟩
  | true =>
   cases Y with
   | false =>
    go_wp2_with fail
    go_ret
    exact ⟨_, rfl, hI ⟨fun h => (by cases h), fun h => (by have := (b.out.1 h).2.2.1; cases this)⟩, a⟩
   | true =>
    go_wp2_with fail
    refine (per_eqf x.A x.len x.cap x.rs y.A y.len y.cap y.rs w3 (InQ.list U.out.hr a.out) (InQ.list V.out.hr a.out) (fun x y w' _ hx hy => per_el x y w' hx hy)).mono ?_
    rintro e w4 ⟨r4, rfl, ag, O⟩; have ah := a.out.t O; clear m C o D p E q F r G s H u I z J B L M; obtain ⟨m, _, o, _, p, _, q, _, r, _, s, _, u, _, z, _, B, _⟩ := (ad.out.belowW O.out).all9; obtain ⟨C, _, D, _, E, _, F, _, G, _, H, _, I, _, J, _, L, _⟩ := (ae.out.belowW O.out).all9; obtain ⟨M, _⟩ := (af.out.belowW O.out).all1
    cases r4 with
    | false =>
     go_wp2_with fail
     go_ret
     exact ⟨_, rfl, hI ⟨fun h => (by cases h), fun h => (by have := ag.out.2 ((b.out.1 h).2.2.2); cases this)⟩, ah⟩
    | true =>
     have am := hI (ag.out.1 rfl)
     go_wp2_with fail
     go_ret
     exact ⟨_, rfl, hI ⟨fun _ => b.out.2 ⟨ak.out, (by trivial), (by trivial), am.out⟩, fun _ => rfl⟩, ah⟩

theorem peg_eqf (pr : Nat) (A : Option Addr) (len cap : Nat) (zs : List EdN) (A2 : Option Addr) (len2 cap2 : Nat) (ys : List EdN) (w : World) (hx : InL 9 EdN.cells InG w A len cap zs) (hy : InL 9 EdN.cells InG w A2 len2 cap2 ys)
 (ih : ∀ (x y : EdN) (w' : World), Below w.heap.size w w' → InG w' x → InG w' y → Calls Tryz.prog 74 #[x.val, y.val, .pointer (some ⟨pr, 0, none⟩)] w' (EqR x.pl y.pl w')) :
 Calls Tryz.prog 78 #[.slice A len cap, .slice A2 len2 cap2, .func (.func 74) #[] #[.pointer (some ⟨pr, 0, none⟩)]] w (EqR (zs.map EdN.pl) (ys.map EdN.pl) w) := by
 have T := hI hx
 have U := hI hy
 have V := hI ih
 have C := hI hx.hl
 have D := hI hy.hl
 have ao : len ≤ 9223372036854775807 := by
  have h1 := hx.hc; have W := hx.hm
  unfold maxLen at W
  omega
 clear hx hy ih
 by_cases hll : len = len2
 case neg =>
  have X : ((len : Int) != (len2 : Int)) = true := (by rw [bne_iff_ne]; omega); have d2 : (len != len2) = true := (by rw [bne_iff_ne]; exact hll)
  go_enter Tryz.func78, Tryz.ntmps78
  go_wp2_with fail
  go_ret
  exact ⟨_, rfl, hI ⟨fun h => (by cases h), fun h => absurd (by have := congrArg List.length h; rw [List.length_map, List.length_map, C.out, D.out] at this; exact this) hll⟩, hI (Below.refl _ _)⟩
 subst hll
 have X : ((len : Int) != (len : Int)) = false := by simp
 go_enter Tryz.func78, Tryz.ntmps78
 go_wp2_with fail
 go_loopg [17] len (fun gk d wr => ∃ i : Nat, d = .int .i64 (i : Nat) ∧ i ≤ len ∧ gk = len - i ∧ Hid ((zs.take i).map EdN.pl = (ys.take i).map EdN.pl) ∧ Hid (Below w.heap.size w wr))
 case atStart => exact ⟨0, rfl, Nat.zero_le _, rfl, hI (by simp), hI (Below.refl _ _)⟩
 obtain ⟨i, rfl, hi, rfl, E, a⟩ := hrel
 have Y := a.out.size
 by_cases hlt : i < len
 ·
  obtain ⟨b, o, x, Z, F, hx, G⟩ := InG.len (InG.list T.out a.out) i hlt; obtain ⟨b2, o2, y, aa, H, hy, I⟩ := InG.len (InG.list U.out a.out) i hlt; subst Z aa; have d3 : decide ((i : Int) < (len : Int)) = true := decide_eq_true (by omega); have d4 : decide (i < len) = true := decide_eq_true hlt; have aw : 0 ≤ (i : Int) ∧ (i : Int) < (len : Int) := (by omega); have ad := hI hx; have ae := hI hy; have EY := hI I; have J := hI F; have L := hI H; obtain ⟨c, g, j, l, m, p, q, s, u, z⟩ := EdN.cells_at G; clear hx hy I G F H
  go_upto_region 6 with (fail)
  obtain ⟨w1, M, N, E1⟩ := aX wr 81 #[.int .i64 x.v.h.kind, .int .i64 x.v.h.n, .int .i64 x.v.h.d, .string x.v.h.name, .int .i64 x.v.h.k, .slice x.v.A x.v.len x.v.cap, .int .i64 x.dir, .string x.tn, .slice x.A x.len x.cap]; rw [← M]; clear M c g j l m p q s u z; obtain ⟨c, g, j, l, m, p, q, s, u, z⟩ := EdN.cells_at (EY.out.belowW N.out)
  go_upto_region 7 with (fail)
  obtain ⟨w2, O, P, E2⟩ := aX w1 81 #[.int .i64 y.v.h.kind, .int .i64 y.v.h.n, .int .i64 y.v.h.d, .string y.v.h.name, .int .i64 y.v.h.k, .slice y.v.A y.v.len y.v.cap, .int .i64 y.dir, .string y.tn, .slice y.A y.len y.cap]; rw [← O]; clear O c g j l m p q s u z; have B := N.out.t P; have Q := hI (a.out.trans (B.out.mono Y)); obtain ⟨p0, _, p1, _, p2, _, p3, _, p4, _, p5, _, p6, _, p7, _, p8, _⟩ := (E1.out.belowW P.out).all9; obtain ⟨q0, _, q1, _, q2, _, q3, _, q4, _, q5, _, q6, _, q7, _, q8, _⟩ := E2.out.all9
  go_wp2_with fail
  refine (V.out x y w2 Q.out (ad.out.belowW B.out) (ae.out.belowW B.out)).mono ?_
  rintro e w3 ⟨r, rfl, R, ak⟩; have S := Q.out.t ak
  cases r with
  | false =>
   go_wp2_with fail
   go_ret
   exact ⟨_, rfl, hI ⟨fun h => (by cases h), fun h => absurd h (map_ne _ J.out L.out (fun e => by have := R.out.2 e; cases this))⟩, S⟩
  | true =>
   have al := hI (R.out.1 rfl); have e1 : IntKind.i64.wrap ((i : Int) + 1) = (i : Int) + 1 := (by rw [IntKind.wrap_i64]; omega)
   go_wp2_with fail
   go_roundg (len - (i + 1))
   case measure => omega
   case rel => exact ⟨i + 1, by go_num, by omega, rfl, hI (by rw [take_snocA _ _ _ J.out, take_snocA _ _ _ L.out, List.map_append, List.map_append, E.out]; simp [al.out]), S⟩
 have d3 : decide ((i : Int) < (len : Int)) = false := decide_eq_false (by omega)
 have d4 : decide (i < len) = false := decide_eq_false hlt
 have am : i = len := by omega
 have HF := hI (show zs.map EdN.pl = ys.map EdN.pl by
  have := E.out
  rw [am, List.take_of_length_le (by rw [C.out]; exact Nat.le_refl _), List.take_of_length_le (by rw [D.out]; exact Nat.le_refl _)] at this
  exact this)
 go_wp2_with fail
 go_ret
 exact ⟨_, rfl, hI ⟨fun _ => HF.out, fun _ => rfl⟩, a⟩

theorem pem_el (pr : Nat) (pq : Nat) (ps : Nat) (x y : MdN) (w : World) (hx : InM w x) (hy : InM w y) (hp : Blk w pr 124 #[.func (.func 73) #[] #[]]) (hq : Blk w pq 123 #[.func (.func 72) #[] #[]]) (hs : Blk w ps 126 #[.func (.func 74) #[] #[.pointer (some ⟨pr, 0, none⟩)]]) : Calls Tryz.prog 76 #[x.val, y.val, .pointer (some ⟨pq, 0, none⟩), .pointer (some ⟨ps, 0, none⟩)] w (EqR x.pl y.pl w) := by
 have G := hI hx
 have H := hI hy
 clear hx hy
 obtain ⟨I, E⟩ : ∃ c, (x.s == y.s) = c := ⟨_, rfl⟩
 have ad := str_beq _ _ _ E
 have W := hI hp
 have X := hI hq
 have Y := hI hs
 clear hp hq hs
 have j := hI (show x.pl = y.pl ↔ I = true ∧ x.fl.map EqN.pl = y.fl.map EqN.pl ∧ x.ed.map EdN.pl = y.ed.map EdN.pl from ⟨fun e => by
  injection e with e1 e2 e3
  exact ⟨(str_iff E).2 e1, e2, e3⟩, fun e => by
  unfold MdN.pl
  rw [(str_iff E).1 e.1, e.2.1, e.2.2]⟩)
 go_enter Tryz.func76, Tryz.ntmps76
 go_upto_region 1 with (fail)
 obtain ⟨k, i⟩ := eX ((w.alloc (Obj.cells #[.string x.s, .slice x.A x.n x.c, .slice x.B x.m x.d] 74)).alloc (Obj.cells #[.string y.s, .slice y.A y.n y.c, .slice y.B y.m y.d] 74))
 have a := hI (show Below w.heap.size w k by rw [i]; exact (below_box _ _).trans ((below_box _ _).mono (by simp)))
 have J := hI (show Blk k w.heap.size 74 #[.string x.s, .slice x.A x.n x.c, .slice x.B x.m x.d] by rw [i]; exact (Blk.new w 74 #[.string x.s, .slice x.A x.n x.c, .slice x.B x.m x.d]).belowW (below_box _ _))
 have L := hI (show Blk k (w.heap.size + 1) 74 #[.string y.s, .slice y.A y.n y.c, .slice y.B y.m y.d] by rw [i]; exact (by have := Blk.new (w.alloc (Obj.cells #[.string x.s, .slice x.A x.n x.c, .slice x.B x.m x.d] 74)) 74 #[.string y.s, .slice y.A y.n y.c, .slice y.B y.m y.d]; simpa using this))
 rw [← i]
 clear i
 have M := W.out.b9 a
 have N := X.out.b9 a
 have O := Y.out.b9 a
 obtain ⟨l, _, o, _, p, _⟩ := J.out.all3
 obtain ⟨q, _, r, _, u, _⟩ := L.out.all3
 obtain ⟨v, _⟩ := N.out.all1
 obtain ⟨z, _⟩ := O.out.all1
 obtain ⟨C, _⟩ := M.out.all1
 cases I with
 | false =>
  go_wp2_with fail
  go_ret
  exact ⟨_, rfl, hI ⟨fun h => (by cases h), fun h => (by have := (j.out.1 h).1; cases this)⟩, a⟩
 | true =>
  go_wp2_with fail
  refine (peq_eqf x.A x.n x.c x.fl y.A y.n y.c y.fl k (InQ.list G.out.hf a.out) (InQ.list H.out.hf a.out) (fun x y w' _ hx hy => peq_el x y w' hx hy)).mono ?_
  rintro e w3 ⟨Z, rfl, P, b⟩; have D := a.out.t b; have Q := J.out.b9 b; have R := L.out.b9 b; have S := N.out.b9 b; have T := O.out.b9 b; have F := M.out.b9 b; clear l q o r p u v z C; obtain ⟨l, _, o, _, p, _⟩ := Q.out.all3; obtain ⟨q, _, r, _, u, _⟩ := R.out.all3; obtain ⟨v, _⟩ := S.out.all1; obtain ⟨z, _⟩ := T.out.all1; obtain ⟨C, _⟩ := F.out.all1
  cases Z with
  | false =>
   go_wp2_with fail
   go_ret
   exact ⟨_, rfl, hI ⟨fun h => (by cases h), fun h => (by have := P.out.2 ((j.out.1 h).2.1); cases this)⟩, D⟩
  | true =>
   have aa := hI (P.out.1 rfl)
   go_wp2_with fail
   refine (peg_eqf pr x.B x.m x.d x.ed y.B y.m y.d y.ed w3 (InG.list G.out.he D.out) (InG.list H.out.he D.out) (fun x y w' hb hx hy => peg_el pr x y w' hx hy (F.out.belowW hb))).mono ?_
   rintro e w4 ⟨r4, rfl, U, g⟩; have V := D.out.t g; clear l q o r p u v z C; obtain ⟨l, _, o, _, p, _⟩ := (Q.out.belowW g.out).all3; obtain ⟨q, _, r, _, u, _⟩ := (R.out.belowW g.out).all3; obtain ⟨v, _⟩ := (S.out.belowW g.out).all1; obtain ⟨z, _⟩ := (T.out.belowW g.out).all1; obtain ⟨C, _⟩ := (F.out.belowW g.out).all1
   cases r4 with
   | false =>
    go_wp2_with fail
    go_ret
    exact ⟨_, rfl, hI ⟨fun h => (by cases h), fun h => (by have := U.out.2 ((j.out.1 h).2.2); cases this)⟩, V⟩
   | true =>
    have ac := hI (U.out.1 rfl)
    go_wp2_with fail
    go_ret
    exact ⟨_, rfl, hI ⟨fun _ => j.out.2 ⟨(by trivial), aa.out, ac.out⟩, fun _ => rfl⟩, V⟩

theorem pem_eqf (pq : Nat) (ps : Nat) (A : Option Addr) (len cap : Nat) (zs : List MdN) (A2 : Option Addr) (len2 cap2 : Nat) (ys : List MdN) (w : World) (hx : InL 3 MdN.cells InM w A len cap zs) (hy : InL 3 MdN.cells InM w A2 len2 cap2 ys)
 (ih : ∀ (x y : MdN) (w' : World), Below w.heap.size w w' → InM w' x → InM w' y → Calls Tryz.prog 76 #[x.val, y.val, .pointer (some ⟨pq, 0, none⟩), .pointer (some ⟨ps, 0, none⟩)] w' (EqR x.pl y.pl w')) :
 Calls Tryz.prog 80 #[.slice A len cap, .slice A2 len2 cap2, .func (.func 76) #[] #[.pointer (some ⟨pq, 0, none⟩), .pointer (some ⟨ps, 0, none⟩)]] w (EqR (zs.map MdN.pl) (ys.map MdN.pl) w) := by
 have P := hI hx
 have Q := hI hy
 have R := hI ih
 have q := hI hx.hl
 have u := hI hy.hl
 have ak : len ≤ 9223372036854775807 := by
  have h1 := hx.hc; have S := hx.hm
  unfold maxLen at S
  omega
 clear hx hy ih
 by_cases hll : len = len2
 case neg =>
  have T : ((len : Int) != (len2 : Int)) = true := (by rw [bne_iff_ne]; omega); have d2 : (len != len2) = true := (by rw [bne_iff_ne]; exact hll)
  go_enter Tryz.func80, Tryz.ntmps80
  go_wp2_with fail
  go_ret
  exact ⟨_, rfl, hI ⟨fun h => (by cases h), fun h => absurd (by have := congrArg List.length h; rw [List.length_map, List.length_map, q.out, u.out] at this; exact this) hll⟩, hI (Below.refl _ _)⟩
 subst hll
 have T : ((len : Int) != (len : Int)) = false := by simp
 go_enter Tryz.func80, Tryz.ntmps80
 go_wp2_with fail
 go_loopg [17] len (fun gk d wr => ∃ i : Nat, d = .int .i64 (i : Nat) ∧ i ≤ len ∧ gk = len - i ∧ Hid ((zs.take i).map MdN.pl = (ys.take i).map MdN.pl) ∧ Hid (Below w.heap.size w wr))
 case atStart => exact ⟨0, rfl, Nat.zero_le _, rfl, hI (by simp), hI (Below.refl _ _)⟩
 obtain ⟨i, rfl, hi, rfl, v, a⟩ := hrel
 have U := a.out.size
 by_cases hlt : i < len
 ·
  obtain ⟨b, o, x, V, z, hx, C⟩ := InM.len (InM.list P.out a.out) i hlt; obtain ⟨b2, o2, y, W, D, hy, E⟩ := InM.len (InM.list Q.out a.out) i hlt; subst V W; have X : decide ((i : Int) < (len : Int)) = true := decide_eq_true (by omega); have Y : decide (i < len) = true := decide_eq_true hlt; have aq : 0 ≤ (i : Int) ∧ (i : Int) < (len : Int) := (by omega); have Z := hI hx; have aa := hI hy; have EY := hI E; have F := hI z; have G := hI D; obtain ⟨g, j, k, l⟩ := MdN.cells_at C; clear hx hy E C z D
  go_upto_region 6 with (fail)
  obtain ⟨w1, H, I, E1⟩ := aX wr 74 #[.string x.s, .slice x.A x.n x.c, .slice x.B x.m x.d]; rw [← H]; clear H g j k l; obtain ⟨g, j, k, l⟩ := MdN.cells_at (EY.out.belowW I.out)
  go_upto_region 7 with (fail)
  obtain ⟨w2, J, L, E2⟩ := aX w1 74 #[.string y.s, .slice y.A y.n y.c, .slice y.B y.m y.d]; rw [← J]; clear J g j k l; have p := I.out.t L; have M := hI (a.out.trans (p.out.mono U)); obtain ⟨p0, _, p1, _, p2, _⟩ := (E1.out.belowW L.out).all3; obtain ⟨q0, _, q1, _, q2, _⟩ := E2.out.all3
  go_wp2_with fail
  refine (R.out x y w2 M.out (Z.out.belowW p.out) (aa.out.belowW p.out)).mono ?_
  rintro e w3 ⟨r, rfl, N, ag⟩; have O := M.out.t ag
  cases r with
  | false =>
   go_wp2_with fail
   go_ret
   exact ⟨_, rfl, hI ⟨fun h => (by cases h), fun h => absurd h (map_ne _ F.out G.out (fun e => by have := N.out.2 e; cases this))⟩, O⟩
  | true =>
   have ah := hI (N.out.1 rfl); have e1 : IntKind.i64.wrap ((i : Int) + 1) = (i : Int) + 1 := (by rw [IntKind.wrap_i64]; omega)
   go_wp2_with fail
   go_roundg (len - (i + 1))
   case measure => omega
   case rel => exact ⟨i + 1, by go_num, by omega, rfl, hI (by rw [take_snocA _ _ _ F.out, take_snocA _ _ _ G.out, List.map_append, List.map_append, v.out]; simp [ah.out]), O⟩
 have X : decide ((i : Int) < (len : Int)) = false := decide_eq_false (by omega)
 have Y : decide (i < len) = false := decide_eq_false hlt
 have ai : i = len := by omega
 have HF := hI (show zs.map MdN.pl = ys.map MdN.pl by
  have := v.out
  rw [ai, List.take_of_length_le (by rw [q.out]; exact Nat.le_refl _), List.take_of_length_le (by rw [u.out]; exact Nat.le_refl _)] at this
  exact this)
 go_wp2_with fail
 go_ret
 exact ⟨_, rfl, hI ⟨fun _ => HF.out, fun _ => rfl⟩, a⟩
end Go.Proofs.YtkjoohnndobjeaaGreatDoor
