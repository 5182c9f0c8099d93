/-
  The walks of the tests whether parts of problems are equal (tree.Same).
  The walk of tree.Same.
-/
import Derived.Test.YtkjoohnndobjeaaGreatDoorQZ
import Derived.Test.YtkjoohnndobjeaaGreatDoorQL
import Derived.Test.YtkjoohnndobjeaaGreatDoorQW
import Derived.Test.YtkjoohnndobjeaaGreatDoorQX
import Derived.Test.YtkjoohnndobjeaaGreatDoorPbF
import Derived.Laws.EntriesVeiled
set_option linter.unusedVariables false
set_option maxHeartbeats 4000000
set_option maxRecDepth 100000
namespace Go.Proofs.YtkjoohnndobjeaaGreatDoor
open Go.RowKit Go.Fl Go.Fl.Lx Go.Fl.Nm Go.Fl.Fm Go.Fl.Rt Go.Fl.Pa
open List (setIfInBounds_toArray set_cons_zero set_cons_succ getElem_toArray getElem_cons_zero getElem_cons_succ)
theorem str_beq (s s' : ByteArray) (c : Bool) (h : (s == s') = c) : (s.toList == s'.toList) = c := by
 rw [ByteArray.toList_eq, ByteArray.toList_eq, ← h, Bool.eq_iff_iff, beq_iff_eq, MapKept.bytes_beq]
 exact ⟨fun e => ByteArray.ext (Array.toList_inj.1 e), fun e => by rw [e]⟩
theorem str_iff {s s' : ByteArray} {c : Bool} (h : (s == s') = c) : c = true ↔ s.data.toList = s'.data.toList := by
 rw [← h, MapKept.bytes_beq]
 exact ⟨fun e => by rw [e], fun e => ByteArray.ext (Array.toList_inj.1 e)⟩
theorem map_ne {α β : Type} (f : α → β) {zs ys : List α} {i : Nat} {x y : α} (hx : zs[i]? = some x) (hy : ys[i]? = some y) (h : f x ≠ f y) : zs.map f ≠ ys.map f := fun e => by
 have h1 : (zs.map f)[i]? = some (f x) := by rw [List.getElem?_map, hx]; rfl
 have h2 : (ys.map f)[i]? = some (f y) := by rw [List.getElem?_map, hy]; rfl
 rw [e, h2] at h1
 injection h1 with h1
 exact h h1.symm
theorem dcl_eq (x y : DcN) : x.pl = y.pl ↔ (x.s == y.s) = true ∧ x.a = y.a ∧ x.b = y.b ∧ x.c = y.c ∧ x.d = y.d := by
 constructor
 ·
  intro e
  injection e with e1 e2
  injection e2 with e3 e4
  injection e3 with e5 e6
  injection e4 with e7 e8
  exact ⟨(str_iff rfl).2 e1, e5, e6, e7, e8⟩
 rintro ⟨e1, e2, e3, e4, e5⟩
 unfold DcN.pl
 rw [(str_iff rfl).1 e1, e2, e3, e4, e5]
theorem run_neq_dcl (w : World) (x y : DcN) :
 (binOp .neq 76 (.agg #[.string x.s, .int .i64 x.a, .int .i64 x.b, .int .i64 x.c, .int .i64 x.d]) (.agg #[.string y.s, .int .i64 y.a, .int .i64 y.b, .int .i64 y.c, .int .i64 y.d])).run Tryz.prog w = .ok (.bool (!((x.s == y.s) && ((x.a == y.a) && ((x.b == y.b) && ((x.c == y.c) && (x.d == y.d))))))) w := by
 have h3 := str_beq x.s y.s _ rfl
 simp [go_sem]
 cases hs : (x.s == y.s) <;> rw [hs] at h3 <;> by_cases h4 : x.a = y.a <;> by_cases h5 : x.b = y.b <;> by_cases h6 : x.c = y.c <;> by_cases h7 : x.d = y.d <;> simp_all

theorem eqd_any (A : Option Addr) (len cap : Nat) (zs : List DcN) (A2 : Option Addr) (len2 cap2 : Nat) (ys : List DcN) (w : World) (hx : InL 5 DcN.cells InD w A len cap zs) (hy : InL 5 DcN.cells InD w A2 len2 cap2 ys) :
 Calls Tryz.prog 79 #[.slice A len cap, .slice A2 len2 cap2] w (EqR (zs.map DcN.pl) (ys.map DcN.pl) w) := by
 have H := hI hx
 have I := hI hy
 have q := hI hx.hl
 have r := hI hy.hl
 have W : len ≤ 9223372036854775807 := by
  have X := hx.hc; have J := hx.hm
  unfold maxLen at J
  omega
 clear hx hy
 by_cases hll : len = len2
 case neg =>
  have L : ((len : Int) != (len2 : Int)) = true := (by rw [bne_iff_ne]; omega); have Y : (len != len2) = true := (by rw [bne_iff_ne]; exact hll)
  go_enter Tryz.func79, Tryz.ntmps79
  go_wp2_with fail
  go_ret
  exact ⟨_, rfl, hI ⟨fun h => (by cases h), fun h => absurd (by have := congrArg List.length h; rw [List.length_map, List.length_map, q.out, r.out] at this; exact this) hll⟩, hI (Below.refl _ _)⟩
 subst hll
 have L : ((len : Int) != (len : Int)) = false := by simp
 have Z := run_neq_dcl
 go_enter Tryz.func79, Tryz.ntmps79
 go_wp2_with fail
 go_loopg [13] len (fun gk d wr => ∃ i : Nat, d = .int .i64 (i : Nat) ∧ i ≤ len ∧ gk = len - i ∧ Hid ((zs.take i).map DcN.pl = (ys.take i).map DcN.pl) ∧ Hid (Below w.heap.size w wr))
 case atStart => exact ⟨0, rfl, Nat.zero_le _, rfl, hI (by simp), hI (Below.refl _ _)⟩
 obtain ⟨i, rfl, hi, rfl, u, k⟩ := hrel
 have ab := k.out.size
 by_cases hlt : i < len
 ·
  have ac := hI (show Below wr.heap.size wr wr.drew from below_dr _); obtain ⟨b, o, x, M, v, hx, z⟩ := InD.len (InD.list H.out k.out) i hlt; obtain ⟨l, m, y, N, B, hy, C⟩ := InD.len (InD.list I.out k.out) i hlt; subst M N; have O : decide ((i : Int) < (len : Int)) = true := decide_eq_true (by omega); have P : decide (i < len) = true := decide_eq_true hlt; have ad : 0 ≤ (i : Int) ∧ (i : Int) < (len : Int) := (by omega); have D := hI v; have E := hI B; have Q := hI z; have R := hI C; clear hx hy C z v B
  obtain ⟨c, hc⟩ : ∃ c, ((x.s == y.s) && ((x.a == y.a) && ((x.b == y.b) && ((x.c == y.c) && (x.d == y.d))))) = c := ⟨_, rfl⟩
  have F := hI (show c = true ↔ x.pl = y.pl by rw [← hc, dcl_eq]; simp [Bool.and_eq_true])
  go_upto_region 6 with (fail)
  have n := hI (below_dr wr); have g := Q.out.b9 n; have j := R.out.b9 n; have p := k.out.t n
  refine wp_region_held_drew (S := fun w' => w'.cell? ⟨b, o + i * 5, none⟩ = some (.string x.s) ∧ w'.cell? ⟨b, o + i * 5 + 1, none⟩ = some (.int .i64 x.a) ∧ w'.cell? ⟨b, o + i * 5 + 2, none⟩ = some (.int .i64 x.b) ∧ w'.cell? ⟨b, o + i * 5 + 3, none⟩ = some (.int .i64 x.c) ∧ w'.cell? ⟨b, o + i * 5 + 4, none⟩ = some (.int .i64 x.d) ∧ w'.cell? ⟨l, m + i * 5, none⟩ = some (.string y.s) ∧ w'.cell? ⟨l, m + i * 5 + 1, none⟩ = some (.int .i64 y.a) ∧ w'.cell? ⟨l, m + i * 5 + 2, none⟩ = some (.int .i64 y.b) ∧ w'.cell? ⟨l, m + i * 5 + 3, none⟩ = some (.int .i64 y.c) ∧ w'.cell? ⟨l, m + i * 5 + 4, none⟩ = some (.int .i64 y.d)) (by kernel_rfl) ?_ (fun hHeld => ?_)
  case refine_1 => exact ⟨g.out.c 0 _ rfl, g.out.c 1 _ rfl, g.out.c 2 _ rfl, g.out.c 3 _ rfl, g.out.c 4 _ rfl, j.out.c 0 _ rfl, j.out.c 1 _ rfl, j.out.c 2 _ rfl, j.out.c 3 _ rfl, j.out.c 4 _ rfl⟩
  obtain ⟨ae, G⟩ := eX (wr.drew); rw [← G] at n g j p hHeld ⊢; clear G
  refine tkW 0 ?_
  refine tkW 1 ?_
  refine tkW 2 ?_
  refine tkW 3 ?_
  refine tkW 4 ?_
  refine tkW 5 ?_
  refine tkW 6 ?_
  refine tkW 7 ?_
  refine tkW 8 ?_
  refine wpAnyH_done (by kernel_rfl) ?_ _
  cases c with
  | false =>
   go_wp2_with fail
   go_ret
   exact ⟨_, rfl, hI ⟨fun h => (by cases h), fun h => absurd h (map_ne _ D.out E.out (fun e => by have := F.out.2 e; cases this))⟩, p⟩
  | true =>
   have T := hI (F.out.1 rfl); have e1 : IntKind.i64.wrap ((i : Int) + 1) = (i : Int) + 1 := (by rw [IntKind.wrap_i64]; omega)
   go_wp2_with fail
   go_roundg (len - (i + 1))
   case measure => omega
   case rel => exact ⟨i + 1, by go_num, by omega, rfl, hI (by rw [take_snocA _ _ _ D.out, take_snocA _ _ _ E.out, List.map_append, List.map_append, u.out]; simp [T.out]), p⟩
 have O : decide ((i : Int) < (len : Int)) = false := decide_eq_false (by omega)
 have P : decide (i < len) = false := decide_eq_false hlt
 have U : i = len := by omega
 have V := hI (show zs.map DcN.pl = ys.map DcN.pl by
  have := u.out
  rw [U, List.take_of_length_le (by rw [q.out]; exact Nat.le_refl _), List.take_of_length_le (by rw [r.out]; exact Nat.le_refl _)] at this
  exact this)
 go_wp2_with fail
 go_ret
 exact ⟨_, rfl, hI ⟨fun _ => V.out, fun _ => rfl⟩, k⟩

theorem teq_el (x y : EqN) (w : World) (hx : InQ w x) (hy : InQ w y) : Calls Tryz.prog 87 #[x.val, y.val] w (EqR x.pl y.pl w) := by
 have O := hI hx
 have P := hI hy
 clear hx hy
 obtain ⟨m, i⟩ : ∃ c, (x.s == y.s) = c := ⟨_, rfl⟩
 have S := str_beq _ _ _ i
 have j := hI (show x.pl = y.pl ↔ m = true ∧ x.T = y.T from ⟨fun e => by
  injection e with e1 e2
  exact ⟨(str_iff i).2 e1, e2⟩, fun e => by
  unfold EqN.pl
  rw [(str_iff i).1 e.1, e.2]⟩)
 go_enter Tryz.func87, Tryz.ntmps87
 go_upto_region 1 with (fail)
 obtain ⟨a, b⟩ := eX ((w.alloc (Obj.cells #[.string x.s, .int .i64 x.v.h.kind, .int .i64 x.v.h.n, .int .i64 x.v.h.d, .string x.v.h.name, .int .i64 x.v.h.k, .slice x.v.A x.v.len x.v.cap] 78)).alloc (Obj.cells #[.string y.s, .int .i64 y.v.h.kind, .int .i64 y.v.h.n, .int .i64 y.v.h.d, .string y.v.h.name, .int .i64 y.v.h.k, .slice y.v.A y.v.len y.v.cap] 78))
 have g := hI (show Below w.heap.size w a by rw [b]; exact (below_box _ _).trans ((below_box _ _).mono (by simp)))
 have o := hI (show Blk a w.heap.size 78 #[.string x.s, .int .i64 x.v.h.kind, .int .i64 x.v.h.n, .int .i64 x.v.h.d, .string x.v.h.name, .int .i64 x.v.h.k, .slice x.v.A x.v.len x.v.cap] by rw [b]; exact (Blk.new w 78 #[.string x.s, .int .i64 x.v.h.kind, .int .i64 x.v.h.n, .int .i64 x.v.h.d, .string x.v.h.name, .int .i64 x.v.h.k, .slice x.v.A x.v.len x.v.cap]).belowW (below_box _ _))
 have p := hI (show Blk a (w.heap.size + 1) 78 #[.string y.s, .int .i64 y.v.h.kind, .int .i64 y.v.h.n, .int .i64 y.v.h.d, .string y.v.h.name, .int .i64 y.v.h.k, .slice y.v.A y.v.len y.v.cap] by rw [b]; exact (by have := Blk.new (w.alloc (Obj.cells #[.string x.s, .int .i64 x.v.h.kind, .int .i64 x.v.h.n, .int .i64 x.v.h.d, .string x.v.h.name, .int .i64 x.v.h.k, .slice x.v.A x.v.len x.v.cap] 78)) 78 #[.string y.s, .int .i64 y.v.h.kind, .int .i64 y.v.h.n, .int .i64 y.v.h.d, .string y.v.h.name, .int .i64 y.v.h.k, .slice y.v.A y.v.len y.v.cap]; simpa using this))
 rw [← b]
 clear b
 obtain ⟨q, _, r, _, u, _, z, _, B, _, C, _, D, _⟩ := o.out.all7
 obtain ⟨E, _, F, _, G, _, H, _, I, _, J, _, L, _⟩ := p.out.all7
 cases m with
 | false =>
  go_wp2_with fail
  go_ret
  exact ⟨_, rfl, hI ⟨fun h => (by cases h), fun h => (by have := (j.out.1 h).1; cases this)⟩, g⟩
 | true =>
  go_wp2_with fail
  refine (show Calls Tryz.prog 56 #[.agg #[.int .i64 x.v.h.kind, .int .i64 x.v.h.n, .int .i64 x.v.h.d, .string x.v.h.name, .int .i64 x.v.h.k, .slice x.v.A x.v.len x.v.cap], .agg #[.int .i64 y.v.h.kind, .int .i64 y.v.h.n, .int .i64 y.v.h.d, .string y.v.h.name, .int .i64 y.v.h.k, .slice y.v.A y.v.len y.v.cap]] a _ from equal_any _ x.T (Nat.le_refl _) y.T x.v y.v a (O.out.e.belowW g.out) (P.out.e.belowW g.out)).mono ?_
  rintro e w3 ⟨Q, rfl, M, l⟩; have N := g.out.t l; clear q E r F u G z H B I C J D L; obtain ⟨q, _, r, _, u, _, z, _, B, _, C, _, D, _⟩ := (o.out.belowW l.out).all7; obtain ⟨E, _, F, _, G, _, H, _, I, _, J, _, L, _⟩ := (p.out.belowW l.out).all7
  cases Q with
  | false =>
   go_wp2_with fail
   go_ret
   exact ⟨_, rfl, hI ⟨fun h => (by cases h), fun h => (by have := M.out.2 ((j.out.1 h).2); cases this)⟩, N⟩
  | true =>
   have R := hI (M.out.1 rfl)
   go_wp2_with fail
   go_ret
   exact ⟨_, rfl, hI ⟨fun _ => j.out.2 ⟨(by trivial), R.out⟩, fun _ => rfl⟩, N⟩

theorem teq_eqf (A : Option Addr) (len cap : Nat) (zs : List EqN) (A2 : Option Addr) (len2 cap2 : Nat) (ys : List EqN) (w : World) (hx : InL 7 EqN.cells InQ w A len cap zs) (hy : InL 7 EqN.cells InQ w A2 len2 cap2 ys)
 (ih : ∀ (x y : EqN) (w' : World), Below w.heap.size w w' → InQ w' x → InQ w' y → Calls Tryz.prog 87 #[x.val, y.val] w' (EqR x.pl y.pl w')) :
 Calls Tryz.prog 77 #[.slice A len cap, .slice A2 len2 cap2, .func (.func 87) #[] #[]] w (EqR (zs.map EqN.pl) (ys.map EqN.pl) w) := by
 have S := hI hx
 have T := hI hy
 have U := hI ih
 have B := hI hx.hl
 have C := hI hy.hl
 have an : len ≤ 9223372036854775807 := by
  have h1 := hx.hc; have V := hx.hm
  unfold maxLen at V
  omega
 clear hx hy ih
 by_cases hll : len = len2
 case neg =>
  have W : ((len : Int) != (len2 : Int)) = true := (by rw [bne_iff_ne]; omega); have d2 : (len != len2) = true := (by rw [bne_iff_ne]; exact hll)
  go_enter Tryz.func77, Tryz.ntmps77
  go_wp2_with fail
  go_ret
  exact ⟨_, rfl, hI ⟨fun h => (by cases h), fun h => absurd (by have := congrArg List.length h; rw [List.length_map, List.length_map, B.out, C.out] at this; exact this) hll⟩, hI (Below.refl _ _)⟩
 subst hll
 have W : ((len : Int) != (len : Int)) = false := by simp
 go_enter Tryz.func77, Tryz.ntmps77
 go_wp2_with fail
 go_loopg [17] len (fun gk d wr => ∃ i : Nat, d = .int .i64 (i : Nat) ∧ i ≤ len ∧ gk = len - i ∧ Hid ((zs.take i).map EqN.pl = (ys.take i).map EqN.pl) ∧ Hid (Below w.heap.size w wr))
 case atStart => exact ⟨0, rfl, Nat.zero_le _, rfl, hI (by simp), hI (Below.refl _ _)⟩
 obtain ⟨i, rfl, hi, rfl, D, a⟩ := hrel
 have X := a.out.size
 by_cases hlt : i < len
 ·
  obtain ⟨b, o, x, Y, E, hx, F⟩ := InQ.len (InQ.list S.out a.out) i hlt; obtain ⟨b2, o2, y, Z, G, hy, H⟩ := InQ.len (InQ.list T.out a.out) i hlt; subst Y Z; have d3 : decide ((i : Int) < (len : Int)) = true := decide_eq_true (by omega); have d4 : decide (i < len) = true := decide_eq_true hlt; have av : 0 ≤ (i : Int) ∧ (i : Int) < (len : Int) := (by omega); have ac := hI hx; have ad := hI hy; have EY := hI H; have I := hI E; have J := hI G; obtain ⟨c, g, j, l, m, p, q, u⟩ := EqN.cells_at F; clear hx hy H F E G
  go_upto_region 6 with (fail)
  obtain ⟨w1, L, M, E1⟩ := aX wr 78 #[.string x.s, .int .i64 x.v.h.kind, .int .i64 x.v.h.n, .int .i64 x.v.h.d, .string x.v.h.name, .int .i64 x.v.h.k, .slice x.v.A x.v.len x.v.cap]; rw [← L]; clear L c g j l m p q u; obtain ⟨c, g, j, l, m, p, q, u⟩ := EqN.cells_at (EY.out.belowW M.out)
  go_upto_region 7 with (fail)
  obtain ⟨w2, N, O, E2⟩ := aX w1 78 #[.string y.s, .int .i64 y.v.h.kind, .int .i64 y.v.h.n, .int .i64 y.v.h.d, .string y.v.h.name, .int .i64 y.v.h.k, .slice y.v.A y.v.len y.v.cap]; rw [← N]; clear N c g j l m p q u; have z := M.out.t O; have P := hI (a.out.trans (z.out.mono X)); obtain ⟨p0, _, p1, _, p2, _, p3, _, p4, _, p5, _, p6, _⟩ := (E1.out.belowW O.out).all7; obtain ⟨q0, _, q1, _, q2, _, q3, _, q4, _, q5, _, q6, _⟩ := E2.out.all7
  go_wp2_with fail
  refine (U.out x y w2 P.out (ac.out.belowW z.out) (ad.out.belowW z.out)).mono ?_
  rintro e w3 ⟨r, rfl, Q, aj⟩; have R := P.out.t aj
  cases r with
  | false =>
   go_wp2_with fail
   go_ret
   exact ⟨_, rfl, hI ⟨fun h => (by cases h), fun h => absurd h (map_ne _ I.out J.out (fun e => by have := Q.out.2 e; cases this))⟩, R⟩
  | true =>
   have ak := hI (Q.out.1 rfl); have e1 : IntKind.i64.wrap ((i : Int) + 1) = (i : Int) + 1 := (by rw [IntKind.wrap_i64]; omega)
   go_wp2_with fail
   go_roundg (len - (i + 1))
   case measure => omega
   case rel => exact ⟨i + 1, by go_num, by omega, rfl, hI (by rw [take_snocA _ _ _ I.out, take_snocA _ _ _ J.out, List.map_append, List.map_append, D.out]; simp [ak.out]), R⟩
 have d3 : decide ((i : Int) < (len : Int)) = false := decide_eq_false (by omega)
 have d4 : decide (i < len) = false := decide_eq_false hlt
 have al : i = len := by omega
 have HF := hI (show zs.map EqN.pl = ys.map EqN.pl by
  have := D.out
  rw [al, List.take_of_length_le (by rw [B.out]; exact Nat.le_refl _), List.take_of_length_le (by rw [C.out]; exact Nat.le_refl _)] at this
  exact this)
 go_wp2_with fail
 go_ret
 exact ⟨_, rfl, hI ⟨fun _ => HF.out, fun _ => rfl⟩, a⟩

theorem ter_el (x y : EqN) (w : World) (hx : InQ w x) (hy : InQ w y) : Calls Tryz.prog 85 #[x.val, y.val] w (EqR x.pl y.pl w) := by
 have O := hI hx
 have P := hI hy
 clear hx hy
 obtain ⟨m, i⟩ : ∃ c, (x.s == y.s) = c := ⟨_, rfl⟩
 have S := str_beq _ _ _ i
 have j := hI (show x.pl = y.pl ↔ m = true ∧ x.T = y.T from ⟨fun e => by
  injection e with e1 e2
  exact ⟨(str_iff i).2 e1, e2⟩, fun e => by
  unfold EqN.pl
  rw [(str_iff i).1 e.1, e.2]⟩)
 go_enter Tryz.func85, Tryz.ntmps85
 go_upto_region 1 with (fail)
 obtain ⟨a, b⟩ := eX ((w.alloc (Obj.cells #[.string x.s, .int .i64 x.v.h.kind, .int .i64 x.v.h.n, .int .i64 x.v.h.d, .string x.v.h.name, .int .i64 x.v.h.k, .slice x.v.A x.v.len x.v.cap] 82)).alloc (Obj.cells #[.string y.s, .int .i64 y.v.h.kind, .int .i64 y.v.h.n, .int .i64 y.v.h.d, .string y.v.h.name, .int .i64 y.v.h.k, .slice y.v.A y.v.len y.v.cap] 82))
 have g := hI (show Below w.heap.size w a by rw [b]; exact (below_box _ _).trans ((below_box _ _).mono (by simp)))
 have o := hI (show Blk a w.heap.size 82 #[.string x.s, .int .i64 x.v.h.kind, .int .i64 x.v.h.n, .int .i64 x.v.h.d, .string x.v.h.name, .int .i64 x.v.h.k, .slice x.v.A x.v.len x.v.cap] by rw [b]; exact (Blk.new w 82 #[.string x.s, .int .i64 x.v.h.kind, .int .i64 x.v.h.n, .int .i64 x.v.h.d, .string x.v.h.name, .int .i64 x.v.h.k, .slice x.v.A x.v.len x.v.cap]).belowW (below_box _ _))
 have p := hI (show Blk a (w.heap.size + 1) 82 #[.string y.s, .int .i64 y.v.h.kind, .int .i64 y.v.h.n, .int .i64 y.v.h.d, .string y.v.h.name, .int .i64 y.v.h.k, .slice y.v.A y.v.len y.v.cap] by rw [b]; exact (by have := Blk.new (w.alloc (Obj.cells #[.string x.s, .int .i64 x.v.h.kind, .int .i64 x.v.h.n, .int .i64 x.v.h.d, .string x.v.h.name, .int .i64 x.v.h.k, .slice x.v.A x.v.len x.v.cap] 82)) 82 #[.string y.s, .int .i64 y.v.h.kind, .int .i64 y.v.h.n, .int .i64 y.v.h.d, .string y.v.h.name, .int .i64 y.v.h.k, .slice y.v.A y.v.len y.v.cap]; simpa using this))
 rw [← b]
 clear b
 obtain ⟨q, _, r, _, u, _, z, _, B, _, C, _, D, _⟩ := o.out.all7
 obtain ⟨E, _, F, _, G, _, H, _, I, _, J, _, L, _⟩ := p.out.all7
 cases m with
 | false =>
  go_wp2_with fail
  go_ret
  exact ⟨_, rfl, hI ⟨fun h => (by cases h), fun h => (by have := (j.out.1 h).1; cases this)⟩, g⟩
 | true =>
  go_wp2_with fail
  refine (show Calls Tryz.prog 56 #[.agg #[.int .i64 x.v.h.kind, .int .i64 x.v.h.n, .int .i64 x.v.h.d, .string x.v.h.name, .int .i64 x.v.h.k, .slice x.v.A x.v.len x.v.cap], .agg #[.int .i64 y.v.h.kind, .int .i64 y.v.h.n, .int .i64 y.v.h.d, .string y.v.h.name, .int .i64 y.v.h.k, .slice y.v.A y.v.len y.v.cap]] a _ from equal_any _ x.T (Nat.le_refl _) y.T x.v y.v a (O.out.e.belowW g.out) (P.out.e.belowW g.out)).mono ?_
  rintro e w3 ⟨Q, rfl, M, l⟩; have N := g.out.t l; clear q E r F u G z H B I C J D L; obtain ⟨q, _, r, _, u, _, z, _, B, _, C, _, D, _⟩ := (o.out.belowW l.out).all7; obtain ⟨E, _, F, _, G, _, H, _, I, _, J, _, L, _⟩ := (p.out.belowW l.out).all7
  cases Q with
  | false =>
   go_wp2_with fail
   go_ret
   exact ⟨_, rfl, hI ⟨fun h => (by cases h), fun h => (by have := M.out.2 ((j.out.1 h).2); cases this)⟩, N⟩
  | true =>
   have R := hI (M.out.1 rfl)
   go_wp2_with fail
   go_ret
   exact ⟨_, rfl, hI ⟨fun _ => j.out.2 ⟨(by trivial), R.out⟩, fun _ => rfl⟩, N⟩

theorem ter_eqf (A : Option Addr) (len cap : Nat) (zs : List EqN) (A2 : Option Addr) (len2 cap2 : Nat) (ys : List EqN) (w : World) (hx : InL 7 EqN.cells InQ w A len cap zs) (hy : InL 7 EqN.cells InQ w A2 len2 cap2 ys)
 (ih : ∀ (x y : EqN) (w' : World), Below w.heap.size w w' → InQ w' x → InQ w' y → Calls Tryz.prog 85 #[x.val, y.val] w' (EqR x.pl y.pl w')) :
 Calls Tryz.prog 75 #[.slice A len cap, .slice A2 len2 cap2, .func (.func 85) #[] #[]] w (EqR (zs.map EqN.pl) (ys.map EqN.pl) w) := by
 have S := hI hx
 have T := hI hy
 have U := hI ih
 have B := hI hx.hl
 have C := hI hy.hl
 have an : len ≤ 9223372036854775807 := by
  have h1 := hx.hc; have V := hx.hm
  unfold maxLen at V
  omega
 clear hx hy ih
 by_cases hll : len = len2
 case neg =>
  have W : ((len : Int) != (len2 : Int)) = true := (by rw [bne_iff_ne]; omega); have d2 : (len != len2) = true := (by rw [bne_iff_ne]; exact hll)
  go_enter Tryz.func75, Tryz.ntmps75
  go_wp2_with fail
  go_ret
  exact ⟨_, rfl, hI ⟨fun h => (by cases h), fun h => absurd (by have := congrArg List.length h; rw [List.length_map, List.length_map, B.out, C.out] at this; exact this) hll⟩, hI (Below.refl _ _)⟩
 subst hll
 have W : ((len : Int) != (len : Int)) = false := by simp
 go_enter Tryz.func75, Tryz.ntmps75
 go_wp2_with fail
 go_loopg [17] len (fun gk d wr => ∃ i : Nat, d = .int .i64 (i : Nat) ∧ i ≤ len ∧ gk = len - i ∧ Hid ((zs.take i).map EqN.pl = (ys.take i).map EqN.pl) ∧ Hid (Below w.heap.size w wr))
 case atStart => exact ⟨0, rfl, Nat.zero_le _, rfl, hI (by simp), hI (Below.refl _ _)⟩
 obtain ⟨i, rfl, hi, rfl, D, a⟩ := hrel
 have X := a.out.size
 by_cases hlt : i < len
 ·
  obtain ⟨b, o, x, Y, E, hx, F⟩ := InQ.len (InQ.list S.out a.out) i hlt; obtain ⟨b2, o2, y, Z, G, hy, H⟩ := InQ.len (InQ.list T.out a.out) i hlt; subst Y Z; have d3 : decide ((i : Int) < (len : Int)) = true := decide_eq_true (by omega); have d4 : decide (i < len) = true := decide_eq_true hlt; have av : 0 ≤ (i : Int) ∧ (i : Int) < (len : Int) := (by omega); have ac := hI hx; have ad := hI hy; have EY := hI H; have I := hI E; have J := hI G; obtain ⟨c, g, j, l, m, p, q, u⟩ := EqN.cells_at F; clear hx hy H F E G
  go_upto_region 6 with (fail)
  obtain ⟨w1, L, M, E1⟩ := aX wr 82 #[.string x.s, .int .i64 x.v.h.kind, .int .i64 x.v.h.n, .int .i64 x.v.h.d, .string x.v.h.name, .int .i64 x.v.h.k, .slice x.v.A x.v.len x.v.cap]; rw [← L]; clear L c g j l m p q u; obtain ⟨c, g, j, l, m, p, q, u⟩ := EqN.cells_at (EY.out.belowW M.out)
  go_upto_region 7 with (fail)
  obtain ⟨w2, N, O, E2⟩ := aX w1 82 #[.string y.s, .int .i64 y.v.h.kind, .int .i64 y.v.h.n, .int .i64 y.v.h.d, .string y.v.h.name, .int .i64 y.v.h.k, .slice y.v.A y.v.len y.v.cap]; rw [← N]; clear N c g j l m p q u; have z := M.out.t O; have P := hI (a.out.trans (z.out.mono X)); obtain ⟨p0, _, p1, _, p2, _, p3, _, p4, _, p5, _, p6, _⟩ := (E1.out.belowW O.out).all7; obtain ⟨q0, _, q1, _, q2, _, q3, _, q4, _, q5, _, q6, _⟩ := E2.out.all7
  go_wp2_with fail
  refine (U.out x y w2 P.out (ac.out.belowW z.out) (ad.out.belowW z.out)).mono ?_
  rintro e w3 ⟨r, rfl, Q, aj⟩; have R := P.out.t aj
  cases r with
  | false =>
   go_wp2_with fail
   go_ret
   exact ⟨_, rfl, hI ⟨fun h => (by cases h), fun h => absurd h (map_ne _ I.out J.out (fun e => by have := Q.out.2 e; cases this))⟩, R⟩
  | true =>
   have ak := hI (Q.out.1 rfl); have e1 : IntKind.i64.wrap ((i : Int) + 1) = (i : Int) + 1 := (by rw [IntKind.wrap_i64]; omega)
   go_wp2_with fail
   go_roundg (len - (i + 1))
   case measure => omega
   case rel => exact ⟨i + 1, by go_num, by omega, rfl, hI (by rw [take_snocA _ _ _ I.out, take_snocA _ _ _ J.out, List.map_append, List.map_append, D.out]; simp [ak.out]), R⟩
 have d3 : decide ((i : Int) < (len : Int)) = false := decide_eq_false (by omega)
 have d4 : decide (i < len) = false := decide_eq_false hlt
 have al : i = len := by omega
 have HF := hI (show zs.map EqN.pl = ys.map EqN.pl by
  have := D.out
  rw [al, List.take_of_length_le (by rw [B.out]; exact Nat.le_refl _), List.take_of_length_le (by rw [C.out]; exact Nat.le_refl _)] at this
  exact this)
 go_wp2_with fail
 go_ret
 exact ⟨_, rfl, hI ⟨fun _ => HF.out, fun _ => rfl⟩, a⟩

theorem teg_el (pr : Nat) (x y : EdN) (w : World) (hx : InG w x) (hy : InG w y) (hp : Blk w pr 124 #[.func (.func 85) #[] #[]]) : Calls Tryz.prog 86 #[x.val, y.val, .pointer (some ⟨pr, 0, none⟩)] w (EqR x.pl y.pl w) := by
 have U := hI hx
 have V := hI hy
 clear hx hy
 obtain ⟨W, X⟩ : ∃ c, (x.dir == y.dir) = c := ⟨_, rfl⟩
 obtain ⟨Y, P⟩ : ∃ c, (x.tn == y.tn) = c := ⟨_, rfl⟩
 have an := str_beq _ _ _ P
 have HP := hI hp
 clear hp
 have b := hI (show x.pl = y.pl ↔ x.T = y.T ∧ W = true ∧ Y = true ∧ x.rs.map EqN.pl = y.rs.map EqN.pl from ⟨fun e => by
  injection e with Q j R S
  exact ⟨Q, by rw [← X, j]; simp, (str_iff P).2 R, S⟩, fun e => by
  obtain ⟨Q, j, R, S⟩ := e; rw [← X, beq_iff_eq] at j
  unfold EdN.pl
  rw [Q, j, (str_iff P).1 R, S]⟩)
 go_enter Tryz.func86, Tryz.ntmps86
 go_upto_region 1 with (fail)
 obtain ⟨g, i⟩ := eX ((w.alloc (Obj.cells #[.int .i64 x.v.h.kind, .int .i64 x.v.h.n, .int .i64 x.v.h.d, .string x.v.h.name, .int .i64 x.v.h.k, .slice x.v.A x.v.len x.v.cap, .int .i64 x.dir, .string x.tn, .slice x.A x.len x.cap] 81)).alloc (Obj.cells #[.int .i64 y.v.h.kind, .int .i64 y.v.h.n, .int .i64 y.v.h.d, .string y.v.h.name, .int .i64 y.v.h.k, .slice y.v.A y.v.len y.v.cap, .int .i64 y.dir, .string y.tn, .slice y.A y.len y.cap] 81))
 have l := hI (show Below w.heap.size w g by rw [i]; exact (below_box _ _).trans ((below_box _ _).mono (by simp)))
 have Z := hI (show Blk g w.heap.size 81 #[.int .i64 x.v.h.kind, .int .i64 x.v.h.n, .int .i64 x.v.h.d, .string x.v.h.name, .int .i64 x.v.h.k, .slice x.v.A x.v.len x.v.cap, .int .i64 x.dir, .string x.tn, .slice x.A x.len x.cap] by rw [i]; exact (Blk.new w 81 #[.int .i64 x.v.h.kind, .int .i64 x.v.h.n, .int .i64 x.v.h.d, .string x.v.h.name, .int .i64 x.v.h.k, .slice x.v.A x.v.len x.v.cap, .int .i64 x.dir, .string x.tn, .slice x.A x.len x.cap]).belowW (below_box _ _))
 have E2 := hI (show Blk g (w.heap.size + 1) 81 #[.int .i64 y.v.h.kind, .int .i64 y.v.h.n, .int .i64 y.v.h.d, .string y.v.h.name, .int .i64 y.v.h.k, .slice y.v.A y.v.len y.v.cap, .int .i64 y.dir, .string y.tn, .slice y.A y.len y.cap] by rw [i]; exact (by have := Blk.new (w.alloc (Obj.cells #[.int .i64 x.v.h.kind, .int .i64 x.v.h.n, .int .i64 x.v.h.d, .string x.v.h.name, .int .i64 x.v.h.k, .slice x.v.A x.v.len x.v.cap, .int .i64 x.dir, .string x.tn, .slice x.A x.len x.cap] 81)) 81 #[.int .i64 y.v.h.kind, .int .i64 y.v.h.n, .int .i64 y.v.h.d, .string y.v.h.name, .int .i64 y.v.h.k, .slice y.v.A y.v.len y.v.cap, .int .i64 y.dir, .string y.tn, .slice y.A y.len y.cap]; simpa using this))
 rw [← i]
 clear i
 have ab := HP.out.b9 l
 obtain ⟨m, _, o, _, p, _, q, _, r, _, s, _, u, _, z, _, B, _⟩ := Z.out.all9
 obtain ⟨C, _, D, _, E, _, F, _, G, _, H, _, I, _, J, _, L, _⟩ := E2.out.all9
 obtain ⟨M, _⟩ := ab.out.all1
 go_wp2_with fail
 refine (show Calls Tryz.prog 56 #[.agg #[.int .i64 x.v.h.kind, .int .i64 x.v.h.n, .int .i64 x.v.h.d, .string x.v.h.name, .int .i64 x.v.h.k, .slice x.v.A x.v.len x.v.cap], .agg #[.int .i64 y.v.h.kind, .int .i64 y.v.h.n, .int .i64 y.v.h.d, .string y.v.h.name, .int .i64 y.v.h.k, .slice y.v.A y.v.len y.v.cap]] g _ from equal_any _ x.T (Nat.le_refl _) y.T x.v y.v g (U.out.e.belowW l.out) (V.out.e.belowW l.out)).mono ?_
 rintro e w3 ⟨r3, rfl, ac, N⟩
 have a := l.out.t N
 have ad := Z.out.b9 N
 have ae := E2.out.b9 N
 have af := ab.out.b9 N
 clear m C o D p E q F r G s H u I z J B L M
 obtain ⟨m, _, o, _, p, _, q, _, r, _, s, _, u, _, z, _, B, _⟩ := ad.out.all9
 obtain ⟨C, _, D, _, E, _, F, _, G, _, H, _, I, _, J, _, L, _⟩ := ae.out.all9
 obtain ⟨M, _⟩ := af.out.all1
 cases r3 with
 | false =>
  go_wp2_with fail
  go_ret
  exact ⟨_, rfl, hI ⟨fun h => (by cases h), fun h => (by have := ac.out.2 ((b.out.1 h).1); cases this)⟩, a⟩
 | true =>
  have ak := hI (ac.out.1 rfl)
  cases W with
  | false =>
   go_wp2_with fail
   go_ret
   exact ⟨_, rfl, hI ⟨fun h => (by cases h), fun h => (by have := (b.out.1 h).2.1; cases this)⟩, a⟩
  | true =>
   cases Y with
   | false =>
    go_wp2_with fail
    go_ret
    exact ⟨_, rfl, hI ⟨fun h => (by cases h), fun h => (by have := (b.out.1 h).2.2.1; cases this)⟩, a⟩
   | true =>
    go_wp2_with fail
    refine (ter_eqf x.A x.len x.cap x.rs y.A y.len y.cap y.rs w3 (InQ.list U.out.hr a.out) (InQ.list V.out.hr a.out) (fun x y w' _ hx hy => ter_el x y w' hx hy)).mono ?_
    rintro e w4 ⟨r4, rfl, ag, O⟩; have ah := a.out.t O; clear m C o D p E q F r G s H u I z J B L M; obtain ⟨m, _, o, _, p, _, q, _, r, _, s, _, u, _, z, _, B, _⟩ := (ad.out.belowW O.out).all9; obtain ⟨C, _, D, _, E, _, F, _, G, _, H, _, I, _, J, _, L, _⟩ := (ae.out.belowW O.out).all9; obtain ⟨M, _⟩ := (af.out.belowW O.out).all1
    cases r4 with
    | false =>
     go_wp2_with fail
     go_ret
     exact ⟨_, rfl, hI ⟨fun h => (by cases h), fun h => (by have := ag.out.2 ((b.out.1 h).2.2.2); cases this)⟩, ah⟩
    | true =>
     have am := hI (ag.out.1 rfl)
     go_wp2_with fail
     go_ret
     exact ⟨_, rfl, hI ⟨fun _ => b.out.2 ⟨ak.out, (by trivial), (by trivial), am.out⟩, fun _ => rfl⟩, ah⟩

theorem teg_eqf (pr : Nat) (A : Option Addr) (len cap : Nat) (zs : List EdN) (A2 : Option Addr) (len2 cap2 : Nat) (ys : List EdN) (w : World) (hx : InL 9 EdN.cells InG w A len cap zs) (hy : InL 9 EdN.cells InG w A2 len2 cap2 ys)
 (ih : ∀ (x y : EdN) (w' : World), Below w.heap.size w w' → InG w' x → InG w' y → Calls Tryz.prog 86 #[x.val, y.val, .pointer (some ⟨pr, 0, none⟩)] w' (EqR x.pl y.pl w')) :
 Calls Tryz.prog 78 #[.slice A len cap, .slice A2 len2 cap2, .func (.func 86) #[] #[.pointer (some ⟨pr, 0, none⟩)]] w (EqR (zs.map EdN.pl) (ys.map EdN.pl) w) := by
 have T := hI hx
 have U := hI hy
 have V := hI ih
 have C := hI hx.hl
 have D := hI hy.hl
 have ao : len ≤ 9223372036854775807 := by
  have h1 := hx.hc; have W := hx.hm
  unfold maxLen at W
  omega
 clear hx hy ih
 by_cases hll : len = len2
 case neg =>
  have X : ((len : Int) != (len2 : Int)) = true := (by rw [bne_iff_ne]; omega); have d2 : (len != len2) = true := (by rw [bne_iff_ne]; exact hll)
  go_enter Tryz.func78, Tryz.ntmps78
  go_wp2_with fail
  go_ret
  exact ⟨_, rfl, hI ⟨fun h => (by cases h), fun h => absurd (by have := congrArg List.length h; rw [List.length_map, List.length_map, C.out, D.out] at this; exact this) hll⟩, hI (Below.refl _ _)⟩
 subst hll
 have X : ((len : Int) != (len : Int)) = false := by simp
 go_enter Tryz.func78, Tryz.ntmps78
 go_wp2_with fail
 go_loopg [17] len (fun gk d wr => ∃ i : Nat, d = .int .i64 (i : Nat) ∧ i ≤ len ∧ gk = len - i ∧ Hid ((zs.take i).map EdN.pl = (ys.take i).map EdN.pl) ∧ Hid (Below w.heap.size w wr))
 case atStart => exact ⟨0, rfl, Nat.zero_le _, rfl, hI (by simp), hI (Below.refl _ _)⟩
 obtain ⟨i, rfl, hi, rfl, E, a⟩ := hrel
 have Y := a.out.size
 by_cases hlt : i < len
 ·
  obtain ⟨b, o, x, Z, F, hx, G⟩ := InG.len (InG.list T.out a.out) i hlt; obtain ⟨b2, o2, y, aa, H, hy, I⟩ := InG.len (InG.list U.out a.out) i hlt; subst Z aa; have d3 : decide ((i : Int) < (len : Int)) = true := decide_eq_true (by omega); have d4 : decide (i < len) = true := decide_eq_true hlt; have aw : 0 ≤ (i : Int) ∧ (i : Int) < (len : Int) := (by omega); have ad := hI hx; have ae := hI hy; have EY := hI I; have J := hI F; have L := hI H; obtain ⟨c, g, j, l, m, p, q, s, u, z⟩ := EdN.cells_at G; clear hx hy I G F H
  go_upto_region 6 with (fail)
  obtain ⟨w1, M, N, E1⟩ := aX wr 81 #[.int .i64 x.v.h.kind, .int .i64 x.v.h.n, .int .i64 x.v.h.d, .string x.v.h.name, .int .i64 x.v.h.k, .slice x.v.A x.v.len x.v.cap, .int .i64 x.dir, .string x.tn, .slice x.A x.len x.cap]; rw [← M]; clear M c g j l m p q s u z; obtain ⟨c, g, j, l, m, p, q, s, u, z⟩ := EdN.cells_at (EY.out.belowW N.out)
  go_upto_region 7 with (fail)
  obtain ⟨w2, O, P, E2⟩ := aX w1 81 #[.int .i64 y.v.h.kind, .int .i64 y.v.h.n, .int .i64 y.v.h.d, .string y.v.h.name, .int .i64 y.v.h.k, .slice y.v.A y.v.len y.v.cap, .int .i64 y.dir, .string y.tn, .slice y.A y.len y.cap]; rw [← O]; clear O c g j l m p q s u z; have B := N.out.t P; have Q := hI (a.out.trans (B.out.mono Y)); obtain ⟨p0, _, p1, _, p2, _, p3, _, p4, _, p5, _, p6, _, p7, _, p8, _⟩ := (E1.out.belowW P.out).all9; obtain ⟨q0, _, q1, _, q2, _, q3, _, q4, _, q5, _, q6, _, q7, _, q8, _⟩ := E2.out.all9
  go_wp2_with fail
  refine (V.out x y w2 Q.out (ad.out.belowW B.out) (ae.out.belowW B.out)).mono ?_
  rintro e w3 ⟨r, rfl, R, ak⟩; have S := Q.out.t ak
  cases r with
  | false =>
   go_wp2_with fail
   go_ret
   exact ⟨_, rfl, hI ⟨fun h => (by cases h), fun h => absurd h (map_ne _ J.out L.out (fun e => by have := R.out.2 e; cases this))⟩, S⟩
  | true =>
   have al := hI (R.out.1 rfl); have e1 : IntKind.i64.wrap ((i : Int) + 1) = (i : Int) + 1 := (by rw [IntKind.wrap_i64]; omega)
   go_wp2_with fail
   go_roundg (len - (i + 1))
   case measure => omega
   case rel => exact ⟨i + 1, by go_num, by omega, rfl, hI (by rw [take_snocA _ _ _ J.out, take_snocA _ _ _ L.out, List.map_append, List.map_append, E.out]; simp [al.out]), S⟩
 have d3 : decide ((i : Int) < (len : Int)) = false := decide_eq_false (by omega)
 have d4 : decide (i < len) = false := decide_eq_false hlt
 have am : i = len := by omega
 have HF := hI (show zs.map EdN.pl = ys.map EdN.pl by
  have := E.out
  rw [am, List.take_of_length_le (by rw [C.out]; exact Nat.le_refl _), List.take_of_length_le (by rw [D.out]; exact Nat.le_refl _)] at this
  exact this)
 go_wp2_with fail
 go_ret
 exact ⟨_, rfl, hI ⟨fun _ => HF.out, fun _ => rfl⟩, a⟩

theorem tem_el (pr : Nat) (pq : Nat) (ps : Nat) (x y : MdN) (w : World) (hx : InM w x) (hy : InM w y) (hp : Blk w pr 124 #[.func (.func 85) #[] #[]]) (hq : Blk w pq 123 #[.func (.func 87) #[] #[]]) (hs : Blk w ps 126 #[.func (.func 86) #[] #[.pointer (some ⟨pr, 0, none⟩)]]) : Calls Tryz.prog 88 #[x.val, y.val, .pointer (some ⟨pq, 0, none⟩), .pointer (some ⟨ps, 0, none⟩)] w (EqR x.pl y.pl w) := by
 have G := hI hx
 have H := hI hy
 clear hx hy
 obtain ⟨I, E⟩ : ∃ c, (x.s == y.s) = c := ⟨_, rfl⟩
 have ad := str_beq _ _ _ E
 have W := hI hp
 have X := hI hq
 have Y := hI hs
 clear hp hq hs
 have j := hI (show x.pl = y.pl ↔ I = true ∧ x.fl.map EqN.pl = y.fl.map EqN.pl ∧ x.ed.map EdN.pl = y.ed.map EdN.pl from ⟨fun e => by
  injection e with e1 e2 e3
  exact ⟨(str_iff E).2 e1, e2, e3⟩, fun e => by
  unfold MdN.pl
  rw [(str_iff E).1 e.1, e.2.1, e.2.2]⟩)
 go_enter Tryz.func88, Tryz.ntmps88
 go_upto_region 1 with (fail)
 obtain ⟨k, i⟩ := eX ((w.alloc (Obj.cells #[.string x.s, .slice x.A x.n x.c, .slice x.B x.m x.d] 74)).alloc (Obj.cells #[.string y.s, .slice y.A y.n y.c, .slice y.B y.m y.d] 74))
 have a := hI (show Below w.heap.size w k by rw [i]; exact (below_box _ _).trans ((below_box _ _).mono (by simp)))
 have J := hI (show Blk k w.heap.size 74 #[.string x.s, .slice x.A x.n x.c, .slice x.B x.m x.d] by rw [i]; exact (Blk.new w 74 #[.string x.s, .slice x.A x.n x.c, .slice x.B x.m x.d]).belowW (below_box _ _))
 have L := hI (show Blk k (w.heap.size + 1) 74 #[.string y.s, .slice y.A y.n y.c, .slice y.B y.m y.d] by rw [i]; exact (by have := Blk.new (w.alloc (Obj.cells #[.string x.s, .slice x.A x.n x.c, .slice x.B x.m x.d] 74)) 74 #[.string y.s, .slice y.A y.n y.c, .slice y.B y.m y.d]; simpa using this))
 rw [← i]
 clear i
 have M := W.out.b9 a
 have N := X.out.b9 a
 have O := Y.out.b9 a
 obtain ⟨l, _, o, _, p, _⟩ := J.out.all3
 obtain ⟨q, _, r, _, u, _⟩ := L.out.all3
 obtain ⟨v, _⟩ := N.out.all1
 obtain ⟨z, _⟩ := O.out.all1
 obtain ⟨C, _⟩ := M.out.all1
 cases I with
 | false =>
  go_wp2_with fail
  go_ret
  exact ⟨_, rfl, hI ⟨fun h => (by cases h), fun h => (by have := (j.out.1 h).1; cases this)⟩, a⟩
 | true =>
  go_wp2_with fail
  refine (teq_eqf x.A x.n x.c x.fl y.A y.n y.c y.fl k (InQ.list G.out.hf a.out) (InQ.list H.out.hf a.out) (fun x y w' _ hx hy => teq_el x y w' hx hy)).mono ?_
  rintro e w3 ⟨Z, rfl, P, b⟩; have D := a.out.t b; have Q := J.out.b9 b; have R := L.out.b9 b; have S := N.out.b9 b; have T := O.out.b9 b; have F := M.out.b9 b; clear l q o r p u v z C; obtain ⟨l, _, o, _, p, _⟩ := Q.out.all3; obtain ⟨q, _, r, _, u, _⟩ := R.out.all3; obtain ⟨v, _⟩ := S.out.all1; obtain ⟨z, _⟩ := T.out.all1; obtain ⟨C, _⟩ := F.out.all1
  cases Z with
  | false =>
   go_wp2_with fail
   go_ret
   exact ⟨_, rfl, hI ⟨fun h => (by cases h), fun h => (by have := P.out.2 ((j.out.1 h).2.1); cases this)⟩, D⟩
  | true =>
   have aa := hI (P.out.1 rfl)
   go_wp2_with fail
   refine (teg_eqf pr x.B x.m x.d x.ed y.B y.m y.d y.ed w3 (InG.list G.out.he D.out) (InG.list H.out.he D.out) (fun x y w' hb hx hy => teg_el pr x y w' hx hy (F.out.belowW hb))).mono ?_
   rintro e w4 ⟨r4, rfl, U, g⟩; have V := D.out.t g; clear l q o r p u v z C; obtain ⟨l, _, o, _, p, _⟩ := (Q.out.belowW g.out).all3; obtain ⟨q, _, r, _, u, _⟩ := (R.out.belowW g.out).all3; obtain ⟨v, _⟩ := (S.out.belowW g.out).all1; obtain ⟨z, _⟩ := (T.out.belowW g.out).all1; obtain ⟨C, _⟩ := (F.out.belowW g.out).all1
   cases r4 with
   | false =>
    go_wp2_with fail
    go_ret
    exact ⟨_, rfl, hI ⟨fun h => (by cases h), fun h => (by have := U.out.2 ((j.out.1 h).2.2); cases this)⟩, V⟩
   | true =>
    have ac := hI (U.out.1 rfl)
    go_wp2_with fail
    go_ret
    exact ⟨_, rfl, hI ⟨fun _ => j.out.2 ⟨(by trivial), aa.out, ac.out⟩, fun _ => rfl⟩, V⟩

theorem tem_eqf (pq : Nat) (ps : Nat) (A : Option Addr) (len cap : Nat) (zs : List MdN) (A2 : Option Addr) (len2 cap2 : Nat) (ys : List MdN) (w : World) (hx : InL 3 MdN.cells InM w A len cap zs) (hy : InL 3 MdN.cells InM w A2 len2 cap2 ys)
 (ih : ∀ (x y : MdN) (w' : World), Below w.heap.size w w' → InM w' x → InM w' y → Calls Tryz.prog 88 #[x.val, y.val, .pointer (some ⟨pq, 0, none⟩), .pointer (some ⟨ps, 0, none⟩)] w' (EqR x.pl y.pl w')) :
 Calls Tryz.prog 80 #[.slice A len cap, .slice A2 len2 cap2, .func (.func 88) #[] #[.pointer (some ⟨pq, 0, none⟩), .pointer (some ⟨ps, 0, none⟩)]] w (EqR (zs.map MdN.pl) (ys.map MdN.pl) w) := by
 have P := hI hx
 have Q := hI hy
 have R := hI ih
 have q := hI hx.hl
 have u := hI hy.hl
 have ak : len ≤ 9223372036854775807 := by
  have h1 := hx.hc; have S := hx.hm
  unfold maxLen at S
  omega
 clear hx hy ih
 by_cases hll : len = len2
 case neg =>
  have T : ((len : Int) != (len2 : Int)) = true := (by rw [bne_iff_ne]; omega); have d2 : (len != len2) = true := (by rw [bne_iff_ne]; exact hll)
  go_enter Tryz.func80, Tryz.ntmps80
  go_wp2_with fail
  go_ret
  exact ⟨_, rfl, hI ⟨fun h => (by cases h), fun h => absurd (by have := congrArg List.length h; rw [List.length_map, List.length_map, q.out, u.out] at this; exact this) hll⟩, hI (Below.refl _ _)⟩
 subst hll
 have T : ((len : Int) != (len : Int)) = false := by simp
 go_enter Tryz.func80, Tryz.ntmps80
 go_wp2_with fail
 go_loopg [17] len (fun gk d wr => ∃ i : Nat, d = .int .i64 (i : Nat) ∧ i ≤ len ∧ gk = len - i ∧ Hid ((zs.take i).map MdN.pl = (ys.take i).map MdN.pl) ∧ Hid (Below w.heap.size w wr))
 case atStart => exact ⟨0, rfl, Nat.zero_le _, rfl, hI (by simp), hI (Below.refl _ _)⟩
 obtain ⟨i, rfl, hi, rfl, v, a⟩ := hrel
 have U := a.out.size
 by_cases hlt : i < len
 ·
  obtain ⟨b, o, x, V, z, hx, C⟩ := InM.len (InM.list P.out a.out) i hlt; obtain ⟨b2, o2, y, W, D, hy, E⟩ := InM.len (InM.list Q.out a.out) i hlt; subst V W; have X : decide ((i : Int) < (len : Int)) = true := decide_eq_true (by omega); have Y : decide (i < len) = true := decide_eq_true hlt; have aq : 0 ≤ (i : Int) ∧ (i : Int) < (len : Int) := (by omega); have Z := hI hx; have aa := hI hy; have EY := hI E; have F := hI z; have G := hI D; obtain ⟨g, j, k, l⟩ := MdN.cells_at C; clear hx hy E C z D
  go_upto_region 6 with (fail)
  obtain ⟨w1, H, I, E1⟩ := aX wr 74 #[.string x.s, .slice x.A x.n x.c, .slice x.B x.m x.d]; rw [← H]; clear H g j k l; obtain ⟨g, j, k, l⟩ := MdN.cells_at (EY.out.belowW I.out)
  go_upto_region 7 with (fail)
  obtain ⟨w2, J, L, E2⟩ := aX w1 74 #[.string y.s, .slice y.A y.n y.c, .slice y.B y.m y.d]; rw [← J]; clear J g j k l; have p := I.out.t L; have M := hI (a.out.trans (p.out.mono U)); obtain ⟨p0, _, p1, _, p2, _⟩ := (E1.out.belowW L.out).all3; obtain ⟨q0, _, q1, _, q2, _⟩ := E2.out.all3
  go_wp2_with fail
  refine (R.out x y w2 M.out (Z.out.belowW p.out) (aa.out.belowW p.out)).mono ?_
  rintro e w3 ⟨r, rfl, N, ag⟩; have O := M.out.t ag
  cases r with
  | false =>
   go_wp2_with fail
   go_ret
   exact ⟨_, rfl, hI ⟨fun h => (by cases h), fun h => absurd h (map_ne _ F.out G.out (fun e => by have := N.out.2 e; cases this))⟩, O⟩
  | true =>
   have ah := hI (N.out.1 rfl); have e1 : IntKind.i64.wrap ((i : Int) + 1) = (i : Int) + 1 := (by rw [IntKind.wrap_i64]; omega)
   go_wp2_with fail
   go_roundg (len - (i + 1))
   case measure => omega
   case rel => exact ⟨i + 1, by go_num, by omega, rfl, hI (by rw [take_snocA _ _ _ F.out, take_snocA _ _ _ G.out, List.map_append, List.map_append, v.out]; simp [ah.out]), O⟩
 have X : decide ((i : Int) < (len : Int)) = false := decide_eq_false (by omega)
 have Y : decide (i < len) = false := decide_eq_false hlt
 have ai : i = len := by omega
 have HF := hI (show zs.map MdN.pl = ys.map MdN.pl by
  have := v.out
  rw [ai, List.take_of_length_le (by rw [q.out]; exact Nat.le_refl _), List.take_of_length_le (by rw [u.out]; exact Nat.le_refl _)] at this
  exact this)
 go_wp2_with fail
 go_ret
 exact ⟨_, rfl, hI ⟨fun _ => HF.out, fun _ => rfl⟩, a⟩
end Go.Proofs.YtkjoohnndobjeaaGreatDoor
namespace Go.Proofs.YtkjoohnndobjeaaGreatDoor
open Go.RowKit Go.Fl Go.Fl.Lx Go.Fl.Nm Go.Fl.Fm Go.Fl.Rt Go.Fl.Pa
open List (setIfInBounds_toArray set_cons_zero set_cons_succ getElem_toArray getElem_cons_zero getElem_cons_succ)
/-- Both are right, and equal. -/
def EqS (x y : PbN) (w : World) (e : Ending) (w' : World) : Prop := ∃ r : Bool, e = .returned (.bool r) ∧ Hid (r = true ↔ x.ok = true ∧ y.ok = true ∧ x.pl = y.pl) ∧ Hid (Below w.heap.size w w')
def EqO (b : Bool) (w : World) (e : Ending) (w' : World) : Prop := ∃ r : Bool, e = .returned (.bool r) ∧ Hid (r = true ↔ b = true) ∧ Hid (Below w.heap.size w w')
theorem tprob_b (x : PbN) (w : World) (hx : InP w x) : Calls Tryz.prog 70 #[.agg #[.slice x.A x.n x.c, .slice x.B x.m x.d, .slice x.C x.k x.e, .int .i64 x.t, .int .i64 x.u]] w (EqO x.ok w) :=
 (tproblem_p x w hx).mono fun e w' h => ⟨x.ok, h.1, hI Iff.rfl, h.2⟩

theorem tsame_any (x y : PbN) (w : World) (hx : InP w x) (hy : InP w y) : Calls Tryz.prog 43 #[x.val, y.val] w (EqS x y w) := by
 have L := hI hx
 have M := hI hy
 clear hx hy
 obtain ⟨U, ai⟩ : ∃ c, ((x.t == y.t) && (x.u == y.u)) = c := ⟨_, rfl⟩
 have bo := run_eq_rat
 have bp : ∀ (fn : Fn) (first cap : Array Value) (w : World), (Instr.makeFunc fn first cap).run Tryz.prog w = .ok (.func fn first cap) w := fun _ _ _ _ => rfl
 have v := hI (show (x.ok = true ∧ y.ok = true ∧ x.pl = y.pl) ↔ x.ok = true ∧ y.ok = true ∧ U = true ∧ x.st.map DcN.pl = y.st.map DcN.pl ∧ x.pa.map DcN.pl = y.pa.map DcN.pl ∧ x.ms.map MdN.pl = y.ms.map MdN.pl from and_congr_right (fun _ => and_congr_right (fun _ => (show x.pl = y.pl ↔ U = true ∧ x.st.map DcN.pl = y.st.map DcN.pl ∧ x.pa.map DcN.pl = y.pa.map DcN.pl ∧ x.ms.map MdN.pl = y.ms.map MdN.pl from ⟨fun e => by
  injection e with e1 e2 e3 e4; injection e4 with e4 e5
  exact ⟨by rw [← ai, e4, e5]; simp, e1, e2, e3⟩, fun e => by
  obtain ⟨V, st, pa, ms⟩ := e; rw [← ai, Bool.and_eq_true, beq_iff_eq, beq_iff_eq] at V
  unfold PbN.pl
  rw [st, pa, ms, V.1, V.2]⟩))))
 go_enter Tryz.func43, Tryz.ntmps43
 go_upto_region 1 with (fail)
 obtain ⟨N, J⟩ := eX ((w.alloc (Obj.cells #[.slice x.A x.n x.c, .slice x.B x.m x.d, .slice x.C x.k x.e, .int .i64 x.t, .int .i64 x.u] 68)).alloc (Obj.cells #[.slice y.A y.n y.c, .slice y.B y.m y.d, .slice y.C y.k y.e, .int .i64 y.t, .int .i64 y.u] 68))
 have HW := hI (show Below w.heap.size w N by rw [J]; exact (below_box _ _).trans ((below_box _ _).mono (by simp)))
 have E1 := hI (show Blk N w.heap.size 68 #[.slice x.A x.n x.c, .slice x.B x.m x.d, .slice x.C x.k x.e, .int .i64 x.t, .int .i64 x.u] by rw [J]; exact (Blk.new w 68 #[.slice x.A x.n x.c, .slice x.B x.m x.d, .slice x.C x.k x.e, .int .i64 x.t, .int .i64 x.u]).belowW (below_box _ _))
 have E2 := hI (show Blk N (w.heap.size + 1) 68 #[.slice y.A y.n y.c, .slice y.B y.m y.d, .slice y.C y.k y.e, .int .i64 y.t, .int .i64 y.u] by rw [J]; exact (by have := Blk.new (w.alloc (Obj.cells #[.slice x.A x.n x.c, .slice x.B x.m x.d, .slice x.C x.k x.e, .int .i64 x.t, .int .i64 x.u] 68)) 68 #[.slice y.A y.n y.c, .slice y.B y.m y.d, .slice y.C y.k y.e, .int .i64 y.t, .int .i64 y.u]; simpa using this))
 rw [← J]
 clear J
 obtain ⟨a, _, b, _, g, _, i, _, j, _⟩ := E1.out.all5
 obtain ⟨l, _, o, _, p, _, q, _, r, _⟩ := E2.out.all5
 go_wp2_with fail
 refine (tprob_b x N (L.out.belowW HW.out)).mono ?_
 rintro e w21 ⟨be, rfl, am, W⟩
 have X := HW.out.t W
 have an := E1.out.b9 W
 have ao := E2.out.b9 W
 clear a l b o g p i q j r
 obtain ⟨a, _, b, _, g, _, i, _, j, _⟩ := an.out.all5
 obtain ⟨l, _, o, _, p, _, q, _, r, _⟩ := ao.out.all5
 cases be with
 | false =>
  go_wp2_with fail
  go_ret
  exact ⟨_, rfl, hI ⟨fun h => (by cases h), fun h => (by have := am.out.2 ((v.out.1 h).1); cases this)⟩, X⟩
 | true =>
  have bf := hI (am.out.1 rfl)
  go_wp2_with fail
  refine (tprob_b y w21 (M.out.belowW X.out)).mono ?_
  rintro e w22 ⟨bg, rfl, ap, Y⟩; have aq := X.out.t Y; have ar := an.out.b9 Y; have au := ao.out.b9 Y; clear a l b o g p i q j r; obtain ⟨a, _, b, _, g, _, i, _, j, _⟩ := ar.out.all5; obtain ⟨l, _, o, _, p, _, q, _, r, _⟩ := au.out.all5
  cases bg with
  | false =>
   go_wp2_with fail
   go_ret
   exact ⟨_, rfl, hI ⟨fun h => (by cases h), fun h => (by have := ap.out.2 ((v.out.1 h).2.1); cases this)⟩, aq⟩
  | true =>
   have bh := hI (ap.out.1 rfl)
   go_upto_region 6 with (fail)
   obtain ⟨Z, aa⟩ := eX (w22.heap.size); obtain ⟨s, ab⟩ := eX (Z); obtain ⟨O, ac⟩ := eX (Z + 1); obtain ⟨P, ad⟩ := eX (Z + 1 + 1); have Q : w22.heap.size = s ∧ (w22.alloc (Obj.cells #[.func (.func 85) #[] #[]] 124)).heap.size = O ∧ ((w22.alloc (Obj.cells #[.func (.func 85) #[] #[]] 124)).alloc (Obj.cells #[.func (.func 86) #[] #[.pointer (some ⟨s, 0, none⟩)]] 126)).heap.size = P := (by refine ⟨?_, ?_, ?_⟩ <;> simp only [World.size_alloc, ← aa, ab, ad, ac])
   try rw [← aa]
   try simp only [← ad]
   try simp only [← ac]
   try simp only [← ab]
   obtain ⟨w9, z⟩ := eX ((((w22.alloc (Obj.cells #[.func (.func 85) #[] #[]] 124)).alloc (Obj.cells #[.func (.func 86) #[] #[.pointer (some ⟨s, 0, none⟩)]] 126)).alloc (Obj.cells #[.func (.func 87) #[] #[]] 123))); have ae := hI (show Below w22.heap.size w22 w9 by rw [z]; exact ((below_box _ _).trans ((below_box _ _).mono (by simp))).trans ((below_box _ _).mono (by simp; omega))); have av := hI (show Blk w9 s 124 #[.func (.func 85) #[] #[]] by rw [z, ← Q.1]; exact ((Blk.new w22 124 #[.func (.func 85) #[] #[]]).belowW (below_box _ _)).belowW (below_box _ _)); have aw := hI (show Blk w9 O 126 #[.func (.func 86) #[] #[.pointer (some ⟨s, 0, none⟩)]] by rw [z, ← Q.2.1]; exact (Blk.new (w22.alloc (Obj.cells #[.func (.func 85) #[] #[]] 124)) 126 #[.func (.func 86) #[] #[.pointer (some ⟨s, 0, none⟩)]]).belowW (below_box _ _)); have ax := hI (show Blk w9 P 123 #[.func (.func 87) #[] #[]] by rw [z, ← Q.2.2]; exact Blk.new ((w22.alloc (Obj.cells #[.func (.func 85) #[] #[]] 124)).alloc (Obj.cells #[.func (.func 86) #[] #[.pointer (some ⟨s, 0, none⟩)]] 126)) 123 #[.func (.func 87) #[] #[]]); rw [← z]; have R := aq.out.t ae; have ay := ar.out.b9 ae; have az := au.out.b9 ae; clear z Q ab ac ad aa a l b o g p i q j r; obtain ⟨a, _, b, _, g, _, i, _, j, _⟩ := ay.out.all5; obtain ⟨l, _, o, _, p, _, q, _, r, _⟩ := az.out.all5; obtain ⟨D, _⟩ := av.out.all1; obtain ⟨E, _⟩ := ax.out.all1; obtain ⟨F, _⟩ := aw.out.all1
   cases U with
   | false =>
    go_wp2_with fail
    go_ret
    exact ⟨_, rfl, hI ⟨fun h => (by cases h), fun h => (by have := (v.out.1 h).2.2.1; cases this)⟩, R⟩
   | true =>
    go_wp2_with fail
    refine (eqd_any x.A x.n x.c x.st y.A y.n y.c y.st w9 (InD.list L.out.hs R.out) (InD.list M.out.hs R.out)).mono ?_
    rintro e w23 ⟨bi, rfl, a0, G⟩; have S := R.out.t G; have a1 := ay.out.b9 G; have a2 := az.out.b9 G; have a3 := av.out.b9 G; have a4 := ax.out.b9 G; have a5 := aw.out.b9 G; clear a l b o g p i q j r D E F; obtain ⟨a, _, b, _, g, _, i, _, j, _⟩ := a1.out.all5; obtain ⟨l, _, o, _, p, _, q, _, r, _⟩ := a2.out.all5; obtain ⟨D, _⟩ := a3.out.all1; obtain ⟨E, _⟩ := a4.out.all1; obtain ⟨F, _⟩ := a5.out.all1
    cases bi with
    | false =>
     go_wp2_with fail
     go_ret
     exact ⟨_, rfl, hI ⟨fun h => (by cases h), fun h => (by have := a0.out.2 ((v.out.1 h).2.2.2.1); cases this)⟩, S⟩
    | true =>
     have bj := hI (a0.out.1 rfl)
     go_wp2_with fail
     refine (eqd_any x.B x.m x.d x.pa y.B y.m y.d y.pa w23 (InD.list L.out.hp S.out) (InD.list M.out.hp S.out)).mono ?_
     rintro e w24 ⟨bk, rfl, a6, H⟩; have T := S.out.t H; have a7 := a1.out.b9 H; have a8 := a2.out.b9 H; have af := a3.out.b9 H; have ag := a4.out.b9 H; have ah := a5.out.b9 H; clear a l b o g p i q j r D E F; obtain ⟨a, _, b, _, g, _, i, _, j, _⟩ := a7.out.all5; obtain ⟨l, _, o, _, p, _, q, _, r, _⟩ := a8.out.all5; obtain ⟨D, _⟩ := af.out.all1; obtain ⟨E, _⟩ := ag.out.all1; obtain ⟨F, _⟩ := ah.out.all1
     cases bk with
     | false =>
      go_wp2_with fail
      go_ret
      exact ⟨_, rfl, hI ⟨fun h => (by cases h), fun h => (by have := a6.out.2 ((v.out.1 h).2.2.2.2.1); cases this)⟩, T⟩
     | true =>
      have bl := hI (a6.out.1 rfl)
      go_wp2_with fail
      refine (tem_eqf P O x.C x.k x.e x.ms y.C y.k y.e y.ms w24 (InM.list L.out.hm T.out) (InM.list M.out.hm T.out) (fun x y w' hb hx hy => tem_el s P O x y w' hx hy (af.out.belowW hb) (ag.out.belowW hb) (ah.out.belowW hb))).mono ?_
      rintro e w25 ⟨bm, rfl, a9, I⟩; have ba := T.out.t I; clear a l b o g p i q j r D E F; obtain ⟨a, _, b, _, g, _, i, _, j, _⟩ := (a7.out.belowW I.out).all5; obtain ⟨l, _, o, _, p, _, q, _, r, _⟩ := (a8.out.belowW I.out).all5; obtain ⟨D, _⟩ := (af.out.belowW I.out).all1; obtain ⟨E, _⟩ := (ag.out.belowW I.out).all1; obtain ⟨F, _⟩ := (ah.out.belowW I.out).all1
      cases bm with
      | false =>
       go_wp2_with fail
       go_ret
       exact ⟨_, rfl, hI ⟨fun h => (by cases h), fun h => (by have := a9.out.2 ((v.out.1 h).2.2.2.2.2); cases this)⟩, ba⟩
      | true =>
       have bn := hI (a9.out.1 rfl)
       go_wp2_with fail
       go_ret
       exact ⟨_, rfl, hI ⟨fun _ => v.out.2 ⟨bf.out, bh.out, (by trivial), bj.out, bl.out, bn.out⟩, fun _ => rfl⟩, ba⟩
end Go.Proofs.YtkjoohnndobjeaaGreatDoor
