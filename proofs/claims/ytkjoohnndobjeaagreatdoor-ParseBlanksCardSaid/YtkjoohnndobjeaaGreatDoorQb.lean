/-
  The walks of the tests whether parts of problems are equal (tree.Same).
-/
import Derived.Test.YtkjoohnndobjeaaGreatDoorQZ
import Derived.Test.YtkjoohnndobjeaaGreatDoorQL
import Derived.Test.YtkjoohnndobjeaaGreatDoorQW
import Derived.Test.YtkjoohnndobjeaaGreatDoorQX
set_option linter.unusedVariables false
set_option maxHeartbeats 4000000
set_option maxRecDepth 100000
namespace Go.Proofs.YtkjoohnndobjeaaGreatDoor
open Go.RowKit Go.Fl Go.Fl.Lx Go.Fl.Nm Go.Fl.Fm Go.Fl.Rt Go.Fl.Pa
open List (setIfInBounds_toArray set_cons_zero set_cons_succ getElem_toArray getElem_cons_zero getElem_cons_succ)
theorem str_beq (s s' : ByteArray) (c : Bool) (h : (s == s') = c) : (s.toList == s'.toList) = c := by
 rw [ByteArray.toList_eq, ByteArray.toList_eq, ← h, Bool.eq_iff_iff, beq_iff_eq, MapKept.bytes_beq]
 exact ⟨fun e => ByteArray.ext (Array.toList_inj.1 e), fun e => by rw [e]⟩
theorem str_iff {s s' : ByteArray} {c : Bool} (h : (s == s') = c) : c = true ↔ s.data.toList = s'.data.toList := by
 rw [← h, MapKept.bytes_beq]
 exact ⟨fun e => by rw [e], fun e => ByteArray.ext (Array.toList_inj.1 e)⟩
theorem map_ne {α β : Type} (f : α → β) {zs ys : List α} {i : Nat} {x y : α} (hx : zs[i]? = some x) (hy : ys[i]? = some y) (h : f x ≠ f y) : zs.map f ≠ ys.map f := fun e => by
 have h1 : (zs.map f)[i]? = some (f x) := by rw [List.getElem?_map, hx]; rfl
 have h2 : (ys.map f)[i]? = some (f y) := by rw [List.getElem?_map, hy]; rfl
 rw [e, h2] at h1
 injection h1 with h1
 exact h h1.symm
theorem dcl_eq (x y : DcN) : x.pl = y.pl ↔ (x.s == y.s) = true ∧ x.a = y.a ∧ x.b = y.b ∧ x.c = y.c ∧ x.d = y.d := by
 constructor
 ·
  intro e
  injection e with e1 e2
  injection e2 with e3 e4
  injection e3 with e5 e6
  injection e4 with e7 e8
  exact ⟨(str_iff rfl).2 e1, e5, e6, e7, e8⟩
 rintro ⟨e1, e2, e3, e4, e5⟩
 unfold DcN.pl
 rw [(str_iff rfl).1 e1, e2, e3, e4, e5]
theorem run_neq_dcl (w : World) (x y : DcN) :
 (binOp .neq 76 (.agg #[.string x.s, .int .i64 x.a, .int .i64 x.b, .int .i64 x.c, .int .i64 x.d]) (.agg #[.string y.s, .int .i64 y.a, .int .i64 y.b, .int .i64 y.c, .int .i64 y.d])).run Tryz.prog w = .ok (.bool (!((x.s == y.s) && ((x.a == y.a) && ((x.b == y.b) && ((x.c == y.c) && (x.d == y.d))))))) w := by
 have h3 := str_beq x.s y.s _ rfl
 simp [go_sem]
 cases hs : (x.s == y.s) <;> rw [hs] at h3 <;> by_cases h4 : x.a = y.a <;> by_cases h5 : x.b = y.b <;> by_cases h6 : x.c = y.c <;> by_cases h7 : x.d = y.d <;> simp_all

theorem eqd_any (A : Option Addr) (len cap : Nat) (zs : List DcN) (A2 : Option Addr) (len2 cap2 : Nat) (ys : List DcN) (w : World) (hx : InL 5 DcN.cells InD w A len cap zs) (hy : InL 5 DcN.cells InD w A2 len2 cap2 ys) :
 Calls Tryz.prog 79 #[.slice A len cap, .slice A2 len2 cap2] w (EqR (zs.map DcN.pl) (ys.map DcN.pl) w) := by
 have I := hI hx
 have J := hI hy
 have q := hI hx.hl
 have r := hI hy.hl
 have X : len ≤ 9223372036854775807 := by
  have Y := hx.hc; have L := hx.hm
  unfold maxLen at L
  omega
 clear hx hy
 by_cases hll : len = len2
 case neg =>
  have M : ((len : Int) != (len2 : Int)) = true := (by rw [bne_iff_ne]; omega); have Z : (len != len2) = true := (by rw [bne_iff_ne]; exact hll)
  go_enter Tryz.func79, Tryz.ntmps79
  go_wp2_with fail
  go_ret
  exact ⟨_, rfl, hI ⟨fun h => (by cases h), fun h => absurd (by have := congrArg List.length h; rw [List.length_map, List.length_map, q.out, r.out] at this; exact this) hll⟩, hI (Below.refl _ _)⟩
 subst hll
 have M : ((len : Int) != (len : Int)) = false := by simp
 have aa := run_neq_dcl
 go_enter Tryz.func79, Tryz.ntmps79
 go_wp2_with fail
 go_loopg [13] len (fun gk d wr => ∃ i : Nat, d = .int .i64 (i : Nat) ∧ i ≤ len ∧ gk = len - i ∧ Hid ((zs.take i).map DcN.pl = (ys.take i).map DcN.pl) ∧ Hid (Below w.heap.size w wr))
 case atStart => exact ⟨0, rfl, Nat.zero_le _, rfl, hI (by simp), hI (Below.refl _ _)⟩
 obtain ⟨i, rfl, hi, rfl, u, k⟩ := hrel
 have ac := k.out.size
 by_cases hlt : i < len
 ·
  have ad := hI (show Below wr.heap.size wr wr.drew from below_dr _); obtain ⟨b, o, x, N, z, hx, B⟩ := InD.len (InD.list I.out k.out) i hlt; obtain ⟨l, m, y, O, C, hy, D⟩ := InD.len (InD.list J.out k.out) i hlt; subst N O; have P : decide ((i : Int) < (len : Int)) = true := decide_eq_true (by omega); have Q : decide (i < len) = true := decide_eq_true hlt; have ae : 0 ≤ (i : Int) ∧ (i : Int) < (len : Int) := (by omega); have E := hI z; have F := hI C; have R := hI B; have T := hI D; clear hx hy D B z C
  obtain ⟨c, hc⟩ : ∃ c, ((x.s == y.s) && ((x.a == y.a) && ((x.b == y.b) && ((x.c == y.c) && (x.d == y.d))))) = c := ⟨_, rfl⟩
  have G := hI (show c = true ↔ x.pl = y.pl by rw [← hc, dcl_eq]; simp [Bool.and_eq_true])
  go_upto_region 6 with (fail)
  have n := hI (below_dr wr); have g := R.out.b9 n; have j := T.out.b9 n; have p := k.out.t n
  refine wp_region_held_drew (S := fun w' => w'.cell? ⟨b, o + i * 5, none⟩ = some (.string x.s) ∧ w'.cell? ⟨b, o + i * 5 + 1, none⟩ = some (.int .i64 x.a) ∧ w'.cell? ⟨b, o + i * 5 + 2, none⟩ = some (.int .i64 x.b) ∧ w'.cell? ⟨b, o + i * 5 + 3, none⟩ = some (.int .i64 x.c) ∧ w'.cell? ⟨b, o + i * 5 + 4, none⟩ = some (.int .i64 x.d) ∧ w'.cell? ⟨l, m + i * 5, none⟩ = some (.string y.s) ∧ w'.cell? ⟨l, m + i * 5 + 1, none⟩ = some (.int .i64 y.a) ∧ w'.cell? ⟨l, m + i * 5 + 2, none⟩ = some (.int .i64 y.b) ∧ w'.cell? ⟨l, m + i * 5 + 3, none⟩ = some (.int .i64 y.c) ∧ w'.cell? ⟨l, m + i * 5 + 4, none⟩ = some (.int .i64 y.d)) (by kernel_rfl) ?_ (fun hHeld => ?_)
  case refine_1 => exact ⟨g.out.c 0 _ rfl, g.out.c 1 _ rfl, g.out.c 2 _ rfl, g.out.c 3 _ rfl, g.out.c 4 _ rfl, j.out.c 0 _ rfl, j.out.c 1 _ rfl, j.out.c 2 _ rfl, j.out.c 3 _ rfl, j.out.c 4 _ rfl⟩
  obtain ⟨af, H⟩ := eX (wr.drew); rw [← H] at n g j p hHeld ⊢; clear H
  refine tkY 0 rfl (v := ?_) (.inl ⟨by rfl, ?_⟩) ?_
  case refine_2 => intro w9 hSw; (try dsimp only at hSw); go_simp; (try with_reducible rfl)
  try simp only [Act.put, setIfInBounds_toArray, set_cons_zero, set_cons_succ, getElem_toArray, getElem_cons_zero]
  refine tkY 1 rfl (v := ?_) (.inl ⟨by rfl, ?_⟩) ?_
  case refine_2 => intro w9 hSw; (try dsimp only at hSw); go_simp; (try with_reducible rfl)
  try simp only [Act.put, setIfInBounds_toArray, set_cons_zero, set_cons_succ, getElem_toArray, getElem_cons_zero, getElem_cons_succ]
  refine tkY 2 rfl (v := ?_) (.inl ⟨by rfl, ?_⟩) ?_
  case refine_2 => intro w9 hSw; (try dsimp only at hSw); go_simp; (try with_reducible rfl)
  try simp only [Act.put, setIfInBounds_toArray, set_cons_zero, set_cons_succ, getElem_toArray, getElem_cons_zero, getElem_cons_succ]
  refine tkY 3 rfl (v := ?_) (.inl ⟨by rfl, ?_⟩) ?_
  case refine_2 => intro w9 hSw; (try dsimp only at hSw); go_simp; (try with_reducible rfl)
  try simp only [Act.put, setIfInBounds_toArray, set_cons_zero, set_cons_succ, getElem_toArray, getElem_cons_zero, getElem_cons_succ]
  refine tkY 4 rfl (v := ?_) (.inl ⟨by rfl, ?_⟩) ?_
  case refine_2 => intro w9 hSw; (try dsimp only at hSw); go_simp; (try with_reducible rfl)
  try simp only [Act.put, setIfInBounds_toArray, set_cons_zero, set_cons_succ, getElem_toArray, getElem_cons_zero, getElem_cons_succ]
  refine tkY 5 rfl (v := ?_) (.inl ⟨by rfl, ?_⟩) ?_
  case refine_2 => intro w9 hSw; (try dsimp only at hSw); go_simp; (try with_reducible rfl)
  try simp only [Act.put, setIfInBounds_toArray, set_cons_zero, set_cons_succ, getElem_toArray, getElem_cons_zero, getElem_cons_succ]
  refine tkY 6 rfl (v := ?_) (.inl ⟨by rfl, ?_⟩) ?_
  case refine_2 => intro w9 hSw; (try dsimp only at hSw); go_simp; (try with_reducible rfl)
  try simp only [Act.put, setIfInBounds_toArray, set_cons_zero, set_cons_succ, getElem_toArray, getElem_cons_zero, getElem_cons_succ]
  refine tkY 7 rfl (v := ?_) (.inl ⟨by rfl, ?_⟩) ?_
  case refine_2 => intro w9 hSw; (try dsimp only at hSw); go_simp; (try with_reducible rfl)
  try simp only [Act.put, setIfInBounds_toArray, set_cons_zero, set_cons_succ, getElem_toArray, getElem_cons_zero, getElem_cons_succ]
  refine tkY 8 rfl (v := ?_) (.inl ⟨by rfl, ?_⟩) ?_
  case refine_2 => intro w9 hSw; (try dsimp only at hSw); go_simp; (try with_reducible rfl)
  try simp only [Act.put, setIfInBounds_toArray, set_cons_zero, set_cons_succ, getElem_toArray, getElem_cons_zero, getElem_cons_succ]
  refine wpAnyH_done (by kernel_rfl) ?_ _
  cases c with
  | false =>
   go_wp2_with fail
   go_ret
   exact ⟨_, rfl, hI ⟨fun h => (by cases h), fun h => absurd h (map_ne _ E.out F.out (fun e => by have := G.out.2 e; cases this))⟩, p⟩
  | true =>
   have U := hI (G.out.1 rfl); have e1 : IntKind.i64.wrap ((i : Int) + 1) = (i : Int) + 1 := (by rw [IntKind.wrap_i64]; omega)
   go_wp2_with fail
   go_roundg (len - (i + 1))
   case measure => omega
   case rel => exact ⟨i + 1, by go_num, by omega, rfl, hI (by rw [take_snocA _ _ _ E.out, take_snocA _ _ _ F.out, List.map_append, List.map_append, u.out]; simp [U.out]), p⟩
 have P : decide ((i : Int) < (len : Int)) = false := decide_eq_false (by omega)
 have Q : decide (i < len) = false := decide_eq_false hlt
 have V : i = len := by omega
 have W := hI (show zs.map DcN.pl = ys.map DcN.pl by
  have := u.out
  rw [V, List.take_of_length_le (by rw [q.out]; exact Nat.le_refl _), List.take_of_length_le (by rw [r.out]; exact Nat.le_refl _)] at this
  exact this)
 go_wp2_with fail
 go_ret
 exact ⟨_, rfl, hI ⟨fun _ => W.out, fun _ => rfl⟩, k⟩

end Go.Proofs.YtkjoohnndobjeaaGreatDoor
