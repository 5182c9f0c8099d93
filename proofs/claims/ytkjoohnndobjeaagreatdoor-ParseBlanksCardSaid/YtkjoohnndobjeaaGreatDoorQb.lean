/-
  The walks of the tests whether parts of problems are equal (tree.Same).
  The walk of tree.Same.
-/
import Derived.Test.YtkjoohnndobjeaaGreatDoorQZ
import Derived.Test.YtkjoohnndobjeaaGreatDoorQL
import Derived.Test.YtkjoohnndobjeaaGreatDoorQW
import Derived.Test.YtkjoohnndobjeaaGreatDoorQX
import Derived.Test.YtkjoohnndobjeaaGreatDoorPbF
import Derived.Laws.EntriesVeiled
set_option linter.unusedVariables false
set_option maxHeartbeats 4000000
set_option maxRecDepth 100000
namespace Go.Proofs.YtkjoohnndobjeaaGreatDoor
open Go.RowKit Go.Fl Go.Fl.Lx Go.Fl.Nm Go.Fl.Fm Go.Fl.Rt Go.Fl.Pa
open List (setIfInBounds_toArray set_cons_zero set_cons_succ getElem_toArray getElem_cons_zero getElem_cons_succ)
theorem str_beq (s s' : ByteArray) (c : Bool) (h : (s == s') = c) : (s.toList == s'.toList) = c := by
 rw [ByteArray.toList_eq, ByteArray.toList_eq, ← h, Bool.eq_iff_iff, beq_iff_eq, MapKept.bytes_beq]
 exact ⟨fun e => ByteArray.ext (Array.toList_inj.1 e), fun e => by rw [e]⟩
theorem str_iff {s s' : ByteArray} {c : Bool} (h : (s == s') = c) : c = true ↔ s.data.toList = s'.data.toList := by
 rw [← h, MapKept.bytes_beq]
 exact ⟨fun e => by rw [e], fun e => ByteArray.ext (Array.toList_inj.1 e)⟩
theorem map_ne {α β : Type} (f : α → β) {zs ys : List α} {i : Nat} {x y : α} (hx : zs[i]? = some x) (hy : ys[i]? = some y) (h : f x ≠ f y) : zs.map f ≠ ys.map f := fun e => by
 have h1 : (zs.map f)[i]? = some (f x) := by rw [List.getElem?_map, hx]; rfl
 have h2 : (ys.map f)[i]? = some (f y) := by rw [List.getElem?_map, hy]; rfl
 rw [e, h2] at h1
 injection h1 with h1
 exact h h1.symm
theorem dcl_eq (x y : DcN) : x.pl = y.pl ↔ (x.s == y.s) = true ∧ x.a = y.a ∧ x.b = y.b ∧ x.c = y.c ∧ x.d = y.d := by
 constructor
 ·
  intro e
  injection e with e1 e2
  injection e2 with e3 e4
  injection e3 with e5 e6
  injection e4 with e7 e8
  exact ⟨(str_iff rfl).2 e1, e5, e6, e7, e8⟩
 rintro ⟨e1, e2, e3, e4, e5⟩
 unfold DcN.pl
 rw [(str_iff rfl).1 e1, e2, e3, e4, e5]
theorem run_neq_dcl (w : World) (x y : DcN) :
 (binOp .neq 76 (.agg #[.string x.s, .int .i64 x.a, .int .i64 x.b, .int .i64 x.c, .int .i64 x.d]) (.agg #[.string y.s, .int .i64 y.a, .int .i64 y.b, .int .i64 y.c, .int .i64 y.d])).run Tryz.prog w = .ok (.bool (!((x.s == y.s) && ((x.a == y.a) && ((x.b == y.b) && ((x.c == y.c) && (x.d == y.d))))))) w := by
 have h3 := str_beq x.s y.s _ rfl
 simp [go_sem]
 cases hs : (x.s == y.s) <;> rw [hs] at h3 <;> by_cases h4 : x.a = y.a <;> by_cases h5 : x.b = y.b <;> by_cases h6 : x.c = y.c <;> by_cases h7 : x.d = y.d <;> simp_all

theorem eqd_any (A : Option Addr) (len cap : Nat) (zs : List DcN) (A2 : Option Addr) (len2 cap2 : Nat) (ys : List DcN) (w : World) (hx : InL 5 DcN.cells InD w A len cap zs) (hy : InL 5 DcN.cells InD w A2 len2 cap2 ys) :
 Calls Tryz.prog 79 #[.slice A len cap, .slice A2 len2 cap2] w (EqR (zs.map DcN.pl) (ys.map DcN.pl) w) := by
 have I := hI hx
 have J := hI hy
 have q := hI hx.hl
 have r := hI hy.hl
 have X : len ≤ 9223372036854775807 := by
  have Y := hx.hc; have L := hx.hm
  unfold maxLen at L
  omega
 clear hx hy
 by_cases hll : len = len2
 case neg =>
  have M : ((len : Int) != (len2 : Int)) = true := (by rw [bne_iff_ne]; omega); have Z : (len != len2) = true := (by rw [bne_iff_ne]; exact hll)
  go_enter Tryz.func79, Tryz.ntmps79
  go_wp2_with fail
  go_ret
  exact ⟨_, rfl, hI ⟨fun h => (by cases h), fun h => absurd (by have := congrArg List.length h; rw [List.length_map, List.length_map, q.out, r.out] at this; exact this) hll⟩, hI (Below.refl _ _)⟩
 subst hll
 have M : ((len : Int) != (len : Int)) = false := by simp
 have aa := run_neq_dcl
 go_enter Tryz.func79, Tryz.ntmps79
 go_wp2_with fail
 go_loopg [13] len (fun gk d wr => ∃ i : Nat, d = .int .i64 (i : Nat) ∧ i ≤ len ∧ gk = len - i ∧ Hid ((zs.take i).map DcN.pl = (ys.take i).map DcN.pl) ∧ Hid (Below w.heap.size w wr))
 case atStart => exact ⟨0, rfl, Nat.zero_le _, rfl, hI (by simp), hI (Below.refl _ _)⟩
 obtain ⟨i, rfl, hi, rfl, u, k⟩ := hrel
 have ac := k.out.size
 by_cases hlt : i < len
 ·
  have ad := hI (show Below wr.heap.size wr wr.drew from below_dr _); obtain ⟨b, o, x, N, z, hx, B⟩ := InD.len (InD.list I.out k.out) i hlt; obtain ⟨l, m, y, O, C, hy, D⟩ := InD.len (InD.list J.out k.out) i hlt; subst N O; have P : decide ((i : Int) < (len : Int)) = true := decide_eq_true (by omega); have Q : decide (i < len) = true := decide_eq_true hlt; have ae : 0 ≤ (i : Int) ∧ (i : Int) < (len : Int) := (by omega); have E := hI z; have F := hI C; have R := hI B; have T := hI D; clear hx hy D B z C
  obtain ⟨c, hc⟩ : ∃ c, ((x.s == y.s) && ((x.a == y.a) && ((x.b == y.b) && ((x.c == y.c) && (x.d == y.d))))) = c := ⟨_, rfl⟩
  have G := hI (show c = true ↔ x.pl = y.pl by rw [← hc, dcl_eq]; simp [Bool.and_eq_true])
  go_upto_region 6 with (fail)
  have n := hI (below_dr wr); have g := R.out.b9 n; have j := T.out.b9 n; have p := k.out.t n
  refine wp_region_held_drew (S := fun w' => w'.cell? ⟨b, o + i * 5, none⟩ = some (.string x.s) ∧ w'.cell? ⟨b, o + i * 5 + 1, none⟩ = some (.int .i64 x.a) ∧ w'.cell? ⟨b, o + i * 5 + 2, none⟩ = some (.int .i64 x.b) ∧ w'.cell? ⟨b, o + i * 5 + 3, none⟩ = some (.int .i64 x.c) ∧ w'.cell? ⟨b, o + i * 5 + 4, none⟩ = some (.int .i64 x.d) ∧ w'.cell? ⟨l, m + i * 5, none⟩ = some (.string y.s) ∧ w'.cell? ⟨l, m + i * 5 + 1, none⟩ = some (.int .i64 y.a) ∧ w'.cell? ⟨l, m + i * 5 + 2, none⟩ = some (.int .i64 y.b) ∧ w'.cell? ⟨l, m + i * 5 + 3, none⟩ = some (.int .i64 y.c) ∧ w'.cell? ⟨l, m + i * 5 + 4, none⟩ = some (.int .i64 y.d)) (by kernel_rfl) ?_ (fun hHeld => ?_)
  case refine_1 => exact ⟨g.out.c 0 _ rfl, g.out.c 1 _ rfl, g.out.c 2 _ rfl, g.out.c 3 _ rfl, g.out.c 4 _ rfl, j.out.c 0 _ rfl, j.out.c 1 _ rfl, j.out.c 2 _ rfl, j.out.c 3 _ rfl, j.out.c 4 _ rfl⟩
  obtain ⟨af, H⟩ := eX (wr.drew); rw [← H] at n g j p hHeld ⊢; clear H
  refine tkY 0 rfl (v := ?_) (.inl ⟨by rfl, ?_⟩) ?_
  case refine_2 => intro w9 hSw; (try dsimp only at hSw); go_simp; (try with_reducible rfl)
  try simp only [Act.put, setIfInBounds_toArray, set_cons_zero, set_cons_succ, getElem_toArray, getElem_cons_zero]
  refine tkY 1 rfl (v := ?_) (.inl ⟨by rfl, ?_⟩) ?_
  case refine_2 => intro w9 hSw; (try dsimp only at hSw); go_simp; (try with_reducible rfl)
  try simp only [Act.put, setIfInBounds_toArray, set_cons_zero, set_cons_succ, getElem_toArray, getElem_cons_zero, getElem_cons_succ]
  refine tkY 2 rfl (v := ?_) (.inl ⟨by rfl, ?_⟩) ?_
  case refine_2 => intro w9 hSw; (try dsimp only at hSw); go_simp; (try with_reducible rfl)
  try simp only [Act.put, setIfInBounds_toArray, set_cons_zero, set_cons_succ, getElem_toArray, getElem_cons_zero, getElem_cons_succ]
  refine tkY 3 rfl (v := ?_) (.inl ⟨by rfl, ?_⟩) ?_
  case refine_2 => intro w9 hSw; (try dsimp only at hSw); go_simp; (try with_reducible rfl)
  try simp only [Act.put, setIfInBounds_toArray, set_cons_zero, set_cons_succ, getElem_toArray, getElem_cons_zero, getElem_cons_succ]
  refine tkY 4 rfl (v := ?_) (.inl ⟨by rfl, ?_⟩) ?_
  case refine_2 => intro w9 hSw; (try dsimp only at hSw); go_simp; (try with_reducible rfl)
  try simp only [Act.put, setIfInBounds_toArray, set_cons_zero, set_cons_succ, getElem_toArray, getElem_cons_zero, getElem_cons_succ]
  refine tkY 5 rfl (v := ?_) (.inl ⟨by rfl, ?_⟩) ?_
  case refine_2 => intro w9 hSw; (try dsimp only at hSw); go_simp; (try with_reducible rfl)
  try simp only [Act.put, setIfInBounds_toArray, set_cons_zero, set_cons_succ, getElem_toArray, getElem_cons_zero, getElem_cons_succ]
  refine tkY 6 rfl (v := ?_) (.inl ⟨by rfl, ?_⟩) ?_
  case refine_2 => intro w9 hSw; (try dsimp only at hSw); go_simp; (try with_reducible rfl)
  try simp only [Act.put, setIfInBounds_toArray, set_cons_zero, set_cons_succ, getElem_toArray, getElem_cons_zero, getElem_cons_succ]
  refine tkY 7 rfl (v := ?_) (.inl ⟨by rfl, ?_⟩) ?_
  case refine_2 => intro w9 hSw; (try dsimp only at hSw); go_simp; (try with_reducible rfl)
  try simp only [Act.put, setIfInBounds_toArray, set_cons_zero, set_cons_succ, getElem_toArray, getElem_cons_zero, getElem_cons_succ]
  refine tkY 8 rfl (v := ?_) (.inl ⟨by rfl, ?_⟩) ?_
  case refine_2 => intro w9 hSw; (try dsimp only at hSw); go_simp; (try with_reducible rfl)
  try simp only [Act.put, setIfInBounds_toArray, set_cons_zero, set_cons_succ, getElem_toArray, getElem_cons_zero, getElem_cons_succ]
  refine wpAnyH_done (by kernel_rfl) ?_ _
  cases c with
  | false =>
   go_wp2_with fail
   go_ret
   exact ⟨_, rfl, hI ⟨fun h => (by cases h), fun h => absurd h (map_ne _ E.out F.out (fun e => by have := G.out.2 e; cases this))⟩, p⟩
  | true =>
   have U := hI (G.out.1 rfl); have e1 : IntKind.i64.wrap ((i : Int) + 1) = (i : Int) + 1 := (by rw [IntKind.wrap_i64]; omega)
   go_wp2_with fail
   go_roundg (len - (i + 1))
   case measure => omega
   case rel => exact ⟨i + 1, by go_num, by omega, rfl, hI (by rw [take_snocA _ _ _ E.out, take_snocA _ _ _ F.out, List.map_append, List.map_append, u.out]; simp [U.out]), p⟩
 have P : decide ((i : Int) < (len : Int)) = false := decide_eq_false (by omega)
 have Q : decide (i < len) = false := decide_eq_false hlt
 have V : i = len := by omega
 have W := hI (show zs.map DcN.pl = ys.map DcN.pl by
  have := u.out
  rw [V, List.take_of_length_le (by rw [q.out]; exact Nat.le_refl _), List.take_of_length_le (by rw [r.out]; exact Nat.le_refl _)] at this
  exact this)
 go_wp2_with fail
 go_ret
 exact ⟨_, rfl, hI ⟨fun _ => W.out, fun _ => rfl⟩, k⟩

end Go.Proofs.YtkjoohnndobjeaaGreatDoor
namespace Go.Proofs.YtkjoohnndobjeaaGreatDoor
open Go.RowKit Go.Fl Go.Fl.Lx Go.Fl.Nm Go.Fl.Fm Go.Fl.Rt Go.Fl.Pa
open List (setIfInBounds_toArray set_cons_zero set_cons_succ getElem_toArray getElem_cons_zero getElem_cons_succ)
/-- Both are right, and equal. -/
def EqS (x y : PbN) (w : World) (e : Ending) (w' : World) : Prop := ∃ r : Bool, e = .returned (.bool r) ∧ Hid (r = true ↔ x.ok = true ∧ y.ok = true ∧ x.pl = y.pl) ∧ Hid (Below w.heap.size w w')
def EqO (b : Bool) (w : World) (e : Ending) (w' : World) : Prop := ∃ r : Bool, e = .returned (.bool r) ∧ Hid (r = true ↔ b = true) ∧ Hid (Below w.heap.size w w')
theorem tprob_b (x : PbN) (w : World) (hx : InP w x) : Calls Tryz.prog 70 #[.agg #[.slice x.A x.n x.c, .slice x.B x.m x.d, .slice x.C x.k x.e, .int .i64 x.t, .int .i64 x.u]] w (EqO x.ok w) :=
 (tproblem_p x w hx).mono fun e w' h => ⟨x.ok, h.1, hI Iff.rfl, h.2⟩

theorem tsame_any (x y : PbN) (w : World) (hx : InP w x) (hy : InP w y) : Calls Tryz.prog 43 #[x.val, y.val] w (EqS x y w) := by
 have L := hI hx
 have M := hI hy
 clear hx hy
 obtain ⟨U, ai⟩ : ∃ c, ((x.t == y.t) && (x.u == y.u)) = c := ⟨_, rfl⟩
 have bo := run_eq_rat
 have bp : ∀ (fn : Fn) (first cap : Array Value) (w : World), (Instr.makeFunc fn first cap).run Tryz.prog w = .ok (.func fn first cap) w := fun _ _ _ _ => rfl
 have v := hI (show (x.ok = true ∧ y.ok = true ∧ x.pl = y.pl) ↔ x.ok = true ∧ y.ok = true ∧ U = true ∧ x.st.map DcN.pl = y.st.map DcN.pl ∧ x.pa.map DcN.pl = y.pa.map DcN.pl ∧ x.ms.map MdN.pl = y.ms.map MdN.pl from and_congr_right (fun _ => and_congr_right (fun _ => (show x.pl = y.pl ↔ U = true ∧ x.st.map DcN.pl = y.st.map DcN.pl ∧ x.pa.map DcN.pl = y.pa.map DcN.pl ∧ x.ms.map MdN.pl = y.ms.map MdN.pl from ⟨fun e => by
  injection e with e1 e2 e3 e4; injection e4 with e4 e5
  exact ⟨by rw [← ai, e4, e5]; simp, e1, e2, e3⟩, fun e => by
  obtain ⟨V, st, pa, ms⟩ := e; rw [← ai, Bool.and_eq_true, beq_iff_eq, beq_iff_eq] at V
  unfold PbN.pl
  rw [st, pa, ms, V.1, V.2]⟩))))
 go_enter Tryz.func43, Tryz.ntmps43
 go_upto_region 1 with (fail)
 obtain ⟨N, J⟩ := eX ((w.alloc (Obj.cells #[.slice x.A x.n x.c, .slice x.B x.m x.d, .slice x.C x.k x.e, .int .i64 x.t, .int .i64 x.u] 68)).alloc (Obj.cells #[.slice y.A y.n y.c, .slice y.B y.m y.d, .slice y.C y.k y.e, .int .i64 y.t, .int .i64 y.u] 68))
 have HW := hI (show Below w.heap.size w N by rw [J]; exact (below_box _ _).trans ((below_box _ _).mono (by simp)))
 have E1 := hI (show Blk N w.heap.size 68 #[.slice x.A x.n x.c, .slice x.B x.m x.d, .slice x.C x.k x.e, .int .i64 x.t, .int .i64 x.u] by rw [J]; exact (Blk.new w 68 #[.slice x.A x.n x.c, .slice x.B x.m x.d, .slice x.C x.k x.e, .int .i64 x.t, .int .i64 x.u]).belowW (below_box _ _))
 have E2 := hI (show Blk N (w.heap.size + 1) 68 #[.slice y.A y.n y.c, .slice y.B y.m y.d, .slice y.C y.k y.e, .int .i64 y.t, .int .i64 y.u] by rw [J]; exact (by have := Blk.new (w.alloc (Obj.cells #[.slice x.A x.n x.c, .slice x.B x.m x.d, .slice x.C x.k x.e, .int .i64 x.t, .int .i64 x.u] 68)) 68 #[.slice y.A y.n y.c, .slice y.B y.m y.d, .slice y.C y.k y.e, .int .i64 y.t, .int .i64 y.u]; simpa using this))
 rw [← J]
 clear J
 obtain ⟨a, _, b, _, g, _, i, _, j, _⟩ := E1.out.all5
 obtain ⟨l, _, o, _, p, _, q, _, r, _⟩ := E2.out.all5
 go_wp2_with fail
 refine (tprob_b x N (L.out.belowW HW.out)).mono ?_
 rintro e w21 ⟨be, rfl, am, W⟩
 have X := HW.out.t W
 have an := E1.out.b9 W
 have ao := E2.out.b9 W
 clear a l b o g p i q j r
 obtain ⟨a, _, b, _, g, _, i, _, j, _⟩ := an.out.all5
 obtain ⟨l, _, o, _, p, _, q, _, r, _⟩ := ao.out.all5
 cases be with
 | false =>
  go_wp2_with fail
  go_ret
  exact ⟨_, rfl, hI ⟨fun h => (by cases h), fun h => (by have := am.out.2 ((v.out.1 h).1); cases this)⟩, X⟩
 | true =>
  have bf := hI (am.out.1 rfl)
  go_wp2_with fail
  refine (tprob_b y w21 (M.out.belowW X.out)).mono ?_
  rintro e w22 ⟨bg, rfl, ap, Y⟩; have aq := X.out.t Y; have ar := an.out.b9 Y; have au := ao.out.b9 Y; clear a l b o g p i q j r; obtain ⟨a, _, b, _, g, _, i, _, j, _⟩ := ar.out.all5; obtain ⟨l, _, o, _, p, _, q, _, r, _⟩ := au.out.all5
  cases bg with
  | false =>
   go_wp2_with fail
   go_ret
   exact ⟨_, rfl, hI ⟨fun h => (by cases h), fun h => (by have := ap.out.2 ((v.out.1 h).2.1); cases this)⟩, aq⟩
  | true =>
   have bh := hI (ap.out.1 rfl)
   go_upto_region 6 with (fail)
   obtain ⟨Z, aa⟩ := eX (w22.heap.size); obtain ⟨s, ab⟩ := eX (Z); obtain ⟨O, ac⟩ := eX (Z + 1); obtain ⟨P, ad⟩ := eX (Z + 1 + 1); have Q : w22.heap.size = s ∧ (w22.alloc (Obj.cells #[.func (.func 85) #[] #[]] 124)).heap.size = O ∧ ((w22.alloc (Obj.cells #[.func (.func 85) #[] #[]] 124)).alloc (Obj.cells #[.func (.func 86) #[] #[.pointer (some ⟨s, 0, none⟩)]] 126)).heap.size = P := (by refine ⟨?_, ?_, ?_⟩ <;> simp only [World.size_alloc, ← aa, ab, ad, ac])
   try rw [← aa]
   try simp only [← ad]
   try simp only [← ac]
   try simp only [← ab]
   obtain ⟨w9, z⟩ := eX ((((w22.alloc (Obj.cells #[.func (.func 85) #[] #[]] 124)).alloc (Obj.cells #[.func (.func 86) #[] #[.pointer (some ⟨s, 0, none⟩)]] 126)).alloc (Obj.cells #[.func (.func 87) #[] #[]] 123))); have ae := hI (show Below w22.heap.size w22 w9 by rw [z]; exact ((below_box _ _).trans ((below_box _ _).mono (by simp))).trans ((below_box _ _).mono (by simp; omega))); have av := hI (show Blk w9 s 124 #[.func (.func 85) #[] #[]] by rw [z, ← Q.1]; exact ((Blk.new w22 124 #[.func (.func 85) #[] #[]]).belowW (below_box _ _)).belowW (below_box _ _)); have aw := hI (show Blk w9 O 126 #[.func (.func 86) #[] #[.pointer (some ⟨s, 0, none⟩)]] by rw [z, ← Q.2.1]; exact (Blk.new (w22.alloc (Obj.cells #[.func (.func 85) #[] #[]] 124)) 126 #[.func (.func 86) #[] #[.pointer (some ⟨s, 0, none⟩)]]).belowW (below_box _ _)); have ax := hI (show Blk w9 P 123 #[.func (.func 87) #[] #[]] by rw [z, ← Q.2.2]; exact Blk.new ((w22.alloc (Obj.cells #[.func (.func 85) #[] #[]] 124)).alloc (Obj.cells #[.func (.func 86) #[] #[.pointer (some ⟨s, 0, none⟩)]] 126)) 123 #[.func (.func 87) #[] #[]]); rw [← z]; have R := aq.out.t ae; have ay := ar.out.b9 ae; have az := au.out.b9 ae; clear z Q ab ac ad aa a l b o g p i q j r; obtain ⟨a, _, b, _, g, _, i, _, j, _⟩ := ay.out.all5; obtain ⟨l, _, o, _, p, _, q, _, r, _⟩ := az.out.all5; obtain ⟨D, _⟩ := av.out.all1; obtain ⟨E, _⟩ := ax.out.all1; obtain ⟨F, _⟩ := aw.out.all1
   cases U with
   | false =>
    go_wp2_with fail
    go_ret
    exact ⟨_, rfl, hI ⟨fun h => (by cases h), fun h => (by have := (v.out.1 h).2.2.1; cases this)⟩, R⟩
   | true =>
    go_wp2_with fail
    refine (eqd_any x.A x.n x.c x.st y.A y.n y.c y.st w9 (InD.list L.out.hs R.out) (InD.list M.out.hs R.out)).mono ?_
    rintro e w23 ⟨bi, rfl, a0, G⟩; have S := R.out.t G; have a1 := ay.out.b9 G; have a2 := az.out.b9 G; have a3 := av.out.b9 G; have a4 := ax.out.b9 G; have a5 := aw.out.b9 G; clear a l b o g p i q j r D E F; obtain ⟨a, _, b, _, g, _, i, _, j, _⟩ := a1.out.all5; obtain ⟨l, _, o, _, p, _, q, _, r, _⟩ := a2.out.all5; obtain ⟨D, _⟩ := a3.out.all1; obtain ⟨E, _⟩ := a4.out.all1; obtain ⟨F, _⟩ := a5.out.all1
    cases bi with
    | false =>
     go_wp2_with fail
     go_ret
     exact ⟨_, rfl, hI ⟨fun h => (by cases h), fun h => (by have := a0.out.2 ((v.out.1 h).2.2.2.1); cases this)⟩, S⟩
    | true =>
     have bj := hI (a0.out.1 rfl)
     go_wp2_with fail
     refine (eqd_any x.B x.m x.d x.pa y.B y.m y.d y.pa w23 (InD.list L.out.hp S.out) (InD.list M.out.hp S.out)).mono ?_
     rintro e w24 ⟨bk, rfl, a6, H⟩; have T := S.out.t H; have a7 := a1.out.b9 H; have a8 := a2.out.b9 H; have af := a3.out.b9 H; have ag := a4.out.b9 H; have ah := a5.out.b9 H; clear a l b o g p i q j r D E F; obtain ⟨a, _, b, _, g, _, i, _, j, _⟩ := a7.out.all5; obtain ⟨l, _, o, _, p, _, q, _, r, _⟩ := a8.out.all5; obtain ⟨D, _⟩ := af.out.all1; obtain ⟨E, _⟩ := ag.out.all1; obtain ⟨F, _⟩ := ah.out.all1
     cases bk with
     | false =>
      go_wp2_with fail
      go_ret
      exact ⟨_, rfl, hI ⟨fun h => (by cases h), fun h => (by have := a6.out.2 ((v.out.1 h).2.2.2.2.1); cases this)⟩, T⟩
     | true =>
      have bl := hI (a6.out.1 rfl)
      go_wp2_with fail
      refine (tem_eqf P O x.C x.k x.e x.ms y.C y.k y.e y.ms w24 (InM.list L.out.hm T.out) (InM.list M.out.hm T.out) (fun x y w' hb hx hy => tem_el s P O x y w' hx hy (af.out.belowW hb) (ag.out.belowW hb) (ah.out.belowW hb))).mono ?_
      rintro e w25 ⟨bm, rfl, a9, I⟩; have ba := T.out.t I; clear a l b o g p i q j r D E F; obtain ⟨a, _, b, _, g, _, i, _, j, _⟩ := (a7.out.belowW I.out).all5; obtain ⟨l, _, o, _, p, _, q, _, r, _⟩ := (a8.out.belowW I.out).all5; obtain ⟨D, _⟩ := (af.out.belowW I.out).all1; obtain ⟨E, _⟩ := (ag.out.belowW I.out).all1; obtain ⟨F, _⟩ := (ah.out.belowW I.out).all1
      cases bm with
      | false =>
       go_wp2_with fail
       go_ret
       exact ⟨_, rfl, hI ⟨fun h => (by cases h), fun h => (by have := a9.out.2 ((v.out.1 h).2.2.2.2.2); cases this)⟩, ba⟩
      | true =>
       have bn := hI (a9.out.1 rfl)
       go_wp2_with fail
       go_ret
       exact ⟨_, rfl, hI ⟨fun _ => v.out.2 ⟨bf.out, bh.out, (by trivial), bj.out, bl.out, bn.out⟩, fun _ => rfl⟩, ba⟩
end Go.Proofs.YtkjoohnndobjeaaGreatDoor
