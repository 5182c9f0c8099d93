/-
  The walks of the closures of parse.Expr and parse.run.
  Where the parser's rules find errors, in plain Lean. No program in sight.
  The walk of parse.run.
  The walk of parse.Expr.
-/
import Derived.Test.YtkjoohnndobjeaaGreatDoorQK
import Derived.Defers
import Derived.Recover
import Derived.Test.YtkjoohnndobjeaaGreatDoorQI
import Derived.Test.YtkjoohnndobjeaaGreatDoorQC
set_option linter.unusedVariables false
set_option maxHeartbeats 4000000
set_option maxRecDepth 100000
namespace Go.Proofs.YtkjoohnndobjeaaGreatDoor
open Go.RowKit Go.Fl Go.Fl.Lx Go.Fl.Nm Go.Fl.Fm Go.Fl.Rt Go.Fl.Pa
open List (setIfInBounds_toArray set_cons_zero set_cons_succ getElem_toArray getElem_cons_zero getElem_cons_succ)
theorem pst1 {w : World} {g : Nat} {t : TypeId} {a : Value} (hB : Blk w g t #[a]) (a' : Value) : w.setCell ⟨g, 0, none⟩ a' = putB w g t #[a'] := by
 rw [hB.setCell_eq 0 a']
 rfl
end Go.Proofs.YtkjoohnndobjeaaGreatDoor
namespace Go
open Go.Proofs.YtkjoohnndobjeaaGreatDoor
open Go.RowKit Go.Fl Go.Fl.Lx Go.Fl.Nm Go.Fl.Fm Go.Fl.Rt Go.Fl.Pa
open List (setIfInBounds_toArray set_cons_zero set_cons_succ getElem_toArray getElem_cons_zero getElem_cons_succ)
theorem Fl.Blk.all1 {w : World} {g : Nat} {t : TypeId} {a : Value} (h : Blk w g t #[a]) : w.cell? ⟨g, 0, none⟩ = some a ∧ w.frozen? ⟨g, 0, none⟩ = false := ⟨h.cell 0, h.frozen 0⟩
end Go
namespace Go.Proofs.YtkjoohnndobjeaaGreatDoor
open Go.RowKit Go.Fl Go.Fl.Lx Go.Fl.Nm Go.Fl.Fm Go.Fl.Rt Go.Fl.Pa
open List (setIfInBounds_toArray set_cons_zero set_cons_succ getElem_toArray getElem_cons_zero getElem_cons_succ)
/-- A world behind, in which two blocks may have been written. -/
structure Gr2 (w w' : World) (g r : Nat) : Prop where
  os : w'.os = w.os
  tape : w'.tape = w.tape
  output : w'.output = w.output
  size : w.heap.size ≤ w'.heap.size
  block : ∀ k, k < w.heap.size → k ≠ g → k ≠ r → w'.heap[k]? = w.heap[k]?
theorem Gr2.of {w w' : World} {g r : Nat} (h : w.grownBy w' (some g)) : Gr2 w w' g r := ⟨h.os, h.tape, h.output, h.size, fun k hk hg _ => h.block k hk (fun e => hg (Option.some.inj e))⟩
theorem Gr2.put {w w' : World} {g r : Nat} (h : Gr2 w w' g r) (t : TypeId) (V : Array Value) : Gr2 w (putB w' r t V) g r :=
 ⟨h.os, h.tape, h.output, by rw [putB_size]; exact h.size, fun k hk hg hr => by
  unfold putB
  rw [Array.getElem?_setIfInBounds, if_neg (fun e => hr e.symm)]
  exact h.block k hk hg hr⟩
theorem Gr2.put1 {w w' : World} {g r : Nat} (h : Gr2 w w' g r) (t : TypeId) (V : Array Value) : Gr2 w (putB w' g t V) g r :=
 ⟨h.os, h.tape, h.output, by rw [putB_size]; exact h.size, fun k hk hg hr => by
  unfold putB
  rw [Array.getElem?_setIfInBounds, if_neg (fun e => hg e.symm)]
  exact h.block k hk hg hr⟩
theorem Gr2.refl (w : World) (g r : Nat) : Gr2 w w g r := ⟨rfl, rfl, rfl, Nat.le_refl _, fun _ _ _ _ => rfl⟩
theorem Gr2.tr {w w' w2 : World} {g r : Nat} (h : Gr2 w w' g r) (hb : Below w'.heap.size w' w2) : Gr2 w w2 g r :=
 ⟨hb.os.trans h.os, hb.tape.trans h.tape, hb.output.trans h.output, Nat.le_trans h.size hb.size, fun k hk hg hr => (hb.block k (Nat.lt_of_lt_of_le hk h.size)).trans (h.block k hk hg hr)⟩
theorem Blk.gr2 {w w' : World} {g r b : Nat} {t : TypeId} {V : Array Value} (hB : Blk w b t V) (h : Gr2 w w' g r) (hg : b ≠ g) (hr : b ≠ r) : Blk w' b t V := by
 have hl := Blk.lt hB
 have e := h.block b hl hg hr
 unfold Blk at hB ⊢
 rw [e]
 exact hB
/-- The parser's state, where a block below the tokens is written. -/
theorem Env.store {w0 w : World} {g r : Nat} {A : Option Addr} {len cap : Nat} {ts : List Tok} {k m : Nat} (h : Env w0 g A len cap ts k m w) (hr : r < w0.heap.size) (hA : 0 < len → ∀ b o, A = some ⟨b, o, none⟩ → b ≠ r) (t : TypeId) (V : Array Value) :
 Env (putB w0 r t V) g A len cap ts k m (putB w r t V) := by
 have hrg : r ≠ g := by have := h.lo; omega
 refine ⟨⟨h.t.hl, h.t.hc, h.t.hm, h.t.hs, ⟨h.t.hr.1, fun hn => ?_⟩, h.t.ht⟩, ⟨h.b.os, h.b.tape, h.b.output, by rw [putB_size, putB_size]; exact h.b.size, fun k hk => ?_⟩, by rw [putB_size]; exact h.lo, Blk.far h.p (Ne.symm hrg) V, h.kk⟩
 ·
  obtain ⟨b, off, hb, hlt, hcell⟩ := h.t.hr.2 hn
  refine ⟨b, off, hb, by rw [putB_size]; exact hlt, fun j u hu => ?_⟩
  have h1 := hcell j u hu
  have h2 := hA hn b off hb
  unfold World.cell? putB at *
  rw [Array.getElem?_setIfInBounds, if_neg (fun e => h2 e.symm)]
  exact h1
 rw [putB_size] at hk
 unfold putB
 rw [Array.getElem?_setIfInBounds, Array.getElem?_setIfInBounds, h.b.block k hk]
 by_cases e : r = k
 ·
  rw [if_pos e, if_pos e, if_pos hr, if_pos (Nat.lt_of_lt_of_le hr h.b.size)]
 rw [if_neg e, if_neg e]
theorem FX.belowW {w w' : World} (h : FX w) (hb : Below w.heap.size w w') : FX w' := by
 obtain ⟨bm, es, ck, h1, h2⟩ := h
 exact ⟨bm, es, ck, h1.belowW hb, h2⟩
theorem FX.b9 {w w' : World} (h : FX w) (hb : Go.RowKit.Hid (Go.RowKit.Below w.heap.size w w')) : Go.RowKit.Hid (FX w') := hI (FX.belowW h hb.out)
/-- What the closure that reads an expression does. -/
def E1P (g : Nat) (A : Option Addr) (len cap : Nat) (ts : List Tok) (bx : Nat) (r : PR TE) (w : World) (e : Ending) (w' : World) : Prop :=
  match r with
  | .ok T k1 => ∃ (v : Nd) (w1 : World), e = .returned (.bool (okE T)) ∧ Hid (Blk w' bx 29 #[.int .i64 v.h.kind, .int .i64 v.h.n, .int .i64 v.h.d, .string v.h.name, .int .i64 v.h.k, .slice v.A v.len v.cap]) ∧ Hid (InX w.heap.size w' T v) ∧ Hid (Env w1 g A len cap ts k1 0 w') ∧ Hid (Gr2 w w' g bx)
  | .bad ln co er => e = pan ln co er ∧ Hid (Gr2 w w' g bx)
  | .out => False
theorem e1p_bad {g : Nat} {A : Option Addr} {len cap : Nat} {ts : List Tok} {bx ln co er : Nat} {w w' : World} (h : Hid (Gr2 w w' g bx)) : E1P g A len cap ts bx (.bad ln co er) w (pan ln co er) w' := ⟨rfl, h⟩

theorem pExpr1 {w0 w : World} {g : Nat} {A : Option Addr} {len cap : Nat} {ts : List Tok} (h : Env w0 g A len cap ts 0 0 w) (hR : RX w0) (hX : FX w0) (hD : DigTs ts) (bx : Nat) (hbx : bx < w0.heap.size) (hB : Blk w0 bx 29 #[.int .i64 0, .int .i64 0, .int .i64 0, .string ⟨#[]⟩, .int .i64 0, .slice none 0 0])
 (hA : 0 < len → ∀ b o, A = some ⟨b, o, none⟩ → b ≠ bx) :
 Calls Tryz.prog 47 #[.pointer (some ⟨g, 0, none⟩), .pointer (some ⟨bx, 0, none⟩)] w (E1P g A len cap ts bx (sumP nameP ts (8 * ts.length + 8) 0 0) w) := by
 have i := hI (sum_any w0 w g A len cap ts hR hX hD h (8 * ts.length + 8) (Nat.le_refl _))
 have p := (enough (nm := nameP) (ts := ts) (8 * ts.length + 8)).1 0 0 (by omega)
 have q := hI (hB.belowW h.b)
 have O : bx ≠ g := by have := h.lo; omega
 have P := hI (show some bx ≠ some g from fun e => O (Option.some.inj e))
 have Q : bx < w.heap.size := Blk.lt q.out
 obtain ⟨r, s⟩ := eX (sumP nameP ts (8 * ts.length + 8) 0 0)
 rw [← s] at i p ⊢
 have R := hI hA
 clear h hB hR hX s hA
 cases r with
 | out => exact (p rfl).elim
 | bad ln co er =>
  go_enter Tryz.func47, Tryz.ntmps47
  go_wp2_with fail
  refine i.out.mono ?_
  rintro e w1 ⟨rfl, a⟩
  go_wp2_with fail
  exact ⟨rfl, e1p_bad (hI (Gr2.of (r := bx) a.out))⟩
 | ok T k1 =>
  go_enter Tryz.func47, Tryz.ntmps47
  go_wp2_with fail
  refine i.out.mono ?_
  rintro e w1 ⟨v, rfl, S, a, U⟩; have j := hI (q.out.grown a.out P.out); obtain ⟨u, x, y, z, B, C, D, E, F, G, H, I⟩ := j.out.all6
  go_upto_region 2 with (fail)
  rw [pst6 j.out]; have l := hI (j.out.put #[.int .i64 v.h.kind, .int .i64 v.h.n, .int .i64 v.h.d, .string v.h.name, .int .i64 v.h.k, .slice v.A v.len v.cap]); have J := hI (U.out.store hbx R.out 29 #[.int .i64 v.h.kind, .int .i64 v.h.n, .int .i64 v.h.d, .string v.h.name, .int .i64 v.h.k, .slice v.A v.len v.cap]); have m := hI (S.out.far Q 29 #[.int .i64 v.h.kind, .int .i64 v.h.n, .int .i64 v.h.d, .string v.h.name, .int .i64 v.h.k, .slice v.A v.len v.cap]); have L := hI (Gr2.put (Gr2.of (r := bx) a.out) 29 #[.int .i64 v.h.kind, .int .i64 v.h.n, .int .i64 v.h.d, .string v.h.name, .int .i64 v.h.k, .slice v.A v.len v.cap]); obtain ⟨M, N⟩ := eX (putB w1 bx 29 #[.int .i64 v.h.kind, .int .i64 v.h.n, .int .i64 v.h.d, .string v.h.name, .int .i64 v.h.k, .slice v.A v.len v.cap]); rw [← N] at l J m L ⊢; clear N u x y z B C D E F G H I; obtain ⟨u, x, y, z, B, C, D, E, F, G, H, I⟩ := l.out.all6
  go_wp2_with fail
  refine (show Calls Tryz.prog 49 #[.agg #[.int .i64 v.h.kind, .int .i64 v.h.n, .int .i64 v.h.d, .string v.h.name, .int .i64 v.h.k, .slice v.A v.len v.cap]] M _ from eValid_p T v M m.out.toE).mono ?_
  rintro e w3 ⟨rfl, c⟩
  go_wp2_with fail
  go_ret
  exact ⟨v, _, rfl, l.out.b9 c, m.out.b9 c, J.out.b9 c, hI (L.out.tr c.out)⟩

theorem run1_idle (p q : Addr) (w : World) :
 CallsD Tryz.prog 90 #[.pointer (some p), .pointer (some q)] .returning w fun e u' w' => e = .returned (.tuple #[]) ∧ u' = .returning ∧ w' = w := by
 refine callsD_of_wpS Tryz.func90 rfl fun c₀ cs hu => ?_
 apply wpS_seq
 apply wpS_region
 simp [wpOpsS, go_sem, recoverD, hu, Tryz.ntmps90, Exit.thenS]
 apply wpS_seq
 apply wpS_region
 simp [wpOpsS, go_sem, Exit.thenS]
 refine wpS_cond (t := false) (by simp [Act.eval, Array.replicate]) ?_
 simp only [Bool.false_eq_true, if_false]
 refine wpS_of_wp (wp_skip ?_)
 cases c₀
 simp_all [bodyPostS, results, Tryz.results90]
theorem run1_panic (r1 r2 : Nat) (a0 a1 a2 : Int) (ln co er : Int) (older : List PanicEntry) (w : World) (h1 : Blk w r1 40 #[.int .i64 a0, .int .i64 a1]) (h2 : Blk w r2 41 #[.int .i64 a2]) (hne : r1 ≠ r2) :
 CallsD Tryz.prog 90 #[.pointer (some ⟨r1, 0, none⟩), .pointer (some ⟨r2, 0, none⟩)] (.panicking ({ v := .iface 137 (.agg #[.int .i64 ln, .int .i64 co, .int .i64 er]), recovered := false } :: older)) w fun e u' w' =>
  e = .returned (.tuple #[]) ∧ u' = .panicking ({ v := .iface 137 (.agg #[.int .i64 ln, .int .i64 co, .int .i64 er]), recovered := true } :: older) ∧
   Hid (Blk w' r1 40 #[.int .i64 ln, .int .i64 co]) ∧ Hid (Blk w' r2 41 #[.int .i64 er]) ∧ Hid (Gr2 w w' r1 r2) := by
 refine callsD_of_wpS Tryz.func90 rfl fun c₀ cs d => ?_
 apply wpS_seq
 apply wpS_region
 simp [wpOpsS, go_sem, recoverD, d, Tryz.ntmps90, Exit.thenS]
 refine wpS_of_wp (wp_mono (Q := fun e a' w' => e = .normal ∧ a'.defers = [] ∧ Hid (Blk w' r1 40 #[.int .i64 ln, .int .i64 co]) ∧ Hid (Blk w' r2 41 #[.int .i64 er]) ∧ Hid (Gr2 w w' r1 r2)) ?_ ?_)
 case refine_2 =>
  rintro e a' w' ⟨rfl, R, T, U, V⟩
  cases c₀
  simp_all [bodyPostS, results, Tryz.results90]
 clear d
 have p := hI h1
 have q := hI h2
 clear h1 h2
 change Code.wp _ _ _ { tmps := #[.pointer (some ⟨r1, 0, none⟩), .pointer (some ⟨r2, 0, none⟩), .iface 137 (.agg #[.int .i64 ln, .int .i64 co, .int .i64 er]), undef, undef, .iface 137 (.agg #[.int .i64 ln, .int .i64 co, .int .i64 er]), undef, undef, undef, undef, undef, undef, undef, undef, undef, undef, undef, undef, undef, undef], defers := [] } w
 have H : ∀ w : World, (Instr.typeAssert (.iface 137 (.agg #[.int .i64 ln, .int .i64 co, .int .i64 er])) 20 137 true).run Tryz.prog w = .ok (.tuple #[.agg #[.int .i64 ln, .int .i64 co, .int .i64 er], .bool true]) w := fun w => by
  have d := Tryz.underlying137
  simp [Instr.typeAssert, run_underlying d, Result.andThen]
 go_upto_region 2 with (fail)
 go_upto_region 3 with (fail)
 clear H
 obtain ⟨s, u, k, I⟩ := aX w 137 #[.int .i64 ln, .int .i64 co, .int .i64 er]
 rw [← u]
 clear u
 have J : r1 ≠ w.heap.size := Nat.ne_of_lt p.out.lt
 have L : r2 ≠ w.heap.size := Nat.ne_of_lt q.out.lt
 go_upto_region 5 with (fail)
 have a := hI (below_dr s)
 have l := I.out.b9 a
 have i := hI ((p.out.belowW k.out).belowW a.out)
 have x := hI ((q.out.belowW k.out).belowW a.out)
 have y := hI ((Gr2.tr (g := r1) (r := r2) (Gr2.refl w r1 r2) k.out).tr a.out)
 refine wp_region_held_drew (S := fun w' => cz3 w' w.heap.size (.int .i64 ln) (.int .i64 co) (.int .i64 er)) (by kernel_rfl) l.out.cz3 fun hHeld => ?_
 obtain ⟨M, z⟩ := eX (s.drew)
 rw [← z] at a l i x y hHeld ⊢
 clear z
 refine tkW 0 ?_
 refine tkW 1 ?_
 refine tkW 2 ?_
 refine tkW 3 ?_
 refine wr1 4 fun K hK => ?_
 obtain ⟨m, n, N, O⟩ := i.out.all2
 go_simp
 rw [pst2 i.out]
 clear m n N O
 have o := hI (l.out.far (t' := 40) (Ne.symm J) #[.int .i64 ln, .int .i64 co])
 have j := hI (x.out.far (t' := 40) (Ne.symm hne) #[.int .i64 ln, .int .i64 co])
 have B := hI (y.out.put1 40 #[.int .i64 ln, .int .i64 co])
 have C := hI (i.out.put #[.int .i64 ln, .int .i64 co])
 obtain ⟨P, b⟩ := eX (putB M (r1) 40 #[.int .i64 ln, .int .i64 co])
 rw [← b] at o j B C ⊢
 clear b hHeld
 refine hK.out _ _ o.out.cz3 fun hHeld => ?_
 clear hK K
 try simp only [setIfInBounds_toArray, set_cons_zero, set_cons_succ]
 refine wr1 5 fun K hK => ?_
 obtain ⟨m, n⟩ := j.out.all1
 go_simp
 rw [pst1 j.out]
 clear m n
 have D := hI (o.out.far (t' := 41) (Ne.symm L) #[.int .i64 er])
 have E := hI (B.out.put 41 #[.int .i64 er])
 have F := hI (C.out.far (t' := 41) hne #[.int .i64 er])
 have G := hI (j.out.put #[.int .i64 er])
 obtain ⟨W, b⟩ := eX (putB P (r2) 41 #[.int .i64 er])
 rw [← b] at D E F G ⊢
 clear b hHeld
 refine hK.out _ _ D.out.cz3 fun hHeld => ?_
 clear hK K
 try simp only [setIfInBounds_toArray, set_cons_zero, set_cons_succ]
 refine wpAnyH_done (by kernel_rfl) ?_ _
 go_wp2_with fail
 all_goals exact ⟨rfl, rfl, F, G, E⟩
end Go.Proofs.YtkjoohnndobjeaaGreatDoor
namespace Go.Fl.Pa
open Go.Fl.Lx Go.Fl.Fm Go.Fl.Rt
/-- An error at the end, or at a token. -/
def ErrAt (ts : List Tok) (ln co er : Nat) : Prop := (ln = 0 ∧ co = 0 ∧ er = 4) ∨ ∃ k, k < ts.length ∧ ln = (tk ts k).line ∧ co = (tk ts k).col ∧ er ≠ 0 ∧ er ≠ 4 ∧ er ≤ 20
def ErN (e : Int) : Prop := e = 0 ∨ e = 3 ∨ e = 5 ∨ e = 9 ∨ e = 10
theorem make_err (x y : Int) : ErN (make x y).2.2 := by
 unfold make
 split
 ·
  exact .inr (.inr (.inr (.inr rfl)))
 split
 ·
  exact .inr (.inr (.inr (.inl rfl)))
 exact .inl rfl
theorem read1_err (l : List UInt8) : ErN (read1 l).2.2 := by
 have ite_P : ∀ (c : Prop) [Decidable c] (a b : Int × Int × Int), ErN a.2.2 → ErN b.2.2 → ErN (if c then a else b).2.2 := fun c _ a b ha hb => by split <;> assumption
 unfold read1
 exact ite_P _ _ _ (.inr (.inl rfl)) (ite_P _ _ _ (.inr (.inr (.inl rfl))) (make_err _ _))
section
variable {ts : List Tok}
theorem unex_bad {α : Type} {k ln co er : Nat} (h : (unex ts k : PR α) = .bad ln co er) : ErrAt ts ln co er := by
 unfold unex failP at h
 split at h
 ·
  injection h with h1 h2 h3
  exact .inl ⟨h1.symm, h2.symm, h3.symm⟩
 rename_i hk
 injection h with h1 h2 h3
 exact .inr ⟨k, by omega, h1.symm, h2.symm, by omega, by omega, by omega⟩
theorem fail_bad {α : Type} {k e ln co er : Nat} (hk : k < ts.length) (he : e ≠ 0 ∧ e ≠ 4 ∧ e ≤ 20) (h : (failP ts k e : PR α) = .bad ln co er) : ErrAt ts ln co er := by
 unfold failP at h
 injection h with h1 h2 h3
 exact .inr ⟨k, hk, h1.symm, h2.symm, by omega, by omega, by omega⟩
theorem numP_bad {k ln co er : Nat} (h : numP ts k = .bad ln co er) : ErrAt ts ln co er := by
 unfold numP at h
 split at h
 ·
  exact unex_bad h
 rename_i h2
 split at h
 ·
  rename_i h3
  have := read1_err (tk ts (k + signP ts k)).text
  unfold ErN at this
  exact fail_bad (tk_lt (by omega)) (by omega) h
 cases h
theorem frac_tok {k : Nat} (h : fracP ts k = true) : (tk ts (k + signP ts k)).kind = 2 ∧ (tk ts (k + signP ts k + 2)).kind = 2 ∧ isS false ts (k + signP ts k + 1) [47] = true := by
 unfold fracP integerP at h
 simp only [Bool.and_eq_true, beq_iff_eq] at h
 exact ⟨h.1.1, h.2.2.1, h.2.1⟩
theorem numP_next {k k1 : Nat} {r : Int × Int} (h : numP ts k = .ok r k1) : k1 = k + signP ts k + 1 := by
 unfold numP at h
 split at h
 ·
  exact (unex_ok h).elim
 split at h
 ·
  exact (fail_ok h).elim
 injection h with h3 h4
 exact h4.symm
theorem quotP_bad {k ln co er : Nat} (hf : fracP ts k = true) (h : quotP ts k = .bad ln co er) : ErrAt ts ln co er := by
 unfold quotP at h
 obtain ⟨f1, f2, f3⟩ := frac_tok hf
 cases hn : numP ts k with
 | ok a k2 =>
  rw [hn] at h
  simp only [PR.bind] at h
  have hk2 := numP_next hn
  have hlt : k2 + 1 < ts.length := tk_lt (by rw [hk2]; rw [show k + signP ts k + 1 + 1 = k + signP ts k + 2 from rfl, f2]; decide)
  split at h
  ·
   exact unex_bad h
  split at h
  ·
   have := read1_err (tk ts (k2 + 1)).text
   unfold ErN at this
   exact fail_bad hlt (by omega) h
  split at h
  ·
   have := make_err a.1 (read1 (tk ts (k2 + 1)).text).1
   unfold ErN at this
   exact fail_bad hlt (by omega) h
  cases h
 | bad l c e =>
  rw [hn] at h
  injection h with h1 h2 h3
  subst h1 h2 h3
  exact numP_bad hn
 | out => rw [hn] at h; cases h
theorem map_bad {α β : Type} {f : α → β} {r : PR α} {ln co er : Nat} (h : r.map f = .bad ln co er) : r = .bad ln co er := by
 cases r with
 | ok a k1 => cases h
 | bad l c e => injection h with h1 h2 h3; rw [h1, h2, h3]
 | out => cases h
end
section
variable {nm : List UInt8 → Bool} {ts : List Tok}
theorem rule_bad : ∀ f : Nat,
 (∀ k n ln co er, sumP nm ts f k n = .bad ln co er → ErrAt ts ln co er) ∧ (∀ e0 k n ln co er, chS nm ts f e0 k n = .bad ln co er → ErrAt ts ln co er) ∧
 (∀ k n ln co er, termP nm ts f k n = .bad ln co er → ErrAt ts ln co er) ∧ (∀ e0 k n ln co er, chT nm ts f e0 k n = .bad ln co er → ErrAt ts ln co er) ∧
 (∀ k n ln co er, firstP nm ts f k n = .bad ln co er → ErrAt ts ln co er) ∧ (∀ k n ln co er, factorP nm ts f k n = .bad ln co er → ErrAt ts ln co er) ∧
 (∀ k n ln co er, atomP nm ts f k n = .bad ln co er → ErrAt ts ln co er) ∧ (∀ k n ln co er, encP nm ts f k n = .bad ln co er → ErrAt ts ln co er) := by
 intro f
 induction f with
 | zero =>
  refine ⟨?_, ?_, ?_, ?_, ?_, ?_, ?_, ?_⟩ <;> intros <;> rename_i h <;> first | (unfold sumP at h; cases h) | (unfold chS at h; cases h) | (unfold termP at h; cases h) | (unfold chT at h; cases h) | (unfold firstP at h; cases h) | (unfold factorP at h; cases h) | (unfold atomP at h; cases h) | (unfold encP at h; cases h)
 | succ f ih =>
  obtain ⟨j, c, d, g, l, a, m, i⟩ := ih
  refine ⟨?_, ?_, ?_, ?_, ?_, ?_, ?_, ?_⟩
  ·
   intro k n ln co er h
   unfold sumP at h
   split at h
   ·
    exact c _ _ _ _ _ _ h
   exact d _ _ _ _ _ h
  ·
   intro e0 k n ln co er h
   unfold chS at h
   split at h
   ·
    split at h
    ·
     exact c _ _ _ _ _ _ h
    exact d _ _ _ _ _ h
   cases h
  ·
   intro k n ln co er h
   unfold termP at h
   split at h
   ·
    exact g _ _ _ _ _ _ h
   exact l _ _ _ _ _ h
  ·
   intro e0 k n ln co er h
   unfold chT at h
   split at h
   ·
    split at h
    ·
     exact g _ _ _ _ _ _ h
    exact a _ _ _ _ _ h
   cases h
  ·
   intro k n ln co er h
   unfold firstP at h
   split at h
   ·
    rename_i hf
    rw [Bool.and_eq_true] at hf
    exact quotP_bad hf.1 (map_bad h)
   exact a _ _ _ _ _ h
  ·
   intro k n ln co er h
   unfold factorP at h
   split at h
   ·
    exact numP_bad (map_bad h)
   split at h
   ·
    rename_i hs
    have b : k < ts.length := by
     unfold signP at hs
     split at hs
     ·
      rename_i h6
      exact isS_lt h6
     cases hs
    split at h
    ·
     exact fail_bad b (by omega) h
    split at h
    ·
     cases h
    exact a _ _ _ _ _ h
   split at h
   ·
    split at h
    ·
     split at h
     ·
      exact unex_bad h
     rename_i h8
     split at h
     ·
      refine fail_bad (tk_lt ?_) (by omega) h
      intro h9
      apply h8
      unfold integerP
      rw [h9]
      rfl
     cases h
    cases h
   exact m _ _ _ _ _ h
  ·
   intro k n ln co er h
   unfold atomP at h
   split at h
   ·
    exact numP_bad (map_bad h)
   split at h
   ·
    cases h
   split at h
   ·
    split at h
    ·
     cases h
    exact i _ _ _ _ _ h
   exact i _ _ _ _ _ h
  intro k n ln co er h
  unfold encP at h
  split at h
  ·
   rename_i h6
   have b := isS_lt h6
   split at h
   ·
    exact fail_bad b (by omega) h
   split at h
   ·
    split at h
    ·
     cases h
    exact unex_bad h
   exact j _ _ _ _ _ h
  exact unex_bad h
end
end Go.Fl.Pa
namespace Go.Proofs.YtkjoohnndobjeaaGreatDoor
open Go.RowKit Go.Fl Go.Fl.Lx Go.Fl.Nm Go.Fl.Fm Go.Fl.Rt Go.Fl.Pa
open List (setIfInBounds_toArray set_cons_zero set_cons_succ getElem_toArray getElem_cons_zero getElem_cons_succ)
/-- What a whole text comes to: a place and an error's number, and what was read; v: whether what was read is valid. -/
def runS {α : Type} (ts : List Tok) (v : α → Bool) (r : PR α) : (Nat × Nat × Nat) × Option α :=
  match r with
  | .ok T k1 => if k1 < ts.length then (((tk ts k1).line, (tk ts k1).col, 3), none) else if v T then ((0, 0, 0), some T) else ((0, 0, 5), some T)
  | .bad ln co er => ((ln, co, er), none)
  | .out => ((0, 0, 0), none)
def runR {α : Type} (l : List UInt8) (rd : List Tok → PR α) (v : α → Bool) : (Nat × Nat × Nat) × Option α :=
  match lexRes l with
  | .error e => (e, none)
  | .ok ts => runS ts v (rd ts)
def exprR (l : List UInt8) : (Nat × Nat × Nat) × Option TE := runR l (fun ts => sumP nameP ts (8 * ts.length + 8) 0 0) okE
/-- What run answers. -/
def RunP (Q : World → World → Prop) (bx : Nat) (r : Nat × Nat × Nat) (w : World) (e : Ending) (w' : World) : Prop :=
  e = .returned (.tuple #[.agg #[.int .i64 r.1, .int .i64 r.2.1], .int .i64 r.2.2]) ∧ Hid (w.grownBy w' (some bx)) ∧ Hid (r.2.2 = 0 → Q w w')
theorem wp_norm {P : Program} {c : Code} {Q' : Exit → Act → World → Prop} {a : Act} {w : World} (h : c.wp P (fun e a w => match e with | .normal => Q' .normal a w | _ => False) a w) : c.wp P Q' a w :=
 wp_mono h (fun e a w h => by cases e <;> first | exact h | exact h.elim)
/-- What was read lies at block bx. -/
def GotE (o : Option TE) (bx : Nat) (w w' : World) : Prop := ∃ T v, o = some T ∧ Hid (Blk w' bx 29 #[.int .i64 v.h.kind, .int .i64 v.h.n, .int .i64 v.h.d, .string v.h.name, .int .i64 v.h.k, .slice v.A v.len v.cap]) ∧ Hid (InX w.heap.size w' T v)
theorem gr2_new {w w5 w6 : World} {r r1 r2 : Nat} (h : w.grownBy w5 (some r)) (h1 : w.heap.size ≤ r1) (h2 : w.heap.size ≤ r2) (h6 : Gr2 w5 w6 r1 r2) : w.grownBy w6 (some r) :=
 ⟨h6.os.trans h.os, h6.tape.trans h.tape, h6.output.trans h.output, Nat.le_trans h.size h6.size, fun k hk hr => (h6.block k (Nat.lt_of_lt_of_le hk h.size) (by omega) (by omega)).trans (h.block k hk hr)⟩
theorem errat_ne {ts : List Tok} {ln co er : Nat} (h : ErrAt ts ln co er) : ¬ er = 0 := by
 rcases h with ⟨_, _, e⟩ | ⟨k, _, _, _, e, _⟩ <;> omega
theorem gr2_w {w w4 w5 : World} {g r : Nat} (ho : Below w.heap.size w w4) (hg : w.heap.size ≤ g) (h : Gr2 w4 w5 g r) : w.grownBy w5 (some r) :=
 ⟨h.os.trans ho.os, h.tape.trans ho.tape, h.output.trans ho.output, Nat.le_trans ho.size h.size, fun k hk hr => (h.block k (Nat.lt_of_lt_of_le hk ho.size) (by omega) (fun e => hr (by rw [e]))).trans (ho.block k hk)⟩
theorem TsAt.put {w : World} {r : Nat} {A : Option Addr} {len cap : Nat} {ts : List Tok} (h : TsAt w A len cap ts) (hA : 0 < len → ∀ b o, A = some ⟨b, o, none⟩ → b ≠ r) (t : TypeId) (V : Array Value) : TsAt (putB w r t V) A len cap ts := by
 refine ⟨h.hl, h.hc, h.hm, h.hs, ⟨h.hr.1, fun hn => ?_⟩, h.ht⟩
 obtain ⟨b, off, hb, hlt, hcell⟩ := h.hr.2 hn
 refine ⟨b, off, hb, by rw [putB_size]; exact hlt, fun j u hu => ?_⟩
 have h1 := hcell j u hu
 have h2 := hA hn b off hb
 unfold World.cell? putB at *
 rw [Array.getElem?_setIfInBounds, if_neg (fun e => h2 e.symm)]
 exact h1
theorem Env.at0 {w : World} {A : Option Addr} {len cap : Nat} {ts : List Tok} (h : TsAt w A len cap ts) : Env w w.heap.size A len cap ts 0 0 (w.alloc (Obj.cells #[.slice A len cap, .int .i64 0, .int .i64 0] 140)) :=
 ⟨h, below_box _ _, Nat.le_refl _, Blk.new _ _ _, by omega⟩
theorem ts_of {l : List UInt8} {ts : List Tok} (h : lexRes l = .ok ts) {w : World} {B : Nat} {v : Value} (ho : w.ownsRow B 58 4 v ts.length (toksCells ts)) :
 DigTs ts ∧ ∃ A len cap, v = .slice A len cap ∧ len = ts.length ∧ TsAt w A len cap ts ∧ (0 < len → ∀ b o, A = some ⟨b, o, none⟩ → B ≤ b) := by
 obtain ⟨r, s, i⟩ := lex_facts h
 have m : ∀ k, (tk ts k).kind ≠ 0 → tk ts k ∈ ts := fun k hk => List.mem_of_getElem? (tk_at (tk_lt hk))
 constructor
 ·
  intro k hk c hc
  have a := (i _ (m k (by omega))).1
  rcases a with ⟨f, _⟩ | ⟨_, f⟩
  ·
   omega
  have n := num_all _ (kind2 _ (f.trans hk)).2; have h7 := List.all_eq_true.1 n c hc
  unfold inNum isDigit at h7
  simp only [Bool.or_eq_true, beq_iff_eq, Bool.and_eq_true, decide_eq_true_eq] at h7
  rcases h7 with h7 | h7
  ·
   rw [h7]; exact .inl rfl
  exact .inr ⟨UInt8.le_iff_toNat_le.1 h7.1, UInt8.le_iff_toNat_le.1 h7.2⟩
 have j := ho
 obtain ⟨A, c, d, p, q, u⟩ := Rd.of_own ho
 refine ⟨A, ts.length, c, d, rfl, ⟨rfl, q, ?_, by omega, p, fun t ht => ?_⟩, fun hn b o hA => ?_⟩
 ·
  rcases j.2 with ⟨e, _⟩ | ⟨g, cap, cur, e, _, _, _, e2, _⟩
  ·
   rw [d] at e; injection e with e1 e2 e3
   all_goals omega
  rw [d] at e; injection e with e1 e2' e3
  all_goals omega
 ·
  have a := i t ht; have f := tok_len a.1
  refine ⟨by omega, ?_, by omega, by omega⟩
  rcases a.1 with ⟨e, _⟩ | ⟨e, _⟩ <;> omega
 rcases j.2 with ⟨e, e2⟩ | ⟨g, cap, cur, e, e2, _⟩
 ·
  omega
 rw [d, hA] at e
 injection e with e1
 injection e1 with e1
 injection e1 with e1
 omega

theorem pRunE (s : ByteArray) (w : World) (hs : s.size ≤ maxLen) (bx : Nat) (hB : Blk w bx 29 #[.int .i64 0, .int .i64 0, .int .i64 0, .string ⟨#[]⟩, .int .i64 0, .slice none 0 0]) (hR : RX w) (hX : FX w) :
 Calls Tryz.prog 46 #[.string s, .func (.func 47) #[] #[.pointer (some ⟨bx, 0, none⟩)]] w (RunP (GotE (exprR s.data.toList).2 bx) bx (exprR s.data.toList).1 w) := by
 have c8 : ∀ (fn : Fn) (first G : Array Value) (w : World), (Instr.makeFunc fn first G).run Tryz.prog w = .ok (.func fn first G) w := fun _ _ _ _ => rfl
 have cn := hI hB
 have HR := hI hR
 have HX := hI hX
 obtain ⟨D, a9⟩ := eX (exprR s.data.toList)
 have ar := hI a9
 rw [← a9]
 have cr : bx < w.heap.size := Blk.lt hB
 clear hB hR hX a9
 go_enter_defers Tryz.func46, Tryz.ntmps46
 go_upto_region 1 with (fail)
 obtain ⟨R, U⟩ := eX ((w.alloc (Obj.cells #[.int .i64 0, .int .i64 0] 40)).alloc (Obj.cells #[.int .i64 0] 41))
 have O1 := hI (show Below w.heap.size w R by rw [U]; exact (below_box _ _).trans ((below_box _ _).mono (by simp)))
 have A1 := hI (show Blk R w.heap.size 40 #[.int .i64 0, .int .i64 0] by rw [U]; exact (Blk.new w 40 #[.int .i64 0, .int .i64 0]).belowW (below_box _ _))
 have B1 := hI (show Blk R (w.heap.size + 1) 41 #[.int .i64 0] by rw [U]; exact (by have := Blk.new (w.alloc (Obj.cells #[.int .i64 0, .int .i64 0] 40)) 41 #[.int .i64 0]; simpa using this))
 rw [← U]
 clear U
 have c9 : w.heap.size + 1 < R.heap.size := B1.out.lt
 have da : s.size ≤ maxLen := hs
 go_wp2_with fail
 refine (split_any s R hs).mono ?_
 rintro e w2 ⟨V, W⟩
 have O2 := hI (show Below w.heap.size w w2 from O1.out.trans (V.mono O1.out.size))
 have M := hI (A1.out.belowW V)
 have B2 := hI (B1.out.belowW V)
 have db := V.size
 have H : w.heap.size ≠ w.heap.size + 1 := by omega
 have X : w.heap.size + 1 ≠ w.heap.size := by omega
 have av : bx ≠ w.heap.size := by omega
 have aw : bx ≠ w.heap.size + 1 := by omega
 clear V
 cases hl : lexRes s.data.toList with
 | error p =>
  obtain ⟨d, i, c⟩ := p; have ct := (lexRes_err hl).1; have Y : ¬ c = 0 := ct; rw [hl] at W; simp only at W; have l := hI (show D = ((d, i, c), none) by rw [ar.out]; unfold exprR runR; rw [hl]); subst W; clear hl ar; have d1 : (((c : Nat) : Int) != 0) = true := (by rw [bne_iff_ne]; omega); obtain ⟨j, N, k, O⟩ := M.out.all2; obtain ⟨a, x⟩ := B2.out.all1
  go_upto_region 2 with (fail)
  rw [pst2 M.out]; have m := hI (B2.out.far (t' := 40) X #[.int .i64 (d : Nat), .int .i64 (i : Nat)]); rw [pst1 m.out]; have Z := hI ((M.out.put #[.int .i64 (d : Nat), .int .i64 (i : Nat)]).far (t' := 41) H #[.int .i64 (c : Nat)]); have E := hI (m.out.put #[.int .i64 (c : Nat)]); have bu := hI (grown_new (grown_new (grown_of (some bx) O2.out) (Nat.le_refl _) 40 #[.int .i64 (d : Nat), .int .i64 (i : Nat)]) (Nat.le_succ _) 41 #[.int .i64 (c : Nat)]); obtain ⟨y, I⟩ := eX (putB (putB w2 w.heap.size 40 #[.int .i64 (d : Nat), .int .i64 (i : Nat)]) (w.heap.size + 1) 41 #[.int .i64 (c : Nat)]); rw [← I] at Z E bu ⊢; clear I m; clear j N k O a x; obtain ⟨a, x⟩ := E.out.all1
  go_upto_region 3 with (fail)
  clear a x
  refine wp_norm ?_
  have ax := hI (below_dr y); have aa := Z.out.b9 ax; have bb := E.out.b9 ax; have bv := hI (grown_tr bu.out (grown_of (some bx) ax.out))
  refine wp_region_held_drew (S := fun w' => cz2 w' w.heap.size (.int .i64 (d : Nat)) (.int .i64 (i : Nat)) ∧ w'.cell? ⟨w.heap.size + 1, 0, none⟩ = some (.int .i64 (c : Nat))) (by kernel_rfl) ⟨aa.out.cz2, bb.out.cell 0⟩ fun hHeld => ?_
  obtain ⟨cu, F⟩ := eX (y.drew); rw [← F] at ax aa bb bv hHeld ⊢; clear F
  refine tkW 0 ?_
  refine tkW 1 ?_
  refine wr1 2 fun K hK => ?_
  obtain ⟨bc, bd, cv, cw⟩ := aa.out.all2
  go_simp
  rw [pst2 aa.out]; clear bc bd cv cw; have ab := hI (bb.out.far (t' := 40) X #[.int .i64 (d : Nat), .int .i64 (i : Nat)]); have bw := hI (grown_new bv.out (Nat.le_refl _) 40 #[.int .i64 (d : Nat), .int .i64 (i : Nat)]); have be := hI (aa.out.put #[.int .i64 (d : Nat), .int .i64 (i : Nat)]); obtain ⟨cx, ac⟩ := eX (putB cu (w.heap.size) 40 #[.int .i64 (d : Nat), .int .i64 (i : Nat)]); rw [← ac] at ab bw be ⊢; clear ac hHeld
  refine hK.out _ _ ⟨be.out.cz2, ab.out.cell 0⟩ fun hHeld => ?_
  clear hK K
  try simp only [setIfInBounds_toArray, set_cons_zero, set_cons_succ]
  refine wr1 3 fun K hK => ?_
  obtain ⟨bc, bd⟩ := ab.out.all1
  go_simp
  rw [pst1 ab.out]; clear bc bd; have bz := hI (grown_new bw.out (Nat.le_succ _) 41 #[.int .i64 (c : Nat)]); have bf := hI (be.out.far (t' := 41) H #[.int .i64 (c : Nat)]); have bg := hI (ab.out.put #[.int .i64 (c : Nat)]); obtain ⟨dc, ac⟩ := eX (putB cx (w.heap.size + 1) 41 #[.int .i64 (c : Nat)]); rw [← ac] at bz bf bg ⊢; clear ac hHeld
  refine hK.out _ _ ⟨bf.out.cz2, bg.out.cell 0⟩ fun hHeld => ?_
  clear hK K
  try simp only [setIfInBounds_toArray, set_cons_zero, set_cons_succ]
  refine wpAnyH_done (by kernel_rfl) ?_ _
  obtain ⟨j, _, k, _⟩ := bf.out.all2; obtain ⟨a, _⟩ := bg.out.all1
  go_wp2_with fail
  simp [bodyPostD, Leaves, results, Tryz.results46, go_sem, j, k, a]
  exact ⟨by rw [l.out], bz, hI (fun h => absurd h (by rw [l.out]; exact Y))⟩
 | ok ts =>
  rw [hl] at W; obtain ⟨v0, P, ho⟩ := W; obtain ⟨hD, A, q, G, cy, cz, hT, b3⟩ := ts_of hl ho; have b4 := hI (show D = runR s.data.toList (fun ts => sumP nameP ts (8 * ts.length + 8) 0 0) okE from ar.out); have b5 := hI hl; have c0 := hI hT; have bh := hI b3; have c1 := hI hD; subst P; subst cy; clear hl ar ho hT b3 cz hD; have c2 := hI (show 0 < q → ∀ b o, A = some ⟨b, o, none⟩ → b ≠ w.heap.size from fun h b o e => by have := bh.out h b o e; omega); have c3 := hI (show 0 < q → ∀ b o, A = some ⟨b, o, none⟩ → b ≠ w.heap.size + 1 from fun h b o e => by have := bh.out h b o e; omega); have c4 := hI (show 0 < q → ∀ b o, A = some ⟨b, o, none⟩ → b ≠ bx from fun h b o e => by have := bh.out h b o e; omega); obtain ⟨j, N, k, O⟩ := M.out.all2; obtain ⟨a, x⟩ := B2.out.all1
  go_upto_region 2 with (fail)
  rw [pst2 M.out]; have m := hI (B2.out.far (t' := 40) X #[.int .i64 0, .int .i64 0]); rw [pst1 m.out]; have Z := hI ((M.out.put #[.int .i64 0, .int .i64 0]).far (t' := 41) H #[.int .i64 0]); have E := hI (m.out.put #[.int .i64 0]); have b6 := hI (((cn.out.belowW O2.out).far (t' := 40) av #[.int .i64 0, .int .i64 0]).far (t' := 41) aw #[.int .i64 0]); have O3 := hI ((O2.out.trans (putB_below w2 w.heap.size 40 #[.int .i64 0, .int .i64 0] (Nat.le_refl _))).trans (putB_below (putB w2 w.heap.size 40 #[.int .i64 0, .int .i64 0]) (w.heap.size + 1) 41 #[.int .i64 0] (Nat.le_succ _))); have b7 := hI ((c0.out.put c2.out 40 #[.int .i64 0, .int .i64 0]).put c3.out 41 #[.int .i64 0]); obtain ⟨y, I⟩ := eX (putB (putB w2 w.heap.size 40 #[.int .i64 0, .int .i64 0]) (w.heap.size + 1) 41 #[.int .i64 0]); rw [← I] at Z E b6 O3 b7 ⊢; clear I m; clear j N k O a x; obtain ⟨a, x⟩ := E.out.all1
  go_upto_region 6 with (fail)
  clear a x; obtain ⟨w4, az⟩ := eX (y.alloc (Obj.cells #[.slice A q G, .int .i64 0, .int .i64 0] 140)); have bj := hI (show Env y y.heap.size A q G ts 0 0 w4 by rw [az]; exact Env.at0 b7.out); have bk := hI (show Below y.heap.size y w4 by rw [az]; exact below_box _ _); rw [← az]; clear az; have A4 := Z.out.b9 bk; have B4 := E.out.b9 bk; have O4 := O3.out.t bk; have I : w.heap.size + 1 < y.heap.size := E.out.lt; have HK := hI (pExpr1 bj.out (HR.out.belowW O3.out) (HX.out.belowW O3.out) c1.out bx (Nat.lt_trans cr (by omega)) b6.out c4.out); obtain ⟨g, hg⟩ := eX (y.heap.size); rw [← hg] at bj HK I ⊢; have cd : w.heap.size ≠ g := (by omega); have ce : w.heap.size + 1 ≠ g := (by omega); clear hg; have de : g < w4.heap.size := bj.out.gl; obtain ⟨r, hr⟩ := eX (sumP nameP ts (8 * ts.length + 8) 0 0); have u := hI (show D = runS ts okE r by rw [b4.out]; unfold runR; rw [b5.out, hr]); rw [← hr] at HK; have c5 := hI hr; clear hr b4 b5
  cases r with
  | out =>
   go_wp2_with fail
   refine HK.out.mono ?_
   rintro e w5 P
   exact P.elim
  | bad d i c =>
   have l := hI (show D = ((d, i, c), none) from u.out); have Y : ¬ c = 0 := errat_ne ((rule_bad (nm := nameP) (ts := ts) _).1 0 0 d i c c5.out.symm); clear u
   go_wp2_with fail
   refine HK.out.mono ?_
   rintro e w5 ⟨rfl, J⟩
   go_wp2_with fail
   have GW := hI (gr2_w O4.out (by omega) J.out)
   refine leaves_cons (f := 90) (args := #[.pointer (some ⟨w.heap.size, 0, none⟩), .pointer (some ⟨w.heap.size + 1, 0, none⟩)]) (by simp) (by simp [go_sem]) ?_
   refine (run1_panic w.heap.size (w.heap.size + 1) 0 0 0 d i c [] w5 (Blk.gr2 A4.out J.out cd (Ne.symm av)) (Blk.gr2 B4.out J.out ce (Ne.symm aw)) H).mono ?_
   rintro e u' w6 ⟨rfl, rfl, bl, bm, bn⟩; obtain ⟨j, _, k, _⟩ := bl.out.all2; obtain ⟨a, _⟩ := bm.out.all1
   simp [Leaves, settle, results, Tryz.results46, go_sem, j, k, a]
   exact ⟨(by rw [l.out]; try rfl), hI (gr2_new GW.out (Nat.le_refl _) (Nat.le_succ _) bn.out), hI (fun h => absurd h (by rw [l.out]; exact Y))⟩
  | ok T k1 =>
   go_wp2_with fail
   refine HK.out.mono ?_
   rintro e w5 ⟨v, wb, rfl, a1, a2, af, J⟩; have A5 := hI (Blk.gr2 A4.out J.out cd (Ne.symm av)); have B5 := hI (Blk.gr2 B4.out J.out ce (Ne.symm aw)); have a5 := hI (gr2_w O4.out (by omega) J.out); have cf := hI af.out.t.hl
   by_cases hlt : k1 < q
   ·
    have bo : k1 < ts.length := (by rw [cf.out]; exact hlt); have l := hI (show D = (((tk ts k1).line, (tk ts k1).col, 3), none) from u.out.trans (if_pos bo)); have Y : ¬ (3 : Nat) = 0 := (by decide); have d1 : decide ((k1 : Int) < (q : Int)) = true := decide_eq_true (by omega); have d2 : decide (k1 < q) = true := decide_eq_true hlt; have cg : panU ts k1 = pan (tk ts k1).line (tk ts k1).col 3 := (by unfold panU; rw [if_neg (by omega)]); have ch := hI cg; obtain ⟨d, ci⟩ := eX ((tk ts k1).line); obtain ⟨i, cj⟩ := eX ((tk ts k1).col); rw [← ci, ← cj] at l ch; clear u cg ci cj
    go_upto_region 7 with (fail)
    refine wp_norm ?_
    have n := hI (below_dr w5); have ag := A5.out.b9 n; have ah := B5.out.b9 n; have ai := a1.out.b9 n; have aj := a2.out.b9 n; have z := af.out.b9 n; have ak := hI (grown_tr a5.out (grown_of (some bx) n.out))
    refine wp_region_held_drew (S := fun w' => w'.cell? ⟨g, 0, none⟩ = some (.slice A q G) ∧ w'.cell? ⟨g, 1, none⟩ = some (.int .i64 (k1 : Nat))) (by kernel_rfl) ⟨Blk.cell z.out.p 0, Blk.cell z.out.p 1⟩ fun hHeld => ?_
    obtain ⟨bp, F⟩ := eX (w5.drew); rw [← F] at n ag ah ai aj z ak hHeld ⊢; clear F
    refine tkW 0 ?_
    refine tkW 1 ?_
    refine tkW 2 ?_
    refine tkW 3 ?_
    refine tkW 4 ?_
    refine tkW 5 ?_
    refine tkW 6 ?_
    refine tkW 7 ?_
    refine tkW 8 ?_
    refine tkW 9 ?_
    refine wpAnyH_done (by kernel_rfl) ?_ _
    go_wp2_with fail
    have B := ag; have L := ah; have a6 := ai; have a7 := aj; have a8 := z; have Q := ak; clear A5 B5 a1 a2 af a5; obtain ⟨w6, al⟩ := eX (bp); rw [← al] at B L a6 a7 a8 Q ⊢; clear al
    refine a8.out.unx.mono ?_
    rintro e w7 ⟨P, bq⟩; rw [ch.out] at P; subst P
    go_wp2_with fail
    refine leaves_cons (f := 90) (args := #[.pointer (some ⟨w.heap.size, 0, none⟩), .pointer (some ⟨w.heap.size + 1, 0, none⟩)]) (by simp) (by simp [go_sem]) ?_
    refine (run1_panic w.heap.size (w.heap.size + 1) 0 0 0 d i 3 [] w7 (B.out.belowW bq.out) (L.out.belowW bq.out) H).mono ?_
    rintro e u' w6 ⟨rfl, rfl, bl, bm, bn⟩; obtain ⟨j, _, k, _⟩ := bl.out.all2; obtain ⟨a, _⟩ := bm.out.all1
    simp [Leaves, settle, results, Tryz.results46, go_sem, j, k, a]
    exact ⟨(by rw [l.out]; try rfl), hI (gr2_new (grown_tr Q.out (grown_of (some bx) bq.out)) (Nat.le_refl _) (Nat.le_succ _) bn.out), hI (fun h => absurd h (by rw [l.out]; exact Y))⟩
   have bo : ¬ k1 < ts.length := (by rw [cf.out]; exact hlt); have u := hI (show D = (if okE T then ((0, 0, 0), some T) else ((0, 0, 5), some T)) from u.out.trans (if_neg bo)); have d1 : decide ((k1 : Int) < (q : Int)) = false := decide_eq_false (by omega); have d2 : decide (k1 < q) = false := decide_eq_false hlt; obtain ⟨b, hb⟩ := eX (okE T); rw [← hb] at u ⊢; clear hb
   go_upto_region 7 with (fail)
   refine wp_norm ?_
   have n := hI (below_dr w5); have ag := A5.out.b9 n; have ah := B5.out.b9 n; have ai := a1.out.b9 n; have aj := a2.out.b9 n; have z := af.out.b9 n; have ak := hI (grown_tr a5.out (grown_of (some bx) n.out))
   refine wp_region_held_drew (S := fun w' => w'.cell? ⟨g, 0, none⟩ = some (.slice A q G) ∧ w'.cell? ⟨g, 1, none⟩ = some (.int .i64 (k1 : Nat))) (by kernel_rfl) ⟨Blk.cell z.out.p 0, Blk.cell z.out.p 1⟩ fun hHeld => ?_
   obtain ⟨bp, F⟩ := eX (w5.drew); rw [← F] at n ag ah ai aj z ak hHeld ⊢; clear F
   refine tkW 0 ?_
   refine tkW 1 ?_
   refine tkW 2 ?_
   refine tkW 3 ?_
   refine tkW 4 ?_
   refine tkW 5 ?_
   refine tkW 6 ?_
   refine tkW 7 ?_
   refine tkW 8 ?_
   refine tkW 9 ?_
   refine wpAnyH_done (by kernel_rfl) ?_ _
   go_upto_region 9 with (fail)
   have B := ag; have L := ah; have a6 := ai; have a7 := aj; have a8 := z; have Q := ak; clear A5 B5 a1 a2 af a5; obtain ⟨w6, al⟩ := eX (bp); rw [← al] at B L a6 a7 a8 Q ⊢; clear al; obtain ⟨j, N, k, O⟩ := B.out.all2; obtain ⟨a, x⟩ := L.out.all1
   cases b with
   | false =>
    have l := hI (show D = ((0, 0, 5), some T) from u.out); clear u
    go_wp2_with fail
    rw [pst2 B.out]; have m := hI (L.out.far (t' := 40) X #[.int .i64 0, .int .i64 0]); rw [pst1 m.out]; have A7 := hI ((B.out.put #[.int .i64 0, .int .i64 0]).far (t' := 41) H #[.int .i64 5]); have B7 := hI (m.out.put #[.int .i64 5]); have ap := hI (grown_new (grown_new Q.out (Nat.le_refl _) 40 #[.int .i64 0, .int .i64 0]) (Nat.le_succ _) 41 #[.int .i64 5]); obtain ⟨w7, aq⟩ := eX (putB (putB w6 w.heap.size 40 #[.int .i64 0, .int .i64 0]) (w.heap.size + 1) 41 #[.int .i64 5]); rw [← aq] at A7 B7 ap ⊢; clear aq m; clear j N k O a x
    refine leaves_cons (f := 90) (args := #[.pointer (some ⟨w.heap.size, 0, none⟩), .pointer (some ⟨w.heap.size + 1, 0, none⟩)]) (by simp) (by simp [go_sem]) ?_
    refine (run1_idle ⟨w.heap.size, 0, none⟩ ⟨w.heap.size + 1, 0, none⟩ w7).mono ?_
    rintro e u' w8 ⟨rfl, rfl, rfl⟩; obtain ⟨j, _, k, _⟩ := A7.out.all2; obtain ⟨a, _⟩ := B7.out.all1
    simp [Leaves, settle, results, Tryz.results46, go_sem, j, k, a]
    exact ⟨(by rw [l.out]; try rfl), ap, hI (fun h => absurd h (by rw [l.out]; simp))⟩
   | true =>
    have l := hI (show D = ((0, 0, 0), some T) from u.out); clear u
    go_wp2_with fail
    rw [pst2 B.out]; have m := hI (L.out.far (t' := 40) X #[.int .i64 0, .int .i64 0]); rw [pst1 m.out]; have A7 := hI ((B.out.put #[.int .i64 0, .int .i64 0]).far (t' := 41) H #[.int .i64 0]); have B7 := hI (m.out.put #[.int .i64 0]); have cl := hI ((a6.out.far (t' := 40) av #[.int .i64 0, .int .i64 0]).far (t' := 41) aw #[.int .i64 0]); have ap := hI (grown_new (grown_new Q.out (Nat.le_refl _) 40 #[.int .i64 0, .int .i64 0]) (Nat.le_succ _) 41 #[.int .i64 0]); have cm := hI (((a7.out.far (r := w.heap.size) (by omega) 40 #[.int .i64 0, .int .i64 0]).far (r := w.heap.size + 1) (by omega) 41 #[.int .i64 0]).weaken (C := w.heap.size) (by omega)); obtain ⟨w7, aq⟩ := eX (putB (putB w6 w.heap.size 40 #[.int .i64 0, .int .i64 0]) (w.heap.size + 1) 41 #[.int .i64 0]); rw [← aq] at A7 B7 cl ap cm ⊢; clear aq m; clear j N k O a x
    refine leaves_cons (f := 90) (args := #[.pointer (some ⟨w.heap.size, 0, none⟩), .pointer (some ⟨w.heap.size + 1, 0, none⟩)]) (by simp) (by simp [go_sem]) ?_
    refine (run1_idle ⟨w.heap.size, 0, none⟩ ⟨w.heap.size + 1, 0, none⟩ w7).mono ?_
    rintro e u' w8 ⟨rfl, rfl, rfl⟩; obtain ⟨j, _, k, _⟩ := A7.out.all2; obtain ⟨a, _⟩ := B7.out.all1
    simp [Leaves, settle, results, Tryz.results46, go_sem, j, k, a]
    exact ⟨(by rw [l.out]; try rfl), ap, hI (fun h => ⟨T, v, by rw [l.out], cl, cm⟩)⟩
end Go.Proofs.YtkjoohnndobjeaaGreatDoor
namespace Go.Proofs.YtkjoohnndobjeaaGreatDoor
open Go.RowKit Go.Fl Go.Fl.Lx Go.Fl.Nm Go.Fl.Fm Go.Fl.Rt Go.Fl.Pa
open List (setIfInBounds_toArray set_cons_zero set_cons_succ getElem_toArray getElem_cons_zero getElem_cons_succ)
def zNd : Nd := ⟨⟨0, 0, 0, ⟨#[]⟩, 0⟩, none, 0, 0⟩
/-- The node that Expr answers: the zero node, or what was read. -/
def EOut (r : (Nat × Nat × Nat) × Option TE) (v : Nd) (w w' : World) : Prop := (r.1.2.2 ≠ 0 → v = zNd) ∧ (r.1.2.2 = 0 → ∃ T, r.2 = some T ∧ InX w.heap.size w' T v)
/-- What Expr answers: the place and the error's number that are read; the expression's node, or the zero node. -/
def ExprP (l : List UInt8) (w : World) (e : Ending) (w' : World) : Prop :=
  ∃ v : Nd, e = .returned (.tuple #[v.val, .agg #[.int .i64 (exprR l).1.1, .int .i64 (exprR l).1.2.1], .int .i64 (exprR l).1.2.2]) ∧ Hid (Below w.heap.size w w') ∧ EOut (exprR l) v w w'
theorem below_grown {w w1 w2 : World} {r : Nat} (h1 : Below w.heap.size w w1) (hr : w.heap.size ≤ r) (h2 : w1.grownBy w2 (some r)) : Below w.heap.size w w2 :=
 ⟨h2.os.trans h1.os, h2.tape.trans h1.tape, h2.output.trans h1.output, Nat.le_trans h1.size h2.size, fun k hk => (h2.block k (Nat.lt_of_lt_of_le hk h1.size) (fun e => by injection e with e; omega)).trans (h1.block k hk)⟩

theorem pExpr (s : ByteArray) (w : World) (hs : s.size ≤ maxLen) (hR : RX w) (hX : FX w) : Calls Tryz.prog 21 #[.string s] w (ExprP s.data.toList w) := by
 have bm : ∀ (fn : Fn) (first cap : Array Value) (w : World), (Instr.makeFunc fn first cap).run Tryz.prog w = .ok (.func fn first cap) w := fun _ _ _ _ => rfl
 have HR := hI hR
 have HX := hI hX
 have R := hI (fun (w' : World) (hB : Blk w' (w.heap.size + 2) 29 #[.int .i64 0, .int .i64 0, .int .i64 0, .string ⟨#[]⟩, .int .i64 0, .slice none 0 0]) (hR' : RX w') (hX' : FX w') => pRunE s w' hs (w.heap.size + 2) hB hR' hX')
 unfold ExprP
 obtain ⟨RR, ap⟩ := eX (exprR s.data.toList)
 rw [← ap] at R ⊢
 clear hR hX ap
 obtain ⟨⟨a, b, U⟩, o⟩ := RR
 simp only at R ⊢
 go_enter Tryz.func21, Tryz.ntmps21
 go_upto_region 2 with (fail)
 obtain ⟨y, z⟩ := eX (((w.alloc (Obj.cells #[.int .i64 0, .int .i64 0, .int .i64 0, .string ⟨#[]⟩, .int .i64 0, .slice none 0 0] 29)).alloc (Obj.cells #[.int .i64 0, .int .i64 0] 40)).alloc (Obj.cells #[.int .i64 0, .int .i64 0, .int .i64 0, .string ⟨#[]⟩, .int .i64 0, .slice none 0 0] 29))
 have V := hI (show Below w.heap.size w y by rw [z]; exact ((below_box _ _).trans ((below_box _ _).mono (by simp))).trans ((below_box _ _).mono (by simp; omega)))
 have A1 := hI (show Blk y w.heap.size 29 #[.int .i64 0, .int .i64 0, .int .i64 0, .string ⟨#[]⟩, .int .i64 0, .slice none 0 0] by rw [z]; exact ((Blk.new w 29 #[.int .i64 0, .int .i64 0, .int .i64 0, .string ⟨#[]⟩, .int .i64 0, .slice none 0 0]).belowW (below_box _ _)).belowW (below_box _ _))
 have B1 := hI (show Blk y (w.heap.size + 1) 40 #[.int .i64 0, .int .i64 0] by rw [z]; exact Blk.belowW (by have := Blk.new (w.alloc (Obj.cells #[.int .i64 0, .int .i64 0, .int .i64 0, .string ⟨#[]⟩, .int .i64 0, .slice none 0 0] 29)) 40 #[.int .i64 0, .int .i64 0]; simpa using this) (below_box _ _))
 have X1 := hI (show Blk y (w.heap.size + 2) 29 #[.int .i64 0, .int .i64 0, .int .i64 0, .string ⟨#[]⟩, .int .i64 0, .slice none 0 0] by rw [z]; exact (by have := Blk.new ((w.alloc (Obj.cells #[.int .i64 0, .int .i64 0, .int .i64 0, .string ⟨#[]⟩, .int .i64 0, .slice none 0 0] 29)).alloc (Obj.cells #[.int .i64 0, .int .i64 0] 40)) 29 #[.int .i64 0, .int .i64 0, .int .i64 0, .string ⟨#[]⟩, .int .i64 0, .slice none 0 0]; simpa using this))
 rw [← z]
 clear z
 have bn : w.heap.size + 2 < y.heap.size := X1.out.lt
 go_wp2_with fail
 refine (R.out y X1.out (HR.out.belowW V.out) (HX.out.belowW V.out)).mono ?_
 rintro e w2 ⟨rfl, P, bc⟩
 have O2 := hI (below_grown V.out (by omega) P.out)
 have A2 := hI (A1.out.grown P.out (by simp))
 have B2 := hI (B1.out.grown P.out (by simp))
 have bo := P.out.size
 go_upto_region 3 with (fail)
 obtain ⟨Q, ar, B, W⟩ := aX w2 40 #[.int .i64 (a : Nat), .int .i64 (b : Nat)]
 rw [← ar]
 clear ar
 have O4 := O2.out.t B
 have A4 := A2.out.b9 B
 have B4 := B2.out.b9 B
 obtain ⟨C, ax⟩ := eX (w2.heap.size)
 have bp : w.heap.size + 2 < C := by omega
 rw [← ax] at W ⊢
 clear ax
 have ay : w.heap.size + 1 ≠ w.heap.size := by omega
 have az : w.heap.size ≠ w.heap.size + 1 := by omega
 have a0 : C ≠ w.heap.size := by omega
 have a1 : C ≠ w.heap.size + 1 := by omega
 have bg : w.heap.size + 2 ≠ w.heap.size := by omega
 have bh : w.heap.size + 2 ≠ w.heap.size + 1 := by omega
 by_cases her : U = 0
 ·
  obtain ⟨T, v, hT, bi, bj⟩ := bc.out her; subst her; have HT := hI hT; clear hT
  go_upto_region 5 with (fail)
  have c := hI (below_dr Q); have i := A4.out.b9 c; have D := B4.out.b9 c; have l := W.out.b9 c; have E := O4.out.t c; have X := hI ((bi.out.belowW B.out).belowW c.out); have a3 := hI ((bj.out.belowW B.out).belowW c.out)
  refine wp_region_held_drew (S := fun w' => cz2 w' C (.int .i64 (a : Nat)) (.int .i64 (b : Nat)) ∧ cz6 w' (w.heap.size + 2) (.int .i64 v.h.kind) (.int .i64 v.h.n) (.int .i64 v.h.d) (.string v.h.name) (.int .i64 v.h.k) (.slice v.A v.len v.cap)) (by kernel_rfl) ⟨l.out.cz2, X.out.cz6⟩ fun hHeld => ?_
  obtain ⟨F, G⟩ := eX (Q.drew); rw [← G] at c i D l E X a3 hHeld ⊢; clear G
  refine tkW 0 ?_
  refine tkW 1 ?_
  refine tkW 2 ?_
  refine wr1 3 fun K hK => ?_
  obtain ⟨m, p, q, u, Y, Z, aa, ab, ac, ad, ae, af⟩ := i.out.all6
  go_simp
  rw [pst6 i.out]; clear m p q u Y Z aa ab ac ad ae af; have j := hI (D.out.far (t' := 29) ay #[.int .i64 v.h.kind, .int .i64 v.h.n, .int .i64 v.h.d, .string v.h.name, .int .i64 v.h.k, .slice v.A v.len v.cap]); have x := hI (l.out.far (t' := 29) a0 #[.int .i64 v.h.kind, .int .i64 v.h.n, .int .i64 v.h.d, .string v.h.name, .int .i64 v.h.k, .slice v.A v.len v.cap]); have H := hI (E.out.trans (putB_below F w.heap.size 29 #[.int .i64 v.h.kind, .int .i64 v.h.n, .int .i64 v.h.d, .string v.h.name, .int .i64 v.h.k, .slice v.A v.len v.cap] (Nat.le_refl _))); have ag := hI (X.out.far (t' := 29) bg #[.int .i64 v.h.kind, .int .i64 v.h.n, .int .i64 v.h.d, .string v.h.name, .int .i64 v.h.k, .slice v.A v.len v.cap]); have a4 := hI (a3.out.far (r := w.heap.size) (by omega) 29 #[.int .i64 v.h.kind, .int .i64 v.h.n, .int .i64 v.h.d, .string v.h.name, .int .i64 v.h.k, .slice v.A v.len v.cap]); have I := hI (i.out.put #[.int .i64 v.h.kind, .int .i64 v.h.n, .int .i64 v.h.d, .string v.h.name, .int .i64 v.h.k, .slice v.A v.len v.cap]); obtain ⟨J, g⟩ := eX (putB F (w.heap.size) 29 #[.int .i64 v.h.kind, .int .i64 v.h.n, .int .i64 v.h.d, .string v.h.name, .int .i64 v.h.k, .slice v.A v.len v.cap]); rw [← g] at j x H ag a4 I ⊢; clear g hHeld
  refine hK.out _ _ ⟨x.out.cz2, ag.out.cz6⟩ fun hHeld => ?_
  clear hK K
  try simp only [setIfInBounds_toArray, set_cons_zero, set_cons_succ]
  refine wr1 4 fun K hK => ?_
  obtain ⟨m, p, q, u⟩ := j.out.all2
  go_simp
  rw [pst2 j.out]; clear m p q u; have L := hI (x.out.far (t' := 40) a1 #[.int .i64 (a : Nat), .int .i64 (b : Nat)]); have M := hI (H.out.trans (putB_below J (w.heap.size + 1) 40 #[.int .i64 (a : Nat), .int .i64 (b : Nat)] (Nat.le_succ _))); have a5 := hI (ag.out.far (t' := 40) bh #[.int .i64 (a : Nat), .int .i64 (b : Nat)]); have a6 := hI (a4.out.far (r := w.heap.size + 1) (by omega) 40 #[.int .i64 (a : Nat), .int .i64 (b : Nat)]); have N := hI (I.out.far (t' := 40) az #[.int .i64 (a : Nat), .int .i64 (b : Nat)]); have O := hI (j.out.put #[.int .i64 (a : Nat), .int .i64 (b : Nat)]); obtain ⟨bl, g⟩ := eX (putB J (w.heap.size + 1) 40 #[.int .i64 (a : Nat), .int .i64 (b : Nat)]); rw [← g] at L M a5 a6 N O ⊢; clear g hHeld
  refine hK.out _ _ ⟨L.out.cz2, a5.out.cz6⟩ fun hHeld => ?_
  clear hK K
  try simp only [setIfInBounds_toArray, set_cons_zero, set_cons_succ]
  refine tkW 5 ?_
  refine wpAnyH_done (by kernel_rfl) ?_ _
  obtain ⟨z0, _, z1, _, z2, _, z3, _, z4, _, z5, _⟩ := N.out.all6; obtain ⟨y0, _, y1, _⟩ := O.out.all2
  go_wp2_with fail
  refine bodyPost_ret (v := .tuple #[.agg #[.int .i64 v.h.kind, .int .i64 v.h.n, .int .i64 v.h.d, .string v.h.name, .int .i64 v.h.k, .slice v.A v.len v.cap], .agg #[.int .i64 (a : Nat), .int .i64 (b : Nat)], .int .i64 0]) (by simp [results, Tryz.results21, go_sem, z0, z1, z2, z3, z4, z5, y0, y1]) rfl ?_
  exact ⟨v, rfl, M, ⟨fun h => absurd rfl h, fun _ => ⟨T, HT.out, a6.out.weaken (by omega)⟩⟩⟩
 have d1 : (((U : Nat) : Int) != 0) = true := by rw [bne_iff_ne]; omega
 go_upto_region 4 with (fail)
 have c := hI (below_dr Q)
 have i := A4.out.b9 c
 have D := B4.out.b9 c
 have l := W.out.b9 c
 have E := O4.out.t c
 refine wp_region_held_drew (S := fun w' => cz2 w' C (.int .i64 (a : Nat)) (.int .i64 (b : Nat))) (by kernel_rfl) l.out.cz2 fun hHeld => ?_
 obtain ⟨F, G⟩ := eX (Q.drew)
 rw [← G] at c i D l E hHeld ⊢
 clear G
 refine tkW 0 ?_
 refine tkW 1 ?_
 refine tkW 2 ?_
 refine wr1 3 fun K hK => ?_
 obtain ⟨m, p, q, u, Y, Z, aa, ab, ac, ad, ae, af⟩ := i.out.all6
 go_simp
 rw [pst6 i.out]
 clear m p q u Y Z aa ab ac ad ae af
 have j := hI (D.out.far (t' := 29) ay #[.int .i64 0, .int .i64 0, .int .i64 0, .string ⟨#[]⟩, .int .i64 0, .slice none 0 0])
 have x := hI (l.out.far (t' := 29) a0 #[.int .i64 0, .int .i64 0, .int .i64 0, .string ⟨#[]⟩, .int .i64 0, .slice none 0 0])
 have H := hI (E.out.trans (putB_below F w.heap.size 29 #[.int .i64 0, .int .i64 0, .int .i64 0, .string ⟨#[]⟩, .int .i64 0, .slice none 0 0] (Nat.le_refl _)))
 have I := hI (i.out.put #[.int .i64 0, .int .i64 0, .int .i64 0, .string ⟨#[]⟩, .int .i64 0, .slice none 0 0])
 obtain ⟨J, g⟩ := eX (putB F (w.heap.size) 29 #[.int .i64 0, .int .i64 0, .int .i64 0, .string ⟨#[]⟩, .int .i64 0, .slice none 0 0])
 rw [← g] at j x H I ⊢
 clear g hHeld
 refine hK.out _ _ x.out.cz2 fun hHeld => ?_
 clear hK K
 try simp only [setIfInBounds_toArray, set_cons_zero, set_cons_succ]
 refine wr1 4 fun K hK => ?_
 obtain ⟨m, p, q, u⟩ := j.out.all2
 go_simp
 rw [pst2 j.out]
 clear m p q u
 have L := hI (x.out.far (t' := 40) a1 #[.int .i64 (a : Nat), .int .i64 (b : Nat)])
 have M := hI (H.out.trans (putB_below J (w.heap.size + 1) 40 #[.int .i64 (a : Nat), .int .i64 (b : Nat)] (Nat.le_succ _)))
 have N := hI (I.out.far (t' := 40) az #[.int .i64 (a : Nat), .int .i64 (b : Nat)])
 have O := hI (j.out.put #[.int .i64 (a : Nat), .int .i64 (b : Nat)])
 obtain ⟨bl, g⟩ := eX (putB J (w.heap.size + 1) 40 #[.int .i64 (a : Nat), .int .i64 (b : Nat)])
 rw [← g] at L M N O ⊢
 clear g hHeld
 refine hK.out _ _ L.out.cz2 fun hHeld => ?_
 clear hK K
 try simp only [setIfInBounds_toArray, set_cons_zero, set_cons_succ]
 refine tkW 5 ?_
 refine wpAnyH_done (by kernel_rfl) ?_ _
 obtain ⟨z0, _, z1, _, z2, _, z3, _, z4, _, z5, _⟩ := N.out.all6
 obtain ⟨y0, _, y1, _⟩ := O.out.all2
 go_wp2_with fail
 refine bodyPost_ret (v := .tuple #[.agg #[.int .i64 0, .int .i64 0, .int .i64 0, .string ⟨#[]⟩, .int .i64 0, .slice none 0 0], .agg #[.int .i64 (a : Nat), .int .i64 (b : Nat)], .int .i64 (U : Nat)]) (by simp [results, Tryz.results21, go_sem, z0, z1, z2, z3, z4, z5, y0, y1]) rfl ?_
 exact ⟨zNd, rfl, M, ⟨fun _ => rfl, fun h => absurd h her⟩⟩
end Go.Proofs.YtkjoohnndobjeaaGreatDoor
