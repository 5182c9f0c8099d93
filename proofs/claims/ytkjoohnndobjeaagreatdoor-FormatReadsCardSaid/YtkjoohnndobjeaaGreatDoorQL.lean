/-
  The walks of the closures of parse.Expr and parse.run.
  Where the parser's rules find errors, in plain Lean. No program in sight.
  The walk of parse.run.
  The walk of parse.Expr.
-/
import Derived.Test.YtkjoohnndobjeaaGreatDoorQK
import Derived.Defers
import Derived.Recover
import Derived.Test.YtkjoohnndobjeaaGreatDoorQI
import Derived.Test.YtkjoohnndobjeaaGreatDoorQC
set_option linter.unusedVariables false
set_option maxHeartbeats 1000000
set_option maxRecDepth 100000
namespace Go.Proofs.YtkjoohnndobjeaaGreatDoor
open Go.RowKit Go.Fl Go.Fl.Lx Go.Fl.Nm Go.Fl.Fm Go.Fl.Rt Go.Fl.Pa
open List (setIfInBounds_toArray set_cons_zero set_cons_succ getElem_toArray getElem_cons_zero getElem_cons_succ)
theorem pst1 {w : World} {g : Nat} {t : TypeId} {a : Value} (hB : Blk w g t #[a]) (a' : Value) : w.setCell ⟨g, 0, none⟩ a' = putB w g t #[a'] := by
 rw [hB.setCell_eq 0 a']
 rfl
end Go.Proofs.YtkjoohnndobjeaaGreatDoor
namespace Go
open Go.Proofs.YtkjoohnndobjeaaGreatDoor
open Go.RowKit Go.Fl Go.Fl.Lx Go.Fl.Nm Go.Fl.Fm Go.Fl.Rt Go.Fl.Pa
open List (setIfInBounds_toArray set_cons_zero set_cons_succ getElem_toArray getElem_cons_zero getElem_cons_succ)
theorem Fl.Blk.all1 {w : World} {g : Nat} {t : TypeId} {a : Value} (h : Blk w g t #[a]) : w.cell? ⟨g, 0, none⟩ = some a ∧ w.frozen? ⟨g, 0, none⟩ = false := ⟨h.cell 0, h.frozen 0⟩
end Go
namespace Go.Proofs.YtkjoohnndobjeaaGreatDoor
open Go.RowKit Go.Fl Go.Fl.Lx Go.Fl.Nm Go.Fl.Fm Go.Fl.Rt Go.Fl.Pa
open List (setIfInBounds_toArray set_cons_zero set_cons_succ getElem_toArray getElem_cons_zero getElem_cons_succ)
/-- A world behind, in which two blocks may have been written. -/
structure Gr2 (w w' : World) (g r : Nat) : Prop where
  os : w'.os = w.os
  tape : w'.tape = w.tape
  output : w'.output = w.output
  size : w.heap.size ≤ w'.heap.size
  block : ∀ k, k < w.heap.size → k ≠ g → k ≠ r → w'.heap[k]? = w.heap[k]?
theorem Gr2.of {w w' : World} {g r : Nat} (h : w.grownBy w' (some g)) : Gr2 w w' g r := ⟨h.os, h.tape, h.output, h.size, fun k hk hg _ => h.block k hk (fun e => hg (Option.some.inj e))⟩
theorem Gr2.put {w w' : World} {g r : Nat} (h : Gr2 w w' g r) (t : TypeId) (V : Array Value) : Gr2 w (putB w' r t V) g r :=
 ⟨h.os, h.tape, h.output, by rw [putB_size]; exact h.size, fun k hk hg hr => by
  unfold putB
  rw [Array.getElem?_setIfInBounds, if_neg (fun e => hr e.symm)]
  exact h.block k hk hg hr⟩
theorem Gr2.put1 {w w' : World} {g r : Nat} (h : Gr2 w w' g r) (t : TypeId) (V : Array Value) : Gr2 w (putB w' g t V) g r :=
 ⟨h.os, h.tape, h.output, by rw [putB_size]; exact h.size, fun k hk hg hr => by
  unfold putB
  rw [Array.getElem?_setIfInBounds, if_neg (fun e => hg e.symm)]
  exact h.block k hk hg hr⟩
theorem Gr2.refl (w : World) (g r : Nat) : Gr2 w w g r := ⟨rfl, rfl, rfl, Nat.le_refl _, fun _ _ _ _ => rfl⟩
theorem Gr2.tr {w w' w2 : World} {g r : Nat} (h : Gr2 w w' g r) (hb : Below w'.heap.size w' w2) : Gr2 w w2 g r :=
 ⟨hb.os.trans h.os, hb.tape.trans h.tape, hb.output.trans h.output, Nat.le_trans h.size hb.size, fun k hk hg hr => (hb.block k (Nat.lt_of_lt_of_le hk h.size)).trans (h.block k hk hg hr)⟩
theorem Blk.gr2 {w w' : World} {g r b : Nat} {t : TypeId} {V : Array Value} (hB : Blk w b t V) (h : Gr2 w w' g r) (hg : b ≠ g) (hr : b ≠ r) : Blk w' b t V := by
 have hl := Blk.lt hB
 have e := h.block b hl hg hr
 unfold Blk at hB ⊢
 rw [e]
 exact hB
/-- The parser's state, where a block below the tokens is written. -/
theorem Env.store {w0 w : World} {g r : Nat} {A : Option Addr} {len cap : Nat} {ts : List Tok} {k m : Nat} (h : Env w0 g A len cap ts k m w) (hr : r < w0.heap.size) (hA : 0 < len → ∀ b o, A = some ⟨b, o, none⟩ → b ≠ r) (t : TypeId) (V : Array Value) :
 Env (putB w0 r t V) g A len cap ts k m (putB w r t V) := by
 have hrg : r ≠ g := by have := h.lo; omega
 refine ⟨⟨h.t.hl, h.t.hc, h.t.hm, h.t.hs, ⟨h.t.hr.1, fun hn => ?_⟩, h.t.ht⟩, ⟨h.b.os, h.b.tape, h.b.output, by rw [putB_size, putB_size]; exact h.b.size, fun k hk => ?_⟩, by rw [putB_size]; exact h.lo, Blk.far h.p (Ne.symm hrg) V, h.kk⟩
 ·
  obtain ⟨b, off, hb, hlt, hcell⟩ := h.t.hr.2 hn
  refine ⟨b, off, hb, by rw [putB_size]; exact hlt, fun j u hu => ?_⟩
  have h1 := hcell j u hu
  have h2 := hA hn b off hb
  unfold World.cell? putB at *
  rw [Array.getElem?_setIfInBounds, if_neg (fun e => h2 e.symm)]
  exact h1
 rw [putB_size] at hk
 unfold putB
 rw [Array.getElem?_setIfInBounds, Array.getElem?_setIfInBounds, h.b.block k hk]
 by_cases e : r = k
 ·
  rw [if_pos e, if_pos e, if_pos hr, if_pos (Nat.lt_of_lt_of_le hr h.b.size)]
 rw [if_neg e, if_neg e]
theorem FX.belowW {w w' : World} (h : FX w) (hb : Below w.heap.size w w') : FX w' := by
 obtain ⟨bm, es, ck, h1, h2⟩ := h
 exact ⟨bm, es, ck, h1.belowW hb, h2⟩
theorem FX.b9 {w w' : World} (h : FX w) (hb : Go.RowKit.Hid (Go.RowKit.Below w.heap.size w w')) : Go.RowKit.Hid (FX w') := hI (FX.belowW h hb.out)
theorem run1_idle (p q : Addr) (w : World) :
 CallsD Tryz.prog 90 #[.pointer (some p), .pointer (some q)] .returning w fun e u' w' => e = .returned (.tuple #[]) ∧ u' = .returning ∧ w' = w := by
 refine callsD_of_wpS Tryz.func90 rfl fun c₀ cs hu => ?_
 apply wpS_seq
 apply wpS_region
 simp [wpOpsS, go_sem, recoverD, hu, Tryz.ntmps90, Exit.thenS]
 apply wpS_seq
 apply wpS_region
 simp [wpOpsS, go_sem, Exit.thenS]
 refine wpS_cond (t := false) (by simp [Act.eval, Array.replicate]) ?_
 simp only [Bool.false_eq_true, if_false]
 refine wpS_of_wp (wp_skip ?_)
 cases c₀
 simp_all [bodyPostS, results, Tryz.results90]
theorem run1_panic (r1 r2 : Nat) (a0 a1 a2 : Int) (ln co er : Int) (older : List PanicEntry) (w : World) (h1 : Blk w r1 40 #[.int .i64 a0, .int .i64 a1]) (h2 : Blk w r2 41 #[.int .i64 a2]) (hne : r1 ≠ r2) :
 CallsD Tryz.prog 90 #[.pointer (some ⟨r1, 0, none⟩), .pointer (some ⟨r2, 0, none⟩)] (.panicking ({ v := .iface 137 (.agg #[.int .i64 ln, .int .i64 co, .int .i64 er]), recovered := false } :: older)) w fun e u' w' =>
  e = .returned (.tuple #[]) ∧ u' = .panicking ({ v := .iface 137 (.agg #[.int .i64 ln, .int .i64 co, .int .i64 er]), recovered := true } :: older) ∧
   Hid (Blk w' r1 40 #[.int .i64 ln, .int .i64 co]) ∧ Hid (Blk w' r2 41 #[.int .i64 er]) ∧ Hid (Gr2 w w' r1 r2) := by
 refine callsD_of_wpS Tryz.func90 rfl fun c₀ cs d => ?_
 apply wpS_seq
 apply wpS_region
 simp [wpOpsS, go_sem, recoverD, d, Tryz.ntmps90, Exit.thenS]
 refine wpS_of_wp (wp_mono (Q := fun e a' w' => e = .normal ∧ a'.defers = [] ∧ Hid (Blk w' r1 40 #[.int .i64 ln, .int .i64 co]) ∧ Hid (Blk w' r2 41 #[.int .i64 er]) ∧ Hid (Gr2 w w' r1 r2)) ?_ ?_)
 case refine_2 =>
  rintro e a' w' ⟨rfl, R, T, U, V⟩
  cases c₀
  simp_all [bodyPostS, results, Tryz.results90]
 clear d
 have p := hI h1
 have q := hI h2
 clear h1 h2
 change Code.wp _ _ _ { tmps := #[.pointer (some ⟨r1, 0, none⟩), .pointer (some ⟨r2, 0, none⟩), .iface 137 (.agg #[.int .i64 ln, .int .i64 co, .int .i64 er]), undef, undef, .iface 137 (.agg #[.int .i64 ln, .int .i64 co, .int .i64 er]), undef, undef, undef, undef, undef, undef, undef, undef, undef, undef, undef, undef, undef, undef], defers := [] } w
 have H : ∀ w : World, (Instr.typeAssert (.iface 137 (.agg #[.int .i64 ln, .int .i64 co, .int .i64 er])) 20 137 true).run Tryz.prog w = .ok (.tuple #[.agg #[.int .i64 ln, .int .i64 co, .int .i64 er], .bool true]) w := fun w => by
  have d := Tryz.underlying137
  simp [Instr.typeAssert, run_underlying d, Result.andThen]
 go_upto_region 2 with (fail)
 go_upto_region 3 with (fail)
 clear H
 obtain ⟨s, u, k, I⟩ := aX w 137 #[.int .i64 ln, .int .i64 co, .int .i64 er]
 rw [← u]
 clear u
 have J : r1 ≠ w.heap.size := Nat.ne_of_lt p.out.lt
 have L : r2 ≠ w.heap.size := Nat.ne_of_lt q.out.lt
 go_upto_region 5 with (fail)
 have a := hI (below_dr s)
 have l := I.out.b9 a
 have i := hI ((p.out.belowW k.out).belowW a.out)
 have x := hI ((q.out.belowW k.out).belowW a.out)
 have y := hI ((Gr2.tr (g := r1) (r := r2) (Gr2.refl w r1 r2) k.out).tr a.out)
 refine wp_region_held_drew (S := fun w' => cz3 w' w.heap.size (.int .i64 ln) (.int .i64 co) (.int .i64 er)) (by kernel_rfl) l.out.cz3 fun hHeld => ?_
 obtain ⟨M, z⟩ := eX (s.drew)
 rw [← z] at a l i x y hHeld ⊢
 clear z
 refine tkW 0 ?_
 refine tkW 1 ?_
 refine tkW 2 ?_
 refine tkW 3 ?_
 refine wr1 4 fun K hK => ?_
 obtain ⟨m, n, N, O⟩ := i.out.all2
 go_simp
 rw [pst2 i.out]
 clear m n N O
 have o := hI (l.out.far (t' := 40) (Ne.symm J) #[.int .i64 ln, .int .i64 co])
 have j := hI (x.out.far (t' := 40) (Ne.symm hne) #[.int .i64 ln, .int .i64 co])
 have B := hI (y.out.put1 40 #[.int .i64 ln, .int .i64 co])
 have C := hI (i.out.put #[.int .i64 ln, .int .i64 co])
 obtain ⟨P, b⟩ := eX (putB M (r1) 40 #[.int .i64 ln, .int .i64 co])
 rw [← b] at o j B C ⊢
 clear b hHeld
 refine hK.out _ _ o.out.cz3 fun hHeld => ?_
 clear hK K
 try simp only [setIfInBounds_toArray, set_cons_zero, set_cons_succ]
 refine wr1 5 fun K hK => ?_
 obtain ⟨m, n⟩ := j.out.all1
 go_simp
 rw [pst1 j.out]
 clear m n
 have D := hI (o.out.far (t' := 41) (Ne.symm L) #[.int .i64 er])
 have E := hI (B.out.put 41 #[.int .i64 er])
 have F := hI (C.out.far (t' := 41) hne #[.int .i64 er])
 have G := hI (j.out.put #[.int .i64 er])
 obtain ⟨W, b⟩ := eX (putB P (r2) 41 #[.int .i64 er])
 rw [← b] at D E F G ⊢
 clear b hHeld
 refine hK.out _ _ D.out.cz3 fun hHeld => ?_
 clear hK K
 try simp only [setIfInBounds_toArray, set_cons_zero, set_cons_succ]
 refine wpAnyH_done (by kernel_rfl) ?_ _
 go_wp2_with fail
 all_goals exact ⟨rfl, rfl, F, G, E⟩
end Go.Proofs.YtkjoohnndobjeaaGreatDoor
namespace Go.Fl.Pa
open Go.Fl.Lx Go.Fl.Fm Go.Fl.Rt
/-- An error at the end, or at a token. -/
def ErrAt (ts : List Tok) (ln co er : Nat) : Prop := (ln = 0 ∧ co = 0 ∧ er = 4) ∨ ∃ k, k < ts.length ∧ ln = (tk ts k).line ∧ co = (tk ts k).col ∧ er ≠ 0 ∧ er ≠ 4 ∧ er ≤ 20
def ErN (e : Int) : Prop := e = 0 ∨ e = 3 ∨ e = 5 ∨ e = 9 ∨ e = 10
theorem make_err (x y : Int) : ErN (make x y).2.2 := by
 unfold make
 split
 ·
  exact .inr (.inr (.inr (.inr rfl)))
 split
 ·
  exact .inr (.inr (.inr (.inl rfl)))
 exact .inl rfl
theorem read1_err (l : List UInt8) : ErN (read1 l).2.2 := by
 have ite_P : ∀ (c : Prop) [Decidable c] (a b : Int × Int × Int), ErN a.2.2 → ErN b.2.2 → ErN (if c then a else b).2.2 := fun c _ a b ha hb => by split <;> assumption
 unfold read1
 exact ite_P _ _ _ (.inr (.inl rfl)) (ite_P _ _ _ (.inr (.inr (.inl rfl))) (make_err _ _))
section
variable {ts : List Tok}
theorem unex_bad {α : Type} {k ln co er : Nat} (h : (unex ts k : PR α) = .bad ln co er) : ErrAt ts ln co er := by
 unfold unex failP at h
 split at h
 ·
  injection h with h1 h2 h3
  exact .inl ⟨h1.symm, h2.symm, h3.symm⟩
 rename_i hk
 injection h with h1 h2 h3
 exact .inr ⟨k, by omega, h1.symm, h2.symm, by omega, by omega, by omega⟩
theorem fail_bad {α : Type} {k e ln co er : Nat} (hk : k < ts.length) (he : e ≠ 0 ∧ e ≠ 4 ∧ e ≤ 20) (h : (failP ts k e : PR α) = .bad ln co er) : ErrAt ts ln co er := by
 unfold failP at h
 injection h with h1 h2 h3
 exact .inr ⟨k, hk, h1.symm, h2.symm, by omega, by omega, by omega⟩
theorem numP_bad {k ln co er : Nat} (h : numP ts k = .bad ln co er) : ErrAt ts ln co er := by
 unfold numP at h
 split at h
 ·
  exact unex_bad h
 rename_i h2
 split at h
 ·
  rename_i h3
  have := read1_err (tk ts (k + signP ts k)).text
  unfold ErN at this
  exact fail_bad (tk_lt (by omega)) (by omega) h
 cases h
theorem frac_tok {k : Nat} (h : fracP ts k = true) : (tk ts (k + signP ts k)).kind = 2 ∧ (tk ts (k + signP ts k + 2)).kind = 2 ∧ isS false ts (k + signP ts k + 1) [47] = true := by
 unfold fracP integerP at h
 simp only [Bool.and_eq_true, beq_iff_eq] at h
 exact ⟨h.1.1, h.2.2.1, h.2.1⟩
theorem numP_next {k k1 : Nat} {r : Int × Int} (h : numP ts k = .ok r k1) : k1 = k + signP ts k + 1 := by
 unfold numP at h
 split at h
 ·
  exact (unex_ok h).elim
 split at h
 ·
  exact (fail_ok h).elim
 injection h with h3 h4
 exact h4.symm
theorem quotP_bad {k ln co er : Nat} (hf : fracP ts k = true) (h : quotP ts k = .bad ln co er) : ErrAt ts ln co er := by
 unfold quotP at h
 obtain ⟨f1, f2, f3⟩ := frac_tok hf
 cases hn : numP ts k with
 | ok a k2 =>
  rw [hn] at h
  simp only [PR.bind] at h
  have hk2 := numP_next hn
  have hlt : k2 + 1 < ts.length := tk_lt (by rw [hk2]; rw [show k + signP ts k + 1 + 1 = k + signP ts k + 2 from rfl, f2]; decide)
  split at h
  ·
   exact unex_bad h
  split at h
  ·
   have := read1_err (tk ts (k2 + 1)).text
   unfold ErN at this
   exact fail_bad hlt (by omega) h
  split at h
  ·
   have := make_err a.1 (read1 (tk ts (k2 + 1)).text).1
   unfold ErN at this
   exact fail_bad hlt (by omega) h
  cases h
 | bad l c e =>
  rw [hn] at h
  injection h with h1 h2 h3
  subst h1 h2 h3
  exact numP_bad hn
 | out => rw [hn] at h; cases h
theorem map_bad {α β : Type} {f : α → β} {r : PR α} {ln co er : Nat} (h : r.map f = .bad ln co er) : r = .bad ln co er := by
 cases r with
 | ok a k1 => cases h
 | bad l c e => injection h with h1 h2 h3; rw [h1, h2, h3]
 | out => cases h
end
section
variable {nm : List UInt8 → Bool} {ts : List Tok}
theorem rule_bad : ∀ f : Nat,
 (∀ k n ln co er, sumP nm ts f k n = .bad ln co er → ErrAt ts ln co er) ∧ (∀ e0 k n ln co er, chS nm ts f e0 k n = .bad ln co er → ErrAt ts ln co er) ∧
 (∀ k n ln co er, termP nm ts f k n = .bad ln co er → ErrAt ts ln co er) ∧ (∀ e0 k n ln co er, chT nm ts f e0 k n = .bad ln co er → ErrAt ts ln co er) ∧
 (∀ k n ln co er, firstP nm ts f k n = .bad ln co er → ErrAt ts ln co er) ∧ (∀ k n ln co er, factorP nm ts f k n = .bad ln co er → ErrAt ts ln co er) ∧
 (∀ k n ln co er, atomP nm ts f k n = .bad ln co er → ErrAt ts ln co er) ∧ (∀ k n ln co er, encP nm ts f k n = .bad ln co er → ErrAt ts ln co er) := by
 intro f
 induction f with
 | zero =>
  refine ⟨?_, ?_, ?_, ?_, ?_, ?_, ?_, ?_⟩ <;> intros <;> rename_i h <;> first | (unfold sumP at h; cases h) | (unfold chS at h; cases h) | (unfold termP at h; cases h) | (unfold chT at h; cases h) | (unfold firstP at h; cases h) | (unfold factorP at h; cases h) | (unfold atomP at h; cases h) | (unfold encP at h; cases h)
 | succ f ih =>
  obtain ⟨j, c, d, g, l, a, m, i⟩ := ih
  refine ⟨?_, ?_, ?_, ?_, ?_, ?_, ?_, ?_⟩
  ·
   intro k n ln co er h
   unfold sumP at h
   split at h
   ·
    exact c _ _ _ _ _ _ h
   exact d _ _ _ _ _ h
  ·
   intro e0 k n ln co er h
   unfold chS at h
   split at h
   ·
    split at h
    ·
     exact c _ _ _ _ _ _ h
    exact d _ _ _ _ _ h
   cases h
  ·
   intro k n ln co er h
   unfold termP at h
   split at h
   ·
    exact g _ _ _ _ _ _ h
   exact l _ _ _ _ _ h
  ·
   intro e0 k n ln co er h
   unfold chT at h
   split at h
   ·
    split at h
    ·
     exact g _ _ _ _ _ _ h
    exact a _ _ _ _ _ h
   cases h
  ·
   intro k n ln co er h
   unfold firstP at h
   split at h
   ·
    rename_i hf
    rw [Bool.and_eq_true] at hf
    exact quotP_bad hf.1 (map_bad h)
   exact a _ _ _ _ _ h
  ·
   intro k n ln co er h
   unfold factorP at h
   split at h
   ·
    exact numP_bad (map_bad h)
   split at h
   ·
    rename_i hs
    have b : k < ts.length := by
     unfold signP at hs
     split at hs
     ·
      rename_i h6
      exact isS_lt h6
     cases hs
    split at h
    ·
     exact fail_bad b (by omega) h
    split at h
    ·
     cases h
    exact a _ _ _ _ _ h
   split at h
   ·
    split at h
    ·
     split at h
     ·
      exact unex_bad h
     rename_i h8
     split at h
     ·
      refine fail_bad (tk_lt ?_) (by omega) h
      intro h9
      apply h8
      unfold integerP
      rw [h9]
      rfl
     cases h
    cases h
   exact m _ _ _ _ _ h
  ·
   intro k n ln co er h
   unfold atomP at h
   split at h
   ·
    exact numP_bad (map_bad h)
   split at h
   ·
    cases h
   split at h
   ·
    split at h
    ·
     cases h
    exact i _ _ _ _ _ h
   exact i _ _ _ _ _ h
  intro k n ln co er h
  unfold encP at h
  split at h
  ·
   rename_i h6
   have b := isS_lt h6
   split at h
   ·
    exact fail_bad b (by omega) h
   split at h
   ·
    split at h
    ·
     cases h
    exact unex_bad h
   exact j _ _ _ _ _ h
  exact unex_bad h
end
end Go.Fl.Pa
namespace Go.Proofs.YtkjoohnndobjeaaGreatDoor
open Go.RowKit Go.Fl Go.Fl.Lx Go.Fl.Nm Go.Fl.Fm Go.Fl.Rt Go.Fl.Pa
open List (setIfInBounds_toArray set_cons_zero set_cons_succ getElem_toArray getElem_cons_zero getElem_cons_succ)
/-- What a whole text comes to: a place and an error's number, and what was read; v: whether what was read is valid. -/
def runS {α : Type} (ts : List Tok) (v : α → Bool) (r : PR α) : (Nat × Nat × Nat) × Option α :=
  match r with
  | .ok T k1 => if k1 < ts.length then (((tk ts k1).line, (tk ts k1).col, 3), none) else if v T then ((0, 0, 0), some T) else ((0, 0, 5), some T)
  | .bad ln co er => ((ln, co, er), none)
  | .out => ((0, 0, 0), none)
def runR {α : Type} (l : List UInt8) (rd : List Tok → PR α) (v : α → Bool) : (Nat × Nat × Nat) × Option α :=
  match lexRes l with
  | .error e => (e, none)
  | .ok ts => runS ts v (rd ts)
/-- What run answers. -/
def RunP (Q : World → World → Prop) (bx : Nat) (r : Nat × Nat × Nat) (w : World) (e : Ending) (w' : World) : Prop :=
  e = .returned (.tuple #[.agg #[.int .i64 r.1, .int .i64 r.2.1], .int .i64 r.2.2]) ∧ Hid (w.grownBy w' (some bx)) ∧ Hid (r.2.2 = 0 → Q w w')
theorem wp_norm {P : Program} {c : Code} {Q' : Exit → Act → World → Prop} {a : Act} {w : World} (h : c.wp P (fun e a w => match e with | .normal => Q' .normal a w | _ => False) a w) : c.wp P Q' a w :=
 wp_mono h (fun e a w h => by cases e <;> first | exact h | exact h.elim)
theorem gr2_new {w w5 w6 : World} {r r1 r2 : Nat} (h : w.grownBy w5 (some r)) (h1 : w.heap.size ≤ r1) (h2 : w.heap.size ≤ r2) (h6 : Gr2 w5 w6 r1 r2) : w.grownBy w6 (some r) :=
 ⟨h6.os.trans h.os, h6.tape.trans h.tape, h6.output.trans h.output, Nat.le_trans h.size h6.size, fun k hk hr => (h6.block k (Nat.lt_of_lt_of_le hk h.size) (by omega) (by omega)).trans (h.block k hk hr)⟩
theorem errat_ne {ts : List Tok} {ln co er : Nat} (h : ErrAt ts ln co er) : ¬ er = 0 := by
 rcases h with ⟨_, _, e⟩ | ⟨k, _, _, _, e, _⟩ <;> omega
theorem gr2_w {w w4 w5 : World} {g r : Nat} (ho : Below w.heap.size w w4) (hg : w.heap.size ≤ g) (h : Gr2 w4 w5 g r) : w.grownBy w5 (some r) :=
 ⟨h.os.trans ho.os, h.tape.trans ho.tape, h.output.trans ho.output, Nat.le_trans ho.size h.size, fun k hk hr => (h.block k (Nat.lt_of_lt_of_le hk ho.size) (by omega) (fun e => hr (by rw [e]))).trans (ho.block k hk)⟩
theorem TsAt.put {w : World} {r : Nat} {A : Option Addr} {len cap : Nat} {ts : List Tok} (h : TsAt w A len cap ts) (hA : 0 < len → ∀ b o, A = some ⟨b, o, none⟩ → b ≠ r) (t : TypeId) (V : Array Value) : TsAt (putB w r t V) A len cap ts := by
 refine ⟨h.hl, h.hc, h.hm, h.hs, ⟨h.hr.1, fun hn => ?_⟩, h.ht⟩
 obtain ⟨b, off, hb, hlt, hcell⟩ := h.hr.2 hn
 refine ⟨b, off, hb, by rw [putB_size]; exact hlt, fun j u hu => ?_⟩
 have h1 := hcell j u hu
 have h2 := hA hn b off hb
 unfold World.cell? putB at *
 rw [Array.getElem?_setIfInBounds, if_neg (fun e => h2 e.symm)]
 exact h1
theorem Env.at0 {w : World} {A : Option Addr} {len cap : Nat} {ts : List Tok} (h : TsAt w A len cap ts) : Env w w.heap.size A len cap ts 0 0 (w.alloc (Obj.cells #[.slice A len cap, .int .i64 0, .int .i64 0] 140)) :=
 ⟨h, below_box _ _, Nat.le_refl _, Blk.new _ _ _, by omega⟩
theorem ts_of {l : List UInt8} {ts : List Tok} (h : lexRes l = .ok ts) {w : World} {B : Nat} {v : Value} (ho : w.ownsRow B 58 4 v ts.length (toksCells ts)) :
 DigTs ts ∧ ∃ A len cap, v = .slice A len cap ∧ len = ts.length ∧ TsAt w A len cap ts ∧ (0 < len → ∀ b o, A = some ⟨b, o, none⟩ → B ≤ b) := by
 obtain ⟨r, s, i⟩ := lex_facts h
 have m : ∀ k, (tk ts k).kind ≠ 0 → tk ts k ∈ ts := fun k hk => List.mem_of_getElem? (tk_at (tk_lt hk))
 constructor
 ·
  intro k hk c hc
  have a := (i _ (m k (by omega))).1
  rcases a with ⟨f, _⟩ | ⟨_, f⟩
  ·
   omega
  have n := num_all _ (kind2 _ (f.trans hk)).2; have h7 := List.all_eq_true.1 n c hc
  unfold inNum isDigit at h7
  simp only [Bool.or_eq_true, beq_iff_eq, Bool.and_eq_true, decide_eq_true_eq] at h7
  rcases h7 with h7 | h7
  ·
   rw [h7]; exact .inl rfl
  exact .inr ⟨UInt8.le_iff_toNat_le.1 h7.1, UInt8.le_iff_toNat_le.1 h7.2⟩
 have j := ho
 obtain ⟨A, c, d, p, q, u⟩ := Rd.of_own ho
 refine ⟨A, ts.length, c, d, rfl, ⟨rfl, q, ?_, by omega, p, fun t ht => ?_⟩, fun hn b o hA => ?_⟩
 ·
  rcases j.2 with ⟨e, _⟩ | ⟨g, cap, cur, e, _, _, _, e2, _⟩
  ·
   rw [d] at e; injection e with e1 e2 e3
   all_goals omega
  rw [d] at e; injection e with e1 e2' e3
  all_goals omega
 ·
  have a := i t ht; have f := tok_len a.1
  refine ⟨by omega, ?_, by omega, by omega⟩
  rcases a.1 with ⟨e, _⟩ | ⟨e, _⟩ <;> omega
 rcases j.2 with ⟨e, e2⟩ | ⟨g, cap, cur, e, e2, _⟩
 ·
  omega
 rw [d, hA] at e
 injection e with e1
 injection e1 with e1
 injection e1 with e1
 omega

end Go.Proofs.YtkjoohnndobjeaaGreatDoor
namespace Go.Proofs.YtkjoohnndobjeaaGreatDoor
open Go.RowKit Go.Fl Go.Fl.Lx Go.Fl.Nm Go.Fl.Fm Go.Fl.Rt Go.Fl.Pa
open List (setIfInBounds_toArray set_cons_zero set_cons_succ getElem_toArray getElem_cons_zero getElem_cons_succ)
theorem below_grown {w w1 w2 : World} {r : Nat} (h1 : Below w.heap.size w w1) (hr : w.heap.size ≤ r) (h2 : w1.grownBy w2 (some r)) : Below w.heap.size w w2 :=
 ⟨h2.os.trans h1.os, h2.tape.trans h1.tape, h2.output.trans h1.output, Nat.le_trans h1.size h2.size, fun k hk => (h2.block k (Nat.lt_of_lt_of_le hk h1.size) (fun e => by injection e with e; omega)).trans (h1.block k hk)⟩

end Go.Proofs.YtkjoohnndobjeaaGreatDoor
