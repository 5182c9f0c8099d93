/-
  The walks of the closures of parse.Expr and parse.run.
  Where the parser's rules find errors, in plain Lean. No program in sight.
  The walk of parse.run.
  The walk of parse.Expr.
-/
import Derived.Test.YtkjoohnndobjeaaGreatDoorQK
import Derived.Defers
import Derived.Recover
import Derived.Test.YtkjoohnndobjeaaGreatDoorQI
import Derived.Test.YtkjoohnndobjeaaGreatDoorQC
set_option linter.unusedVariables false
namespace Go.Proofs.YtkjoohnndobjeaaGreatDoor
open Go.RowKit Go.Fl Go.Fl.Lx Go.Fl.Nm Go.Fl.Fm Go.Fl.Rt Go.Fl.Pa
open List (setIfInBounds_toArray set_cons_zero set_cons_succ getElem_toArray getElem_cons_zero getElem_cons_succ)
theorem pst1 {w : World} {g : Nat} {t : TypeId} {a : Value} (hB : Blk w g t #[a]) (a' : Value) : w.setCell ⟨g, 0, none⟩ a' = putB w g t #[a'] := by
  rw [hB.setCell_eq 0 a']
  rfl
end Go.Proofs.YtkjoohnndobjeaaGreatDoor
namespace Go
open Go.Proofs.YtkjoohnndobjeaaGreatDoor
open Go.RowKit Go.Fl Go.Fl.Lx Go.Fl.Nm Go.Fl.Fm Go.Fl.Rt Go.Fl.Pa
open List (setIfInBounds_toArray set_cons_zero set_cons_succ getElem_toArray getElem_cons_zero getElem_cons_succ)
theorem Fl.Blk.all1 {w : World} {g : Nat} {t : TypeId} {a : Value} (h : Blk w g t #[a]) : w.cell? ⟨g, 0, none⟩ = some a ∧ w.frozen? ⟨g, 0, none⟩ = false := ⟨h.cell 0, h.frozen 0⟩
end Go
namespace Go.Proofs.YtkjoohnndobjeaaGreatDoor
open Go.RowKit Go.Fl Go.Fl.Lx Go.Fl.Nm Go.Fl.Fm Go.Fl.Rt Go.Fl.Pa
open List (setIfInBounds_toArray set_cons_zero set_cons_succ getElem_toArray getElem_cons_zero getElem_cons_succ)
/-- A world behind, in which two blocks may have been written. -/
structure Gr2 (w w' : World) (g r : Nat) : Prop where
  os : w'.os = w.os
  tape : w'.tape = w.tape
  output : w'.output = w.output
  size : w.heap.size ≤ w'.heap.size
  block : ∀ k, k < w.heap.size → k ≠ g → k ≠ r → w'.heap[k]? = w.heap[k]?
theorem Gr2.of {w w' : World} {g r : Nat} (h : w.grownBy w' (some g)) : Gr2 w w' g r := ⟨h.os, h.tape, h.output, h.size, fun k hk hg _ => h.block k hk (fun e => hg (Option.some.inj e))⟩
theorem Gr2.put {w w' : World} {g r : Nat} (h : Gr2 w w' g r) (t : TypeId) (V : Array Value) : Gr2 w (putB w' r t V) g r :=
  ⟨h.os, h.tape, h.output, by rw [putB_size]; exact h.size, fun k hk hg hr => by
    unfold putB
    rw [Array.getElem?_setIfInBounds, if_neg (fun e => hr e.symm)]
    exact h.block k hk hg hr⟩
theorem Gr2.put1 {w w' : World} {g r : Nat} (h : Gr2 w w' g r) (t : TypeId) (V : Array Value) : Gr2 w (putB w' g t V) g r :=
  ⟨h.os, h.tape, h.output, by rw [putB_size]; exact h.size, fun k hk hg hr => by
    unfold putB
    rw [Array.getElem?_setIfInBounds, if_neg (fun e => hg e.symm)]
    exact h.block k hk hg hr⟩
theorem Gr2.refl (w : World) (g r : Nat) : Gr2 w w g r := ⟨rfl, rfl, rfl, Nat.le_refl _, fun _ _ _ _ => rfl⟩
theorem Gr2.tr {w w' w2 : World} {g r : Nat} (h : Gr2 w w' g r) (hb : Below w'.heap.size w' w2) : Gr2 w w2 g r :=
  ⟨hb.os.trans h.os, hb.tape.trans h.tape, hb.output.trans h.output, Nat.le_trans h.size hb.size, fun k hk hg hr => (hb.block k (Nat.lt_of_lt_of_le hk h.size)).trans (h.block k hk hg hr)⟩
theorem Blk.gr2 {w w' : World} {g r b : Nat} {t : TypeId} {V : Array Value} (hB : Blk w b t V) (h : Gr2 w w' g r) (hg : b ≠ g) (hr : b ≠ r) : Blk w' b t V := by
  have hl := Blk.lt hB
  have e := h.block b hl hg hr
  unfold Blk at hB ⊢
  rw [e]
  exact hB
/-- The parser's state, where a block below the tokens is written. -/
theorem Env.store {w0 w : World} {g r : Nat} {A : Option Addr} {len cap : Nat} {ts : List Tok} {k m : Nat} (h : Env w0 g A len cap ts k m w) (hr : r < w0.heap.size) (hA : 0 < len → ∀ b o, A = some ⟨b, o, none⟩ → b ≠ r) (t : TypeId) (V : Array Value) :
    Env (putB w0 r t V) g A len cap ts k m (putB w r t V) := by
  have hrg : r ≠ g := by have := h.lo; omega
  refine ⟨⟨h.t.hl, h.t.hc, h.t.hm, h.t.hs, ⟨h.t.hr.1, fun hn => ?_⟩, h.t.ht⟩, ⟨h.b.os, h.b.tape, h.b.output, by rw [putB_size, putB_size]; exact h.b.size, fun k hk => ?_⟩, by rw [putB_size]; exact h.lo, Blk.far h.p (Ne.symm hrg) V, h.kk⟩
  · obtain ⟨b, off, hb, hlt, hcell⟩ := h.t.hr.2 hn
    refine ⟨b, off, hb, by rw [putB_size]; exact hlt, fun j u hu => ?_⟩
    have h1 := hcell j u hu
    have h2 := hA hn b off hb
    unfold World.cell? putB at *
    rw [Array.getElem?_setIfInBounds, if_neg (fun e => h2 e.symm)]
    exact h1
  · rw [putB_size] at hk
    unfold putB
    rw [Array.getElem?_setIfInBounds, Array.getElem?_setIfInBounds, h.b.block k hk]
    by_cases e : r = k
    · rw [if_pos e, if_pos e, if_pos hr, if_pos (Nat.lt_of_lt_of_le hr h.b.size)]
    · rw [if_neg e, if_neg e]
theorem FX.belowW {w w' : World} (h : FX w) (hb : Below w.heap.size w w') : FX w' := by
  obtain ⟨bm, es, ck, h1, h2⟩ := h
  exact ⟨bm, es, ck, h1.belowW hb, h2⟩
/-- What the closure that reads an expression does. -/
def E1P (g : Nat) (A : Option Addr) (len cap : Nat) (ts : List Tok) (bx : Nat) (r : PR TE) (w : World) (e : Ending) (w' : World) : Prop :=
  match r with
  | .ok T k1 => ∃ (v : Nd) (w1 : World), e = .returned (.bool (okE T)) ∧ Hid (Blk w' bx 29 #[.int .i64 v.h.kind, .int .i64 v.h.n, .int .i64 v.h.d, .string v.h.name, .int .i64 v.h.k, .slice v.A v.len v.cap]) ∧ Hid (InX w.heap.size w' T v) ∧ Hid (Env w1 g A len cap ts k1 0 w') ∧ Hid (Gr2 w w' g bx)
  | .bad ln co er => e = pan ln co er ∧ Hid (Gr2 w w' g bx)
  | .out => False
theorem e1p_bad {g : Nat} {A : Option Addr} {len cap : Nat} {ts : List Tok} {bx ln co er : Nat} {w w' : World} (h : Hid (Gr2 w w' g bx)) : E1P g A len cap ts bx (.bad ln co er) w (pan ln co er) w' := ⟨rfl, h⟩

set_option maxHeartbeats 4000000 in
set_option maxRecDepth 100000 in
theorem pExpr1 {w0 w : World} {g : Nat} {A : Option Addr} {len cap : Nat} {ts : List Tok} (h : Env w0 g A len cap ts 0 0 w) (hR : RX w0) (hX : FX w0) (hD : DigTs ts) (bx : Nat) (hbx : bx < w0.heap.size) (hB : Blk w0 bx 29 #[.int .i64 0, .int .i64 0, .int .i64 0, .string ⟨#[]⟩, .int .i64 0, .slice none 0 0])
    (hA : 0 < len → ∀ b o, A = some ⟨b, o, none⟩ → b ≠ bx) :
    Calls Tryz.prog 47 #[.pointer (some ⟨g, 0, none⟩), .pointer (some ⟨bx, 0, none⟩)] w (E1P g A len cap ts bx (sumP nameP ts (8 * ts.length + 8) 0 0) w) := by
  have KS := Lib.hid (sum_any w0 w g A len cap ts hR hX hD h (8 * ts.length + 8) (Nat.le_refl _))
  have hno := (enough (nm := nameP) (ts := ts) (8 * ts.length + 8)).1 0 0 (by omega)
  have HB := Lib.hid (hB.belowW h.b)
  have hne : bx ≠ g := by have := h.lo; omega
  have HNE := Lib.hid (show some bx ≠ some g from fun e => hne (Option.some.inj e))
  have hbw : bx < w.heap.size := Blk.lt HB.out
  obtain ⟨r, hr⟩ : ∃ r, r = sumP nameP ts (8 * ts.length + 8) 0 0 := ⟨_, rfl⟩
  rw [← hr] at KS hno ⊢
  have HA := Lib.hid hA
  clear h hB hR hX hr hA
  cases r with
  | out => exact (hno rfl).elim
  | bad ln co er =>
    go_enter Tryz.func47, Tryz.ntmps47
    go_wp2_with fail
    refine KS.out.mono ?_
    rintro e w1 ⟨rfl, HG1⟩
    go_wp2_with fail
    exact ⟨rfl, e1p_bad (Lib.hid (Gr2.of (r := bx) HG1.out))⟩
  | ok T k1 =>
    go_enter Tryz.func47, Tryz.ntmps47
    go_wp2_with fail
    refine KS.out.mono ?_
    rintro e w1 ⟨v, rfl, HX1, HG1, HV1⟩
    have F1 := Lib.hid (HB.out.grown HG1.out HNE.out)
    obtain ⟨r0, h0, r1, h1, r2, h2, r3, h3, r4, h4, r5, h5⟩ := F1.out.all6
    go_upto_region 2 with (fail)
    rw [pst6 F1.out]
    have F2 := Lib.hid (F1.out.put #[.int .i64 v.h.kind, .int .i64 v.h.n, .int .i64 v.h.d, .string v.h.name, .int .i64 v.h.k, .slice v.A v.len v.cap])
    have HV2 := Lib.hid (HV1.out.store hbx HA.out 29 #[.int .i64 v.h.kind, .int .i64 v.h.n, .int .i64 v.h.d, .string v.h.name, .int .i64 v.h.k, .slice v.A v.len v.cap])
    have HX2 := Lib.hid (HX1.out.far hbw 29 #[.int .i64 v.h.kind, .int .i64 v.h.n, .int .i64 v.h.d, .string v.h.name, .int .i64 v.h.k, .slice v.A v.len v.cap])
    have HG2 := Lib.hid (Gr2.put (Gr2.of (r := bx) HG1.out) 29 #[.int .i64 v.h.kind, .int .i64 v.h.n, .int .i64 v.h.d, .string v.h.name, .int .i64 v.h.k, .slice v.A v.len v.cap])
    obtain ⟨w2, hw2⟩ : ∃ z9 : World, z9 = putB w1 bx 29 #[.int .i64 v.h.kind, .int .i64 v.h.n, .int .i64 v.h.d, .string v.h.name, .int .i64 v.h.k, .slice v.A v.len v.cap] := ⟨_, rfl⟩
    rw [← hw2] at F2 HV2 HX2 HG2 ⊢
    clear hw2 r0 h0 r1 h1 r2 h2 r3 h3 r4 h4 r5 h5
    obtain ⟨r0, h0, r1, h1, r2, h2, r3, h3, r4, h4, r5, h5⟩ := F2.out.all6
    go_wp2_with fail
    refine (show Calls Tryz.prog 49 #[.agg #[.int .i64 v.h.kind, .int .i64 v.h.n, .int .i64 v.h.d, .string v.h.name, .int .i64 v.h.k, .slice v.A v.len v.cap]] w2 _ from eValid_p T v w2 HX2.out.toE).mono ?_
    rintro e w3 ⟨rfl, HB3⟩
    go_wp2_with fail
    go_ret
    exact ⟨v, _, rfl, Lib.hid (F2.out.belowW HB3.out), Lib.hid (HX2.out.belowW HB3.out), Lib.hid (HV2.out.belowW HB3.out), Lib.hid (HG2.out.tr HB3.out)⟩

theorem run1_idle (p q : Addr) (w : World) :
    CallsD Tryz.prog 90 #[.pointer (some p), .pointer (some q)] .returning w fun e u' w' => e = .returned (.tuple #[]) ∧ u' = .returning ∧ w' = w := by
  refine callsD_of_wpS Tryz.func90 rfl fun c₀ cs hu => ?_
  apply wpS_seq
  apply wpS_region
  simp [wpOpsS, go_sem, recoverD, hu, Tryz.ntmps90, Exit.thenS]
  apply wpS_seq
  apply wpS_region
  simp [wpOpsS, go_sem, Exit.thenS]
  refine wpS_cond (t := false) (by simp [Act.eval, Array.replicate]) ?_
  simp only [Bool.false_eq_true, if_false]
  refine wpS_of_wp (wp_skip ?_)
  cases c₀
  simp_all [bodyPostS, results, Tryz.results90]
set_option maxHeartbeats 1000000 in
set_option maxRecDepth 100000 in
theorem run1_panic (r1 r2 : Nat) (a0 a1 a2 : Int) (ln co er : Int) (older : List PanicEntry) (w : World) (h1 : Blk w r1 40 #[.int .i64 a0, .int .i64 a1]) (h2 : Blk w r2 41 #[.int .i64 a2]) (hne : r1 ≠ r2) :
    CallsD Tryz.prog 90 #[.pointer (some ⟨r1, 0, none⟩), .pointer (some ⟨r2, 0, none⟩)] (.panicking ({ v := .iface 137 (.agg #[.int .i64 ln, .int .i64 co, .int .i64 er]), recovered := false } :: older)) w fun e u' w' =>
      e = .returned (.tuple #[]) ∧ u' = .panicking ({ v := .iface 137 (.agg #[.int .i64 ln, .int .i64 co, .int .i64 er]), recovered := true } :: older) ∧
        Hid (Blk w' r1 40 #[.int .i64 ln, .int .i64 co]) ∧ Hid (Blk w' r2 41 #[.int .i64 er]) ∧ Hid (Gr2 w w' r1 r2) := by
  refine callsD_of_wpS Tryz.func90 rfl fun c₀ cs hu => ?_
  apply wpS_seq
  apply wpS_region
  simp [wpOpsS, go_sem, recoverD, hu, Tryz.ntmps90, Exit.thenS]
  refine wpS_of_wp (wp_mono (Q := fun e a' w' => e = .normal ∧ a'.defers = [] ∧ Hid (Blk w' r1 40 #[.int .i64 ln, .int .i64 co]) ∧ Hid (Blk w' r2 41 #[.int .i64 er]) ∧ Hid (Gr2 w w' r1 r2)) ?_ ?_)
  case refine_2 =>
    rintro e a' w' ⟨rfl, hd, hb1, hb2, hg⟩
    cases c₀
    simp_all [bodyPostS, results, Tryz.results90]
  clear hu
  have H1 := Lib.hid h1
  have H2 := Lib.hid h2
  clear h1 h2
  change Code.wp _ _ _ { tmps := #[.pointer (some ⟨r1, 0, none⟩), .pointer (some ⟨r2, 0, none⟩), .iface 137 (.agg #[.int .i64 ln, .int .i64 co, .int .i64 er]), undef, undef, .iface 137 (.agg #[.int .i64 ln, .int .i64 co, .int .i64 er]), undef, undef, undef, undef, undef, undef, undef, undef, undef, undef, undef, undef, undef, undef], defers := [] } w
  have hta : ∀ w : World, (Instr.typeAssert (.iface 137 (.agg #[.int .i64 ln, .int .i64 co, .int .i64 er])) 20 137 true).run Tryz.prog w = .ok (.tuple #[.agg #[.int .i64 ln, .int .i64 co, .int .i64 er], .bool true]) w := fun w => by
    have hu := Tryz.underlying137
    simp [Instr.typeAssert, run_underlying hu, Result.andThen]
  go_upto_region 2 with (fail)
  go_upto_region 3 with (fail)
  clear hta
  obtain ⟨w1, hw1⟩ : ∃ z9 : World, z9 = w.alloc (Obj.cells #[.int .i64 ln, .int .i64 co, .int .i64 er] 137) := ⟨_, rfl⟩
  have HB1 := Lib.hid (show Below w.heap.size w w1 by rw [hw1]; exact below_box _ _)
  have T1 := Lib.hid (show Blk w1 w.heap.size 137 #[.int .i64 ln, .int .i64 co, .int .i64 er] by rw [hw1]; exact Blk.new _ _ _)
  rw [← hw1]
  clear hw1
  have A1 := Lib.hid (H1.out.belowW HB1.out)
  have B1 := Lib.hid (H2.out.belowW HB1.out)
  have G1 := Lib.hid (Gr2.tr (g := r1) (r := r2) (Gr2.refl w r1 r2) HB1.out)
  have hl1 : r1 ≠ w.heap.size := Nat.ne_of_lt H1.out.lt
  have hl2 : r2 ≠ w.heap.size := Nat.ne_of_lt H2.out.lt
  go_upto_region 5 with (fail)
  have HR31 := Lib.hid (below_dr w1)
  have R31t := Lib.hid (T1.out.belowW HR31.out)
  have R31a := Lib.hid (A1.out.belowW HR31.out)
  have R31b := Lib.hid (B1.out.belowW HR31.out)
  have R31g := Lib.hid (G1.out.tr HR31.out)
  refine wp_region_held_drew (S := fun w' => w'.cell? ⟨w.heap.size, 0, none⟩ = some (.int .i64 ln) ∧ w'.cell? ⟨w.heap.size, 1, none⟩ = some (.int .i64 co) ∧ w'.cell? ⟨w.heap.size, 2, none⟩ = some (.int .i64 er)) (by kernel_rfl) ?_ (fun hHeld => ?_)
  case refine_1 => exact ⟨R31t.out.cell 0, R31t.out.cell 1, R31t.out.cell 2⟩
  obtain ⟨wd31, hwd⟩ : ∃ z9 : World, z9 = w1.drew := ⟨_, rfl⟩
  rw [← hwd] at HR31 R31t R31a R31b R31g hHeld ⊢
  clear hwd
  refine tkY 0 rfl (v := ?_) (.inl ⟨by rfl, ?_⟩) ?_
  case refine_2 => intro w9 hSw; (try dsimp only at hSw); go_simp; (try with_reducible rfl)
  try simp only [Act.put, setIfInBounds_toArray, set_cons_zero, set_cons_succ, getElem_toArray, getElem_cons_zero]
  refine tkY 1 rfl (v := ?_) (.inl ⟨by rfl, ?_⟩) ?_
  case refine_2 => intro w9 hSw; (try dsimp only at hSw); go_simp; (try with_reducible rfl)
  try simp only [Act.put, setIfInBounds_toArray, set_cons_zero, set_cons_succ, getElem_toArray, getElem_cons_zero, getElem_cons_succ]
  refine tkY 2 rfl (v := ?_) (.inl ⟨by rfl, ?_⟩) ?_
  case refine_2 => intro w9 hSw; (try dsimp only at hSw); go_simp; (try with_reducible rfl)
  try simp only [Act.put, setIfInBounds_toArray, set_cons_zero, set_cons_succ, getElem_toArray, getElem_cons_zero, getElem_cons_succ]
  refine tkY 3 rfl (v := ?_) (.inl ⟨by rfl, ?_⟩) ?_
  case refine_2 => intro w9 hSw; (try dsimp only at hSw); go_simp; (try with_reducible rfl)
  try simp only [Act.put, setIfInBounds_toArray, set_cons_zero, set_cons_succ, getElem_toArray, getElem_cons_zero, getElem_cons_succ]
  refine wpAnyH_ready (rs := [4]) (by kernel_rfl) (by simp) ?_
  refine (AllReadyH.cons rfl (fun K hK => ?_) AllReadyH.nil)
  obtain ⟨ps0, fs0, ps1, fs1⟩ := R31a.out.all2
  go_simp
  rw [pst2 R31a.out]
  clear ps0 fs0 ps1 fs1
  have R32t := Lib.hid (R31t.out.far (t' := 40) (Ne.symm hl1) #[.int .i64 ln, .int .i64 co])
  have R32b := Lib.hid (R31b.out.far (t' := 40) (Ne.symm hne) #[.int .i64 ln, .int .i64 co])
  have R32g := Lib.hid (R31g.out.put1 40 #[.int .i64 ln, .int .i64 co])
  have R32zz := Lib.hid (R31a.out.put #[.int .i64 ln, .int .i64 co])
  obtain ⟨w32, hw9⟩ : ∃ z9 : World, z9 = putB wd31 (r1) 40 #[.int .i64 ln, .int .i64 co] := ⟨_, rfl⟩
  rw [← hw9] at R32t R32b R32g R32zz ⊢
  clear hw9 hHeld
  refine hK.out _ _ ?_ (fun hHeld => ?_)
  case refine_1 => exact ⟨R32t.out.cell 0, R32t.out.cell 1, R32t.out.cell 2⟩
  clear hK K
  try simp only [setIfInBounds_toArray, set_cons_zero, set_cons_succ]
  refine wpAnyH_ready (rs := [5]) (by kernel_rfl) (by simp) ?_
  refine (AllReadyH.cons rfl (fun K hK => ?_) AllReadyH.nil)
  obtain ⟨ps0, fs0⟩ := R32b.out.all1
  go_simp
  rw [pst1 R32b.out]
  clear ps0 fs0
  have R33t := Lib.hid (R32t.out.far (t' := 41) (Ne.symm hl2) #[.int .i64 er])
  have R33g := Lib.hid (R32g.out.put 41 #[.int .i64 er])
  have R33a := Lib.hid (R32zz.out.far (t' := 41) hne #[.int .i64 er])
  have R33zz := Lib.hid (R32b.out.put #[.int .i64 er])
  obtain ⟨w33, hw9⟩ : ∃ z9 : World, z9 = putB w32 (r2) 41 #[.int .i64 er] := ⟨_, rfl⟩
  rw [← hw9] at R33t R33g R33a R33zz ⊢
  clear hw9 hHeld
  refine hK.out _ _ ?_ (fun hHeld => ?_)
  case refine_1 => exact ⟨R33t.out.cell 0, R33t.out.cell 1, R33t.out.cell 2⟩
  clear hK K
  try simp only [setIfInBounds_toArray, set_cons_zero, set_cons_succ]
  refine wpAnyH_done (by kernel_rfl) ?_ _
  go_wp2_with fail
  all_goals exact ⟨rfl, rfl, R33a, R33zz, R33g⟩
end Go.Proofs.YtkjoohnndobjeaaGreatDoor
namespace Go.Fl.Pa
open Go.Fl.Lx Go.Fl.Fm Go.Fl.Rt
/-- An error at the end, or at a token. -/
def ErrAt (ts : List Tok) (ln co er : Nat) : Prop := (ln = 0 ∧ co = 0 ∧ er = 4) ∨ ∃ k, k < ts.length ∧ ln = (tk ts k).line ∧ co = (tk ts k).col ∧ er ≠ 0 ∧ er ≠ 4 ∧ er ≤ 20
def ErN (e : Int) : Prop := e = 0 ∨ e = 3 ∨ e = 5 ∨ e = 9 ∨ e = 10
theorem make_err (x y : Int) : ErN (make x y).2.2 := by
  unfold make
  split
  · exact .inr (.inr (.inr (.inr rfl)))
  · split
    · exact .inr (.inr (.inr (.inl rfl)))
    · exact .inl rfl
theorem read1_err (l : List UInt8) : ErN (read1 l).2.2 := by
  have ite_P : ∀ (c : Prop) [Decidable c] (a b : Int × Int × Int), ErN a.2.2 → ErN b.2.2 → ErN (if c then a else b).2.2 := fun c _ a b ha hb => by split <;> assumption
  unfold read1
  exact ite_P _ _ _ (.inr (.inl rfl)) (ite_P _ _ _ (.inr (.inr (.inl rfl))) (make_err _ _))
section
variable {ts : List Tok}
theorem unex_bad {α : Type} {k ln co er : Nat} (h : (unex ts k : PR α) = .bad ln co er) : ErrAt ts ln co er := by
  unfold unex failP at h
  split at h
  · injection h with h1 h2 h3
    exact .inl ⟨h1.symm, h2.symm, h3.symm⟩
  · rename_i hk
    injection h with h1 h2 h3
    exact .inr ⟨k, by omega, h1.symm, h2.symm, by omega, by omega, by omega⟩
theorem fail_bad {α : Type} {k e ln co er : Nat} (hk : k < ts.length) (he : e ≠ 0 ∧ e ≠ 4 ∧ e ≤ 20) (h : (failP ts k e : PR α) = .bad ln co er) : ErrAt ts ln co er := by
  unfold failP at h
  injection h with h1 h2 h3
  exact .inr ⟨k, hk, h1.symm, h2.symm, by omega, by omega, by omega⟩
theorem numP_bad {k ln co er : Nat} (h : numP ts k = .bad ln co er) : ErrAt ts ln co er := by
  unfold numP at h
  split at h
  · exact unex_bad h
  · rename_i h2
    split at h
    · rename_i h3
      have := read1_err (tk ts (k + signP ts k)).text
      unfold ErN at this
      exact fail_bad (tk_lt (by omega)) (by omega) h
    · cases h
theorem frac_tok {k : Nat} (h : fracP ts k = true) : (tk ts (k + signP ts k)).kind = 2 ∧ (tk ts (k + signP ts k + 2)).kind = 2 ∧ isS false ts (k + signP ts k + 1) [47] = true := by
  unfold fracP integerP at h
  simp only [Bool.and_eq_true, beq_iff_eq] at h
  exact ⟨h.1.1, h.2.2.1, h.2.1⟩
theorem numP_next {k k1 : Nat} {r : Int × Int} (h : numP ts k = .ok r k1) : k1 = k + signP ts k + 1 := by
  unfold numP at h
  split at h
  · exact (unex_ok h).elim
  · split at h
    · exact (fail_ok h).elim
    · injection h with h3 h4
      exact h4.symm
theorem quotP_bad {k ln co er : Nat} (hf : fracP ts k = true) (h : quotP ts k = .bad ln co er) : ErrAt ts ln co er := by
  unfold quotP at h
  obtain ⟨f1, f2, f3⟩ := frac_tok hf
  cases hn : numP ts k with
  | ok a k2 =>
    rw [hn] at h
    simp only [PR.bind] at h
    have hk2 := numP_next hn
    have hlt : k2 + 1 < ts.length := tk_lt (by rw [hk2]; rw [show k + signP ts k + 1 + 1 = k + signP ts k + 2 from rfl, f2]; decide)
    split at h
    · exact unex_bad h
    · split at h
      · have := read1_err (tk ts (k2 + 1)).text
        unfold ErN at this
        exact fail_bad hlt (by omega) h
      · split at h
        · have := make_err a.1 (read1 (tk ts (k2 + 1)).text).1
          unfold ErN at this
          exact fail_bad hlt (by omega) h
        · cases h
  | bad l c e =>
    rw [hn] at h
    injection h with h1 h2 h3
    subst h1 h2 h3
    exact numP_bad hn
  | out => rw [hn] at h; cases h
theorem map_bad {α β : Type} {f : α → β} {r : PR α} {ln co er : Nat} (h : r.map f = .bad ln co er) : r = .bad ln co er := by
  cases r with
  | ok a k1 => cases h
  | bad l c e => injection h with h1 h2 h3; rw [h1, h2, h3]
  | out => cases h
end
section
variable {nm : List UInt8 → Bool} {ts : List Tok}
theorem rule_bad : ∀ f : Nat,
    (∀ k n ln co er, sumP nm ts f k n = .bad ln co er → ErrAt ts ln co er) ∧ (∀ e0 k n ln co er, chS nm ts f e0 k n = .bad ln co er → ErrAt ts ln co er) ∧
    (∀ k n ln co er, termP nm ts f k n = .bad ln co er → ErrAt ts ln co er) ∧ (∀ e0 k n ln co er, chT nm ts f e0 k n = .bad ln co er → ErrAt ts ln co er) ∧
    (∀ k n ln co er, firstP nm ts f k n = .bad ln co er → ErrAt ts ln co er) ∧ (∀ k n ln co er, factorP nm ts f k n = .bad ln co er → ErrAt ts ln co er) ∧
    (∀ k n ln co er, atomP nm ts f k n = .bad ln co er → ErrAt ts ln co er) ∧ (∀ k n ln co er, encP nm ts f k n = .bad ln co er → ErrAt ts ln co er) := by
  intro f
  induction f with
  | zero =>
    refine ⟨?_, ?_, ?_, ?_, ?_, ?_, ?_, ?_⟩ <;> intros <;> rename_i h <;> first | (unfold sumP at h; cases h) | (unfold chS at h; cases h) | (unfold termP at h; cases h) | (unfold chT at h; cases h) | (unfold firstP at h; cases h) | (unfold factorP at h; cases h) | (unfold atomP at h; cases h) | (unfold encP at h; cases h)
  | succ f ih =>
    obtain ⟨iS, iCS, iT, iCT, iF, iFa, iA, iE⟩ := ih
    refine ⟨?_, ?_, ?_, ?_, ?_, ?_, ?_, ?_⟩
    · intro k n ln co er h
      unfold sumP at h
      split at h
      · exact iCS _ _ _ _ _ _ h
      · exact iT _ _ _ _ _ h
    · intro e0 k n ln co er h
      unfold chS at h
      split at h
      · split at h
        · exact iCS _ _ _ _ _ _ h
        · exact iT _ _ _ _ _ h
      · cases h
    · intro k n ln co er h
      unfold termP at h
      split at h
      · exact iCT _ _ _ _ _ _ h
      · exact iF _ _ _ _ _ h
    · intro e0 k n ln co er h
      unfold chT at h
      split at h
      · split at h
        · exact iCT _ _ _ _ _ _ h
        · exact iFa _ _ _ _ _ h
      · cases h
    · intro k n ln co er h
      unfold firstP at h
      split at h
      · rename_i hf
        rw [Bool.and_eq_true] at hf
        exact quotP_bad hf.1 (map_bad h)
      · exact iFa _ _ _ _ _ h
    · intro k n ln co er h
      unfold factorP at h
      split at h
      · exact numP_bad (map_bad h)
      · split at h
        · rename_i hs
          have hl : k < ts.length := by
            unfold signP at hs
            split at hs
            · rename_i h6
              exact isS_lt h6
            · cases hs
          split at h
          · exact fail_bad hl (by omega) h
          · split at h
            · cases h
            · exact iFa _ _ _ _ _ h
        · split at h
          · split at h
            · split at h
              · exact unex_bad h
              · rename_i h8
                split at h
                · refine fail_bad (tk_lt ?_) (by omega) h
                  intro h9
                  apply h8
                  unfold integerP
                  rw [h9]
                  rfl
                · cases h
            · cases h
          · exact iA _ _ _ _ _ h
    · intro k n ln co er h
      unfold atomP at h
      split at h
      · exact numP_bad (map_bad h)
      · split at h
        · cases h
        · split at h
          · split at h
            · cases h
            · exact iE _ _ _ _ _ h
          · exact iE _ _ _ _ _ h
    · intro k n ln co er h
      unfold encP at h
      split at h
      · rename_i h6
        have hl := isS_lt h6
        split at h
        · exact fail_bad hl (by omega) h
        · split at h
          · split at h
            · cases h
            · exact unex_bad h
          · exact iS _ _ _ _ _ h
      · exact unex_bad h
end
end Go.Fl.Pa
namespace Go.Proofs.YtkjoohnndobjeaaGreatDoor
open Go.RowKit Go.Fl Go.Fl.Lx Go.Fl.Nm Go.Fl.Fm Go.Fl.Rt Go.Fl.Pa
open List (setIfInBounds_toArray set_cons_zero set_cons_succ getElem_toArray getElem_cons_zero getElem_cons_succ)
/-- What a whole text comes to: a place and an error's number, and what was read; v: whether what was read is valid. -/
def runS {α : Type} (ts : List Tok) (v : α → Bool) (r : PR α) : (Nat × Nat × Nat) × Option α :=
  match r with
  | .ok T k1 => if k1 < ts.length then (((tk ts k1).line, (tk ts k1).col, 3), none) else if v T then ((0, 0, 0), some T) else ((0, 0, 5), some T)
  | .bad ln co er => ((ln, co, er), none)
  | .out => ((0, 0, 0), none)
def runR {α : Type} (l : List UInt8) (rd : List Tok → PR α) (v : α → Bool) : (Nat × Nat × Nat) × Option α :=
  match lexRes l with
  | .error e => (e, none)
  | .ok ts => runS ts v (rd ts)
def exprR (l : List UInt8) : (Nat × Nat × Nat) × Option TE := runR l (fun ts => sumP nameP ts (8 * ts.length + 8) 0 0) okE
/-- What run answers. -/
def RunP (Q : World → World → Prop) (bx : Nat) (r : Nat × Nat × Nat) (w : World) (e : Ending) (w' : World) : Prop :=
  e = .returned (.tuple #[.agg #[.int .i64 r.1, .int .i64 r.2.1], .int .i64 r.2.2]) ∧ Hid (w.grownBy w' (some bx)) ∧ Hid (r.2.2 = 0 → Q w w')
theorem wp_norm {P : Program} {c : Code} {Q' : Exit → Act → World → Prop} {a : Act} {w : World} (h : c.wp P (fun e a w => match e with | .normal => Q' .normal a w | _ => False) a w) : c.wp P Q' a w :=
  wp_mono h (fun e a w h => by cases e <;> first | exact h | exact h.elim)
/-- What was read lies at block bx. -/
def GotE (o : Option TE) (bx : Nat) (w w' : World) : Prop := ∃ T v, o = some T ∧ Hid (Blk w' bx 29 #[.int .i64 v.h.kind, .int .i64 v.h.n, .int .i64 v.h.d, .string v.h.name, .int .i64 v.h.k, .slice v.A v.len v.cap]) ∧ Hid (InX w.heap.size w' T v)
theorem gr2_new {w w5 w6 : World} {r r1 r2 : Nat} (h : w.grownBy w5 (some r)) (h1 : w.heap.size ≤ r1) (h2 : w.heap.size ≤ r2) (h6 : Gr2 w5 w6 r1 r2) : w.grownBy w6 (some r) :=
  ⟨h6.os.trans h.os, h6.tape.trans h.tape, h6.output.trans h.output, Nat.le_trans h.size h6.size, fun k hk hr => (h6.block k (Nat.lt_of_lt_of_le hk h.size) (by omega) (by omega)).trans (h.block k hk hr)⟩
theorem errat_ne {ts : List Tok} {ln co er : Nat} (h : ErrAt ts ln co er) : ¬ er = 0 := by
  rcases h with ⟨_, _, e⟩ | ⟨k, _, _, _, e, _⟩ <;> omega
theorem gr2_w {w w4 w5 : World} {g r : Nat} (ho : Below w.heap.size w w4) (hg : w.heap.size ≤ g) (h : Gr2 w4 w5 g r) : w.grownBy w5 (some r) :=
  ⟨h.os.trans ho.os, h.tape.trans ho.tape, h.output.trans ho.output, Nat.le_trans ho.size h.size, fun k hk hr => (h.block k (Nat.lt_of_lt_of_le hk ho.size) (by omega) (fun e => hr (by rw [e]))).trans (ho.block k hk)⟩
theorem TsAt.put {w : World} {r : Nat} {A : Option Addr} {len cap : Nat} {ts : List Tok} (h : TsAt w A len cap ts) (hA : 0 < len → ∀ b o, A = some ⟨b, o, none⟩ → b ≠ r) (t : TypeId) (V : Array Value) : TsAt (putB w r t V) A len cap ts := by
  refine ⟨h.hl, h.hc, h.hm, h.hs, ⟨h.hr.1, fun hn => ?_⟩, h.ht⟩
  obtain ⟨b, off, hb, hlt, hcell⟩ := h.hr.2 hn
  refine ⟨b, off, hb, by rw [putB_size]; exact hlt, fun j u hu => ?_⟩
  have h1 := hcell j u hu
  have h2 := hA hn b off hb
  unfold World.cell? putB at *
  rw [Array.getElem?_setIfInBounds, if_neg (fun e => h2 e.symm)]
  exact h1
theorem Env.at0 {w : World} {A : Option Addr} {len cap : Nat} {ts : List Tok} (h : TsAt w A len cap ts) : Env w w.heap.size A len cap ts 0 0 (w.alloc (Obj.cells #[.slice A len cap, .int .i64 0, .int .i64 0] 140)) :=
  ⟨h, below_box _ _, Nat.le_refl _, Blk.new _ _ _, by omega⟩
theorem ts_of {l : List UInt8} {ts : List Tok} (h : lexRes l = .ok ts) {w : World} {B : Nat} {v : Value} (ho : w.ownsRow B 58 4 v ts.length (toksCells ts)) :
    DigTs ts ∧ ∃ A len cap, v = .slice A len cap ∧ len = ts.length ∧ TsAt w A len cap ts ∧ (0 < len → ∀ b o, A = some ⟨b, o, none⟩ → B ≤ b) := by
  obtain ⟨h1, h2, h3⟩ := lex_facts h
  have hmem : ∀ k, (tk ts k).kind ≠ 0 → tk ts k ∈ ts := fun k hk => List.mem_of_getElem? (tk_at (tk_lt hk))
  constructor
  · intro k hk c hc
    have h4 := (h3 _ (hmem k (by omega))).1
    rcases h4 with ⟨h5, _⟩ | ⟨_, h5⟩
    · omega
    · have h6 := num_all _ (kind2 _ (h5.trans hk)).2
      have h7 := List.all_eq_true.1 h6 c hc
      unfold inNum isDigit at h7
      simp only [Bool.or_eq_true, beq_iff_eq, Bool.and_eq_true, decide_eq_true_eq] at h7
      rcases h7 with h7 | h7
      · rw [h7]; exact .inl rfl
      · exact .inr ⟨UInt8.le_iff_toNat_le.1 h7.1, UInt8.le_iff_toNat_le.1 h7.2⟩
  · have ho' := ho
    obtain ⟨A, c, hv, hrd, hnc, hcm⟩ := Rd.of_own ho
    refine ⟨A, ts.length, c, hv, rfl, ⟨rfl, hnc, ?_, by omega, hrd, fun t ht => ?_⟩, fun hn b o hA => ?_⟩
    · rcases ho'.2 with ⟨e, _⟩ | ⟨g, cap, cur, e, _, _, _, e2, _⟩
      · rw [hv] at e
        injection e with e1 e2 e3
        all_goals omega
      · rw [hv] at e
        injection e with e1 e2' e3
        all_goals omega
    · have h4 := h3 t ht
      have h5 := tok_len h4.1
      refine ⟨by omega, ?_, by omega, by omega⟩
      rcases h4.1 with ⟨e, _⟩ | ⟨e, _⟩ <;> omega
    · rcases ho'.2 with ⟨e, e2⟩ | ⟨g, cap, cur, e, e2, _⟩
      · omega
      · rw [hv, hA] at e
        injection e with e1
        injection e1 with e1
        injection e1 with e1
        omega

set_option maxHeartbeats 4000000 in
set_option maxRecDepth 100000 in
theorem pRunE (s : ByteArray) (w : World) (hs : s.size ≤ maxLen) (bx : Nat) (hB : Blk w bx 29 #[.int .i64 0, .int .i64 0, .int .i64 0, .string ⟨#[]⟩, .int .i64 0, .slice none 0 0]) (hR : RX w) (hX : FX w) :
    Calls Tryz.prog 46 #[.string s, .func (.func 47) #[] #[.pointer (some ⟨bx, 0, none⟩)]] w (RunP (GotE (exprR s.data.toList).2 bx) bx (exprR s.data.toList).1 w) := by
  have hmf : ∀ (fn : Fn) (first cap : Array Value) (w : World), (Instr.makeFunc fn first cap).run Tryz.prog w = .ok (.func fn first cap) w := fun _ _ _ _ => rfl
  have HBX := Lib.hid hB
  have HR := Lib.hid hR
  have HX := Lib.hid hX
  obtain ⟨RR, hRR⟩ : ∃ RR, RR = exprR s.data.toList := ⟨_, rfl⟩
  have HRR := Lib.hid hRR
  rw [← hRR]
  have hbx : bx < w.heap.size := Blk.lt hB
  clear hB hR hX hRR
  go_enter_defers Tryz.func46, Tryz.ntmps46
  go_upto_region 1 with (fail)
  obtain ⟨w1, hw1⟩ : ∃ z9 : World, z9 = (w.alloc (Obj.cells #[.int .i64 0, .int .i64 0] 40)).alloc (Obj.cells #[.int .i64 0] 41) := ⟨_, rfl⟩
  have O1 := Lib.hid (show Below w.heap.size w w1 by rw [hw1]; exact (below_box _ _).trans ((below_box _ _).mono (by simp)))
  have A1 := Lib.hid (show Blk w1 w.heap.size 40 #[.int .i64 0, .int .i64 0] by rw [hw1]; exact (Blk.new w 40 #[.int .i64 0, .int .i64 0]).belowW (below_box _ _))
  have B1 := Lib.hid (show Blk w1 (w.heap.size + 1) 41 #[.int .i64 0] by rw [hw1]; exact (by have := Blk.new (w.alloc (Obj.cells #[.int .i64 0, .int .i64 0] 40)) 41 #[.int .i64 0]; simpa using this))
  rw [← hw1]
  clear hw1
  have hw1s : w.heap.size + 1 < w1.heap.size := B1.out.lt
  have hs1 : s.size ≤ maxLen := hs
  go_wp2_with fail
  refine (split_any s w1 hs).mono ?_
  rintro e w2 ⟨hb2, hres⟩
  have O2 := Lib.hid (show Below w.heap.size w w2 from O1.out.trans (hb2.mono O1.out.size))
  have A2 := Lib.hid (A1.out.belowW hb2)
  have B2 := Lib.hid (B1.out.belowW hb2)
  have HBX2 := Lib.hid (HBX.out.belowW O2.out)
  have hs12 := hb2.size
  have HG2 := Lib.hid (grown_of (some bx) O2.out)
  have hne12 : w.heap.size ≠ w.heap.size + 1 := by omega
  have hne21 : w.heap.size + 1 ≠ w.heap.size := by omega
  have hbx1 : bx ≠ w.heap.size := by omega
  have hbx2 : bx ≠ w.heap.size + 1 := by omega
  clear hb2
  cases hl : lexRes s.data.toList with
  | error p =>
    obtain ⟨ln, co, er⟩ := p
    have her := (lexRes_err hl).1
    have hern : ¬ er = 0 := her
    rw [hl] at hres
    simp only at hres
    have HE := Lib.hid (show RR = ((ln, co, er), none) by rw [HRR.out]; unfold exprR runR; rw [hl])
    subst hres
    clear hl HRR
    have d1 : (((er : Nat) : Int) != 0) = true := by rw [bne_iff_ne]; omega
    obtain ⟨p0, f0, p1, f1⟩ := A2.out.all2
    obtain ⟨q0, g0⟩ := B2.out.all1
    go_upto_region 2 with (fail)
    rw [pst2 A2.out]
    have BT := Lib.hid (B2.out.far (t' := 40) hne21 #[.int .i64 (ln : Nat), .int .i64 (co : Nat)])
    rw [pst1 BT.out]
    have A3 := Lib.hid ((A2.out.put #[.int .i64 (ln : Nat), .int .i64 (co : Nat)]).far (t' := 41) hne12 #[.int .i64 (er : Nat)])
    have B3 := Lib.hid (BT.out.put #[.int .i64 (er : Nat)])
    have HBX3 := Lib.hid ((HBX2.out.far (t' := 40) hbx1 #[.int .i64 (ln : Nat), .int .i64 (co : Nat)]).far (t' := 41) hbx2 #[.int .i64 (er : Nat)])
    have HG3 := Lib.hid (grown_new (grown_new HG2.out (Nat.le_refl _) 40 #[.int .i64 (ln : Nat), .int .i64 (co : Nat)]) (Nat.le_succ _) 41 #[.int .i64 (er : Nat)])
    have O3 := Lib.hid ((O2.out.trans (putB_below w2 w.heap.size 40 #[.int .i64 (ln : Nat), .int .i64 (co : Nat)] (Nat.le_refl _))).trans (putB_below (putB w2 w.heap.size 40 #[.int .i64 (ln : Nat), .int .i64 (co : Nat)]) (w.heap.size + 1) 41 #[.int .i64 (er : Nat)] (Nat.le_succ _)))
    obtain ⟨w3, hw3⟩ : ∃ z9 : World, z9 = putB (putB w2 w.heap.size 40 #[.int .i64 (ln : Nat), .int .i64 (co : Nat)]) (w.heap.size + 1) 41 #[.int .i64 (er : Nat)] := ⟨_, rfl⟩
    rw [← hw3] at A3 B3 HBX3 HG3 O3 ⊢
    clear hw3 BT
    clear p0 f0 p1 f1 q0 g0
    obtain ⟨q0, g0⟩ := B3.out.all1
    go_upto_region 3 with (fail)
    clear q0 g0
    refine wp_norm ?_
    have HR31 := Lib.hid (below_dr w3)
    have R31a := Lib.hid (A3.out.belowW HR31.out)
    have R31b := Lib.hid (B3.out.belowW HR31.out)
    have R31g := Lib.hid (grown_tr HG3.out (grown_of (some bx) HR31.out))
    refine wp_region_held_drew (S := fun w' => w'.cell? ⟨w.heap.size, 0, none⟩ = some (.int .i64 (ln : Nat)) ∧ w'.cell? ⟨w.heap.size, 1, none⟩ = some (.int .i64 (co : Nat)) ∧ w'.cell? ⟨w.heap.size + 1, 0, none⟩ = some (.int .i64 (er : Nat))) (by kernel_rfl) ?_ (fun hHeld => ?_)
    case refine_1 => exact ⟨R31a.out.cell 0, R31a.out.cell 1, R31b.out.cell 0⟩
    obtain ⟨wd31, hwd⟩ : ∃ z9 : World, z9 = w3.drew := ⟨_, rfl⟩
    rw [← hwd] at HR31 R31a R31b R31g hHeld ⊢
    clear hwd
    refine tkY 0 rfl (v := ?_) (.inl ⟨by rfl, ?_⟩) ?_
    case refine_2 => intro w9 hSw; (try dsimp only at hSw); go_simp; (try with_reducible rfl)
    try simp only [Act.put, setIfInBounds_toArray, set_cons_zero, set_cons_succ, getElem_toArray, getElem_cons_zero]
    refine tkY 1 rfl (v := ?_) (.inl ⟨by rfl, ?_⟩) ?_
    case refine_2 => intro w9 hSw; (try dsimp only at hSw); go_simp; (try with_reducible rfl)
    try simp only [Act.put, setIfInBounds_toArray, set_cons_zero, set_cons_succ, getElem_toArray, getElem_cons_zero, getElem_cons_succ]
    refine wpAnyH_ready (rs := [2]) (by kernel_rfl) (by simp) ?_
    refine (AllReadyH.cons rfl (fun K hK => ?_) AllReadyH.nil)
    obtain ⟨ps0, fs0, ps1, fs1⟩ := R31a.out.all2
    go_simp
    rw [pst2 R31a.out]
    clear ps0 fs0 ps1 fs1
    have R32b := Lib.hid (R31b.out.far (t' := 40) hne21 #[.int .i64 (ln : Nat), .int .i64 (co : Nat)])
    have R32g := Lib.hid (grown_new R31g.out (Nat.le_refl _) 40 #[.int .i64 (ln : Nat), .int .i64 (co : Nat)])
    have R32zz := Lib.hid (R31a.out.put #[.int .i64 (ln : Nat), .int .i64 (co : Nat)])
    obtain ⟨w32, hw9⟩ : ∃ z9 : World, z9 = putB wd31 (w.heap.size) 40 #[.int .i64 (ln : Nat), .int .i64 (co : Nat)] := ⟨_, rfl⟩
    rw [← hw9] at R32b R32g R32zz ⊢
    clear hw9 hHeld
    refine hK.out _ _ ?_ (fun hHeld => ?_)
    case refine_1 => exact ⟨R32zz.out.cell 0, R32zz.out.cell 1, R32b.out.cell 0⟩
    clear hK K
    try simp only [setIfInBounds_toArray, set_cons_zero, set_cons_succ]
    refine wpAnyH_ready (rs := [3]) (by kernel_rfl) (by simp) ?_
    refine (AllReadyH.cons rfl (fun K hK => ?_) AllReadyH.nil)
    obtain ⟨ps0, fs0⟩ := R32b.out.all1
    go_simp
    rw [pst1 R32b.out]
    clear ps0 fs0
    have R33g := Lib.hid (grown_new R32g.out (Nat.le_succ _) 41 #[.int .i64 (er : Nat)])
    have R33a := Lib.hid (R32zz.out.far (t' := 41) hne12 #[.int .i64 (er : Nat)])
    have R33zz := Lib.hid (R32b.out.put #[.int .i64 (er : Nat)])
    obtain ⟨w33, hw9⟩ : ∃ z9 : World, z9 = putB w32 (w.heap.size + 1) 41 #[.int .i64 (er : Nat)] := ⟨_, rfl⟩
    rw [← hw9] at R33g R33a R33zz ⊢
    clear hw9 hHeld
    refine hK.out _ _ ?_ (fun hHeld => ?_)
    case refine_1 => exact ⟨R33a.out.cell 0, R33a.out.cell 1, R33zz.out.cell 0⟩
    clear hK K
    try simp only [setIfInBounds_toArray, set_cons_zero, set_cons_succ]
    refine wpAnyH_done (by kernel_rfl) ?_ _
    obtain ⟨p0, _, p1, _⟩ := R33a.out.all2
    obtain ⟨q0, _⟩ := R33zz.out.all1
    go_wp2_with fail
    simp [bodyPostD, Leaves, results, Tryz.results46, go_sem, p0, p1, q0]
    exact ⟨by rw [HE.out], R33g, Lib.hid (fun h => absurd h (by rw [HE.out]; exact hern))⟩
  | ok ts =>
    rw [hl] at hres
    obtain ⟨v0, he, ho⟩ := hres
    obtain ⟨hD, A, len, cap, hv0, hlen, hT, hAB⟩ := ts_of hl ho
    have HE0 := Lib.hid (show RR = runR s.data.toList (fun ts => sumP nameP ts (8 * ts.length + 8) 0 0) okE from HRR.out)
    have HLX := Lib.hid hl
    have HT2 := Lib.hid hT
    have HAB := Lib.hid hAB
    have HLN := Lib.hid hlen
    have HDT := Lib.hid hD
    subst he
    subst hv0
    clear hl HRR ho hT hAB hlen hD
    have hA1 := Lib.hid (show 0 < len → ∀ b o, A = some ⟨b, o, none⟩ → b ≠ w.heap.size from fun h b o e => by have := HAB.out h b o e; omega)
    have hA2 := Lib.hid (show 0 < len → ∀ b o, A = some ⟨b, o, none⟩ → b ≠ w.heap.size + 1 from fun h b o e => by have := HAB.out h b o e; omega)
    have hAx := Lib.hid (show 0 < len → ∀ b o, A = some ⟨b, o, none⟩ → b ≠ bx from fun h b o e => by have := HAB.out h b o e; omega)
    obtain ⟨p0, f0, p1, f1⟩ := A2.out.all2
    obtain ⟨q0, g0⟩ := B2.out.all1
    go_upto_region 2 with (fail)
    rw [pst2 A2.out]
    have BT := Lib.hid (B2.out.far (t' := 40) hne21 #[.int .i64 0, .int .i64 0])
    rw [pst1 BT.out]
    have A3 := Lib.hid ((A2.out.put #[.int .i64 0, .int .i64 0]).far (t' := 41) hne12 #[.int .i64 0])
    have B3 := Lib.hid (BT.out.put #[.int .i64 0])
    have HBX3 := Lib.hid ((HBX2.out.far (t' := 40) hbx1 #[.int .i64 0, .int .i64 0]).far (t' := 41) hbx2 #[.int .i64 0])
    have HG3 := Lib.hid (grown_new (grown_new HG2.out (Nat.le_refl _) 40 #[.int .i64 0, .int .i64 0]) (Nat.le_succ _) 41 #[.int .i64 0])
    have O3 := Lib.hid ((O2.out.trans (putB_below w2 w.heap.size 40 #[.int .i64 0, .int .i64 0] (Nat.le_refl _))).trans (putB_below (putB w2 w.heap.size 40 #[.int .i64 0, .int .i64 0]) (w.heap.size + 1) 41 #[.int .i64 0] (Nat.le_succ _)))
    have HT3 := Lib.hid ((HT2.out.put hA1.out 40 #[.int .i64 0, .int .i64 0]).put hA2.out 41 #[.int .i64 0])
    obtain ⟨w3, hw3⟩ : ∃ z9 : World, z9 = putB (putB w2 w.heap.size 40 #[.int .i64 0, .int .i64 0]) (w.heap.size + 1) 41 #[.int .i64 0] := ⟨_, rfl⟩
    rw [← hw3] at A3 B3 HBX3 HG3 O3 HT3 ⊢
    clear hw3 BT
    clear p0 f0 p1 f1 q0 g0
    obtain ⟨q0, g0⟩ := B3.out.all1
    go_upto_region 6 with (fail)
    clear q0 g0
    obtain ⟨w4, hw4⟩ : ∃ z9 : World, z9 = w3.alloc (Obj.cells #[.slice A len cap, .int .i64 0, .int .i64 0] 140) := ⟨_, rfl⟩
    have HV4 := Lib.hid (show Env w3 w3.heap.size A len cap ts 0 0 w4 by rw [hw4]; exact Env.at0 HT3.out)
    have HB4 := Lib.hid (show Below w3.heap.size w3 w4 by rw [hw4]; exact below_box _ _)
    rw [← hw4]
    clear hw4
    have A4 := Lib.hid (A3.out.belowW HB4.out)
    have B4 := Lib.hid (B3.out.belowW HB4.out)
    have O4 := Lib.hid (O3.out.trans (HB4.out.mono O3.out.size))
    have hw3 : w.heap.size + 1 < w3.heap.size := B3.out.lt
    have HK := Lib.hid (pExpr1 HV4.out (HR.out.belowW O3.out) (HX.out.belowW O3.out) HDT.out bx (Nat.lt_trans hbx (by omega)) HBX3.out hAx.out)
    obtain ⟨g, hg⟩ : ∃ g, g = w3.heap.size := ⟨_, rfl⟩
    rw [← hg] at HV4 HK hw3 ⊢
    have hg1 : w.heap.size ≠ g := by omega
    have hg2 : w.heap.size + 1 ≠ g := by omega
    clear hg
    have hgw4 : g < w4.heap.size := HV4.out.gl
    obtain ⟨r, hr⟩ : ∃ r, r = sumP nameP ts (8 * ts.length + 8) 0 0 := ⟨_, rfl⟩
    have HE1 := Lib.hid (show RR = runS ts okE r by rw [HE0.out]; unfold runR; rw [HLX.out, hr])
    rw [← hr] at HK
    have HRQ := Lib.hid hr
    clear hr HE0 HLX
    cases r with
    | out =>
      go_wp2_with fail
      refine HK.out.mono ?_
      rintro e w5 he
      exact he.elim
    | bad ln co er =>
      have HE := Lib.hid (show RR = ((ln, co, er), none) from HE1.out)
      have hern : ¬ er = 0 := errat_ne ((rule_bad (nm := nameP) (ts := ts) _).1 0 0 ln co er HRQ.out.symm)
      clear HE1
      go_wp2_with fail
      refine HK.out.mono ?_
      rintro e w5 ⟨rfl, HG5⟩
      go_wp2_with fail
      have A5 := Lib.hid (Blk.gr2 A4.out HG5.out hg1 (Ne.symm hbx1))
      have B5 := Lib.hid (Blk.gr2 B4.out HG5.out hg2 (Ne.symm hbx2))
      have GW := Lib.hid (gr2_w O4.out (by omega) HG5.out)
      refine leaves_cons (f := 90) (args := #[.pointer (some ⟨w.heap.size, 0, none⟩), .pointer (some ⟨w.heap.size + 1, 0, none⟩)]) (by simp) (by simp [go_sem]) ?_
      refine (run1_panic w.heap.size (w.heap.size + 1) 0 0 0 ln co er [] w5 A5.out B5.out hne12).mono ?_
      rintro e u' w6 ⟨rfl, rfl, HA6, HB6, HG6⟩
      obtain ⟨p0, _, p1, _⟩ := HA6.out.all2
      obtain ⟨q0, _⟩ := HB6.out.all1
      simp [Leaves, settle, results, Tryz.results46, go_sem, p0, p1, q0]
      exact ⟨(by rw [HE.out]; try rfl), Lib.hid (gr2_new GW.out (Nat.le_refl _) (Nat.le_succ _) HG6.out), Lib.hid (fun h => absurd h (by rw [HE.out]; exact hern))⟩
    | ok T k1 =>
      go_wp2_with fail
      refine HK.out.mono ?_
      rintro e w5 ⟨v, wb, rfl, HBX5, HX5, HV5, HG5⟩
      have A5 := Lib.hid (Blk.gr2 A4.out HG5.out hg1 (Ne.symm hbx1))
      have B5 := Lib.hid (Blk.gr2 B4.out HG5.out hg2 (Ne.symm hbx2))
      have GW5 := Lib.hid (gr2_w O4.out (by omega) HG5.out)
      have HTL := Lib.hid HV5.out.t.hl
      by_cases hlt : k1 < len
      · have hlt2 : k1 < ts.length := by rw [HTL.out]; exact hlt
        have HE := Lib.hid (show RR = (((tk ts k1).line, (tk ts k1).col, 3), none) from HE1.out.trans (if_pos hlt2))
        have hern : ¬ (3 : Nat) = 0 := by decide
        have d1 : decide ((k1 : Int) < (len : Int)) = true := decide_eq_true (by omega)
        have d2 : decide (k1 < len) = true := decide_eq_true hlt
        have hpu : panU ts k1 = pan (tk ts k1).line (tk ts k1).col 3 := by unfold panU; rw [if_neg (by omega)]
        have HPU := Lib.hid hpu
        obtain ⟨ln, hln⟩ : ∃ z, z = (tk ts k1).line := ⟨_, rfl⟩
        obtain ⟨co, hco⟩ : ∃ z, z = (tk ts k1).col := ⟨_, rfl⟩
        rw [← hln, ← hco] at HE HPU
        clear HE1 hpu hln hco
        go_upto_region 7 with (fail)
        refine wp_norm ?_
        have HR61 := Lib.hid (below_dr w5)
        have R61a := Lib.hid (A5.out.belowW HR61.out)
        have R61b := Lib.hid (B5.out.belowW HR61.out)
        have R61x := Lib.hid (HBX5.out.belowW HR61.out)
        have R61n := Lib.hid (HX5.out.belowW HR61.out)
        have R61v := Lib.hid (HV5.out.belowW HR61.out)
        have R61g := Lib.hid (grown_tr GW5.out (grown_of (some bx) HR61.out))
        refine wp_region_held_drew (S := fun w' => w'.cell? ⟨g, 0, none⟩ = some (.slice A len cap) ∧ w'.cell? ⟨g, 1, none⟩ = some (.int .i64 (k1 : Nat))) (by kernel_rfl) ?_ (fun hHeld => ?_)
        case refine_1 => exact ⟨Blk.cell R61v.out.p 0, Blk.cell R61v.out.p 1⟩
        obtain ⟨wd61, hwd⟩ : ∃ z9 : World, z9 = w5.drew := ⟨_, rfl⟩
        rw [← hwd] at HR61 R61a R61b R61x R61n R61v R61g hHeld ⊢
        clear hwd
        refine tkY 0 rfl (v := ?_) (.inl ⟨by rfl, ?_⟩) ?_
        case refine_2 => intro w9 hSw; (try dsimp only at hSw); go_simp; (try with_reducible rfl)
        try simp only [Act.put, setIfInBounds_toArray, set_cons_zero, set_cons_succ, getElem_toArray, getElem_cons_zero]
        refine tkY 1 rfl (v := ?_) (.inl ⟨by rfl, ?_⟩) ?_
        case refine_2 => intro w9 hSw; (try dsimp only at hSw); go_simp; (try with_reducible rfl)
        try simp only [Act.put, setIfInBounds_toArray, set_cons_zero, set_cons_succ, getElem_toArray, getElem_cons_zero, getElem_cons_succ]
        refine tkY 2 rfl (v := ?_) (.inl ⟨by rfl, ?_⟩) ?_
        case refine_2 => intro w9 hSw; (try dsimp only at hSw); go_simp; (try with_reducible rfl)
        try simp only [Act.put, setIfInBounds_toArray, set_cons_zero, set_cons_succ, getElem_toArray, getElem_cons_zero, getElem_cons_succ]
        refine tkY 3 rfl (v := ?_) (.inl ⟨by rfl, ?_⟩) ?_
        case refine_2 => intro w9 hSw; (try dsimp only at hSw); go_simp; (try with_reducible rfl)
        try simp only [Act.put, setIfInBounds_toArray, set_cons_zero, set_cons_succ, getElem_toArray, getElem_cons_zero, getElem_cons_succ]
        refine tkY 4 rfl (v := ?_) (.inl ⟨by rfl, ?_⟩) ?_
        case refine_2 => intro w9 hSw; (try dsimp only at hSw); go_simp; (try with_reducible rfl)
        try simp only [Act.put, setIfInBounds_toArray, set_cons_zero, set_cons_succ, getElem_toArray, getElem_cons_zero, getElem_cons_succ]
        refine tkY 5 rfl (v := ?_) (.inl ⟨by rfl, ?_⟩) ?_
        case refine_2 => intro w9 hSw; (try dsimp only at hSw); go_simp; (try with_reducible rfl)
        try simp only [Act.put, setIfInBounds_toArray, set_cons_zero, set_cons_succ, getElem_toArray, getElem_cons_zero, getElem_cons_succ]
        refine tkY 6 rfl (v := ?_) (.inl ⟨by rfl, ?_⟩) ?_
        case refine_2 => intro w9 hSw; (try dsimp only at hSw); go_simp; (try with_reducible rfl)
        try simp only [Act.put, setIfInBounds_toArray, set_cons_zero, set_cons_succ, getElem_toArray, getElem_cons_zero, getElem_cons_succ]
        refine tkY 7 rfl (v := ?_) (.inl ⟨by rfl, ?_⟩) ?_
        case refine_2 => intro w9 hSw; (try dsimp only at hSw); go_simp; (try with_reducible rfl)
        try simp only [Act.put, setIfInBounds_toArray, set_cons_zero, set_cons_succ, getElem_toArray, getElem_cons_zero, getElem_cons_succ]
        refine tkY 8 rfl (v := ?_) (.inl ⟨by rfl, ?_⟩) ?_
        case refine_2 => intro w9 hSw; (try dsimp only at hSw); go_simp; (try with_reducible rfl)
        try simp only [Act.put, setIfInBounds_toArray, set_cons_zero, set_cons_succ, getElem_toArray, getElem_cons_zero, getElem_cons_succ]
        refine tkY 9 rfl (v := ?_) (.inl ⟨by rfl, ?_⟩) ?_
        case refine_2 => intro w9 hSw; (try dsimp only at hSw); go_simp; (try with_reducible rfl)
        try simp only [Act.put, setIfInBounds_toArray, set_cons_zero, set_cons_succ, getElem_toArray, getElem_cons_zero, getElem_cons_succ]
        refine wpAnyH_done (by kernel_rfl) ?_ _
        go_wp2_with fail
        have A6 := R61a
        have B6 := R61b
        have HBX6 := R61x
        have HX6 := R61n
        have HV6 := R61v
        have GW6 := R61g
        clear A5 B5 HBX5 HX5 HV5 GW5
        obtain ⟨w6, hw6⟩ : ∃ z9 : World, z9 = wd61 := ⟨_, rfl⟩
        rw [← hw6] at A6 B6 HBX6 HX6 HV6 GW6 ⊢
        clear hw6
        refine HV6.out.unx.mono ?_
        rintro e w7 ⟨he, HB7⟩
        rw [HPU.out] at he
        subst he
        have A7 := Lib.hid (A6.out.belowW HB7.out)
        have B7 := Lib.hid (B6.out.belowW HB7.out)
        have GW := Lib.hid (grown_tr GW6.out (grown_of (some bx) HB7.out))
        go_wp2_with fail
        refine leaves_cons (f := 90) (args := #[.pointer (some ⟨w.heap.size, 0, none⟩), .pointer (some ⟨w.heap.size + 1, 0, none⟩)]) (by simp) (by simp [go_sem]) ?_
        refine (run1_panic w.heap.size (w.heap.size + 1) 0 0 0 ln co 3 [] w7 A7.out B7.out hne12).mono ?_
        rintro e u' w6 ⟨rfl, rfl, HA6, HB6, HG6⟩
        obtain ⟨p0, _, p1, _⟩ := HA6.out.all2
        obtain ⟨q0, _⟩ := HB6.out.all1
        simp [Leaves, settle, results, Tryz.results46, go_sem, p0, p1, q0]
        exact ⟨(by rw [HE.out]; try rfl), Lib.hid (gr2_new GW.out (Nat.le_refl _) (Nat.le_succ _) HG6.out), Lib.hid (fun h => absurd h (by rw [HE.out]; exact hern))⟩
      · have hlt2 : ¬ k1 < ts.length := by rw [HTL.out]; exact hlt
        have HE1 := Lib.hid (show RR = (if okE T then ((0, 0, 0), some T) else ((0, 0, 5), some T)) from HE1.out.trans (if_neg hlt2))
        have d1 : decide ((k1 : Int) < (len : Int)) = false := decide_eq_false (by omega)
        have d2 : decide (k1 < len) = false := decide_eq_false hlt
        obtain ⟨b, hb⟩ : ∃ b, b = okE T := ⟨_, rfl⟩
        rw [← hb] at HE1 ⊢
        clear hb
        go_upto_region 7 with (fail)
        refine wp_norm ?_
        have HR61 := Lib.hid (below_dr w5)
        have R61a := Lib.hid (A5.out.belowW HR61.out)
        have R61b := Lib.hid (B5.out.belowW HR61.out)
        have R61x := Lib.hid (HBX5.out.belowW HR61.out)
        have R61n := Lib.hid (HX5.out.belowW HR61.out)
        have R61v := Lib.hid (HV5.out.belowW HR61.out)
        have R61g := Lib.hid (grown_tr GW5.out (grown_of (some bx) HR61.out))
        refine wp_region_held_drew (S := fun w' => w'.cell? ⟨g, 0, none⟩ = some (.slice A len cap) ∧ w'.cell? ⟨g, 1, none⟩ = some (.int .i64 (k1 : Nat))) (by kernel_rfl) ?_ (fun hHeld => ?_)
        case refine_1 => exact ⟨Blk.cell R61v.out.p 0, Blk.cell R61v.out.p 1⟩
        obtain ⟨wd61, hwd⟩ : ∃ z9 : World, z9 = w5.drew := ⟨_, rfl⟩
        rw [← hwd] at HR61 R61a R61b R61x R61n R61v R61g hHeld ⊢
        clear hwd
        refine tkY 0 rfl (v := ?_) (.inl ⟨by rfl, ?_⟩) ?_
        case refine_2 => intro w9 hSw; (try dsimp only at hSw); go_simp; (try with_reducible rfl)
        try simp only [Act.put, setIfInBounds_toArray, set_cons_zero, set_cons_succ, getElem_toArray, getElem_cons_zero]
        refine tkY 1 rfl (v := ?_) (.inl ⟨by rfl, ?_⟩) ?_
        case refine_2 => intro w9 hSw; (try dsimp only at hSw); go_simp; (try with_reducible rfl)
        try simp only [Act.put, setIfInBounds_toArray, set_cons_zero, set_cons_succ, getElem_toArray, getElem_cons_zero, getElem_cons_succ]
        refine tkY 2 rfl (v := ?_) (.inl ⟨by rfl, ?_⟩) ?_
        case refine_2 => intro w9 hSw; (try dsimp only at hSw); go_simp; (try with_reducible rfl)
        try simp only [Act.put, setIfInBounds_toArray, set_cons_zero, set_cons_succ, getElem_toArray, getElem_cons_zero, getElem_cons_succ]
        refine tkY 3 rfl (v := ?_) (.inl ⟨by rfl, ?_⟩) ?_
        case refine_2 => intro w9 hSw; (try dsimp only at hSw); go_simp; (try with_reducible rfl)
        try simp only [Act.put, setIfInBounds_toArray, set_cons_zero, set_cons_succ, getElem_toArray, getElem_cons_zero, getElem_cons_succ]
        refine tkY 4 rfl (v := ?_) (.inl ⟨by rfl, ?_⟩) ?_
        case refine_2 => intro w9 hSw; (try dsimp only at hSw); go_simp; (try with_reducible rfl)
        try simp only [Act.put, setIfInBounds_toArray, set_cons_zero, set_cons_succ, getElem_toArray, getElem_cons_zero, getElem_cons_succ]
        refine tkY 5 rfl (v := ?_) (.inl ⟨by rfl, ?_⟩) ?_
        case refine_2 => intro w9 hSw; (try dsimp only at hSw); go_simp; (try with_reducible rfl)
        try simp only [Act.put, setIfInBounds_toArray, set_cons_zero, set_cons_succ, getElem_toArray, getElem_cons_zero, getElem_cons_succ]
        refine tkY 6 rfl (v := ?_) (.inl ⟨by rfl, ?_⟩) ?_
        case refine_2 => intro w9 hSw; (try dsimp only at hSw); go_simp; (try with_reducible rfl)
        try simp only [Act.put, setIfInBounds_toArray, set_cons_zero, set_cons_succ, getElem_toArray, getElem_cons_zero, getElem_cons_succ]
        refine tkY 7 rfl (v := ?_) (.inl ⟨by rfl, ?_⟩) ?_
        case refine_2 => intro w9 hSw; (try dsimp only at hSw); go_simp; (try with_reducible rfl)
        try simp only [Act.put, setIfInBounds_toArray, set_cons_zero, set_cons_succ, getElem_toArray, getElem_cons_zero, getElem_cons_succ]
        refine tkY 8 rfl (v := ?_) (.inl ⟨by rfl, ?_⟩) ?_
        case refine_2 => intro w9 hSw; (try dsimp only at hSw); go_simp; (try with_reducible rfl)
        try simp only [Act.put, setIfInBounds_toArray, set_cons_zero, set_cons_succ, getElem_toArray, getElem_cons_zero, getElem_cons_succ]
        refine tkY 9 rfl (v := ?_) (.inl ⟨by rfl, ?_⟩) ?_
        case refine_2 => intro w9 hSw; (try dsimp only at hSw); go_simp; (try with_reducible rfl)
        try simp only [Act.put, setIfInBounds_toArray, set_cons_zero, set_cons_succ, getElem_toArray, getElem_cons_zero, getElem_cons_succ]
        refine wpAnyH_done (by kernel_rfl) ?_ _
        go_upto_region 9 with (fail)
        have A6 := R61a
        have B6 := R61b
        have HBX6 := R61x
        have HX6 := R61n
        have HV6 := R61v
        have GW6 := R61g
        clear A5 B5 HBX5 HX5 HV5 GW5
        obtain ⟨w6, hw6⟩ : ∃ z9 : World, z9 = wd61 := ⟨_, rfl⟩
        rw [← hw6] at A6 B6 HBX6 HX6 HV6 GW6 ⊢
        clear hw6
        obtain ⟨p0, f0, p1, f1⟩ := A6.out.all2
        obtain ⟨q0, g0⟩ := B6.out.all1
        cases b with
        | false =>
          have HE := Lib.hid (show RR = ((0, 0, 5), some T) from HE1.out)
          clear HE1
          go_wp2_with fail
          rw [pst2 A6.out]
          have BT := Lib.hid (B6.out.far (t' := 40) hne21 #[.int .i64 0, .int .i64 0])
          rw [pst1 BT.out]
          have A7 := Lib.hid ((A6.out.put #[.int .i64 0, .int .i64 0]).far (t' := 41) hne12 #[.int .i64 5])
          have B7 := Lib.hid (BT.out.put #[.int .i64 5])
          have HBX7 := Lib.hid ((HBX6.out.far (t' := 40) hbx1 #[.int .i64 0, .int .i64 0]).far (t' := 41) hbx2 #[.int .i64 5])
          have HG7 := Lib.hid (grown_new (grown_new GW6.out (Nat.le_refl _) 40 #[.int .i64 0, .int .i64 0]) (Nat.le_succ _) 41 #[.int .i64 5])
          obtain ⟨w7, hw7⟩ : ∃ z9 : World, z9 = putB (putB w6 w.heap.size 40 #[.int .i64 0, .int .i64 0]) (w.heap.size + 1) 41 #[.int .i64 5] := ⟨_, rfl⟩
          rw [← hw7] at A7 B7 HBX7 HG7 ⊢
          clear hw7 BT
          clear p0 f0 p1 f1 q0 g0
          refine leaves_cons (f := 90) (args := #[.pointer (some ⟨w.heap.size, 0, none⟩), .pointer (some ⟨w.heap.size + 1, 0, none⟩)]) (by simp) (by simp [go_sem]) ?_
          refine (run1_idle ⟨w.heap.size, 0, none⟩ ⟨w.heap.size + 1, 0, none⟩ w7).mono ?_
          rintro e u' w8 ⟨rfl, rfl, rfl⟩
          obtain ⟨p0, _, p1, _⟩ := A7.out.all2
          obtain ⟨q0, _⟩ := B7.out.all1
          simp [Leaves, settle, results, Tryz.results46, go_sem, p0, p1, q0]
          exact ⟨(by rw [HE.out]; try rfl), HG7, Lib.hid (fun h => absurd h (by rw [HE.out]; simp))⟩
        | true =>
          have HE := Lib.hid (show RR = ((0, 0, 0), some T) from HE1.out)
          clear HE1
          go_wp2_with fail
          rw [pst2 A6.out]
          have BT := Lib.hid (B6.out.far (t' := 40) hne21 #[.int .i64 0, .int .i64 0])
          rw [pst1 BT.out]
          have A7 := Lib.hid ((A6.out.put #[.int .i64 0, .int .i64 0]).far (t' := 41) hne12 #[.int .i64 0])
          have B7 := Lib.hid (BT.out.put #[.int .i64 0])
          have HBX7 := Lib.hid ((HBX6.out.far (t' := 40) hbx1 #[.int .i64 0, .int .i64 0]).far (t' := 41) hbx2 #[.int .i64 0])
          have HG7 := Lib.hid (grown_new (grown_new GW6.out (Nat.le_refl _) 40 #[.int .i64 0, .int .i64 0]) (Nat.le_succ _) 41 #[.int .i64 0])
          have HX7 := Lib.hid (((HX6.out.far (r := w.heap.size) (by omega) 40 #[.int .i64 0, .int .i64 0]).far (r := w.heap.size + 1) (by omega) 41 #[.int .i64 0]).weaken (C := w.heap.size) (by omega))
          obtain ⟨w7, hw7⟩ : ∃ z9 : World, z9 = putB (putB w6 w.heap.size 40 #[.int .i64 0, .int .i64 0]) (w.heap.size + 1) 41 #[.int .i64 0] := ⟨_, rfl⟩
          rw [← hw7] at A7 B7 HBX7 HG7 HX7 ⊢
          clear hw7 BT
          clear p0 f0 p1 f1 q0 g0
          refine leaves_cons (f := 90) (args := #[.pointer (some ⟨w.heap.size, 0, none⟩), .pointer (some ⟨w.heap.size + 1, 0, none⟩)]) (by simp) (by simp [go_sem]) ?_
          refine (run1_idle ⟨w.heap.size, 0, none⟩ ⟨w.heap.size + 1, 0, none⟩ w7).mono ?_
          rintro e u' w8 ⟨rfl, rfl, rfl⟩
          obtain ⟨p0, _, p1, _⟩ := A7.out.all2
          obtain ⟨q0, _⟩ := B7.out.all1
          simp [Leaves, settle, results, Tryz.results46, go_sem, p0, p1, q0]
          exact ⟨(by rw [HE.out]; try rfl), HG7, Lib.hid (fun h => ⟨T, v, by rw [HE.out], HBX7, HX7⟩)⟩
end Go.Proofs.YtkjoohnndobjeaaGreatDoor
namespace Go.Proofs.YtkjoohnndobjeaaGreatDoor
open Go.RowKit Go.Fl Go.Fl.Lx Go.Fl.Nm Go.Fl.Fm Go.Fl.Rt Go.Fl.Pa
open List (setIfInBounds_toArray set_cons_zero set_cons_succ getElem_toArray getElem_cons_zero getElem_cons_succ)
def zNd : Nd := ⟨⟨0, 0, 0, ⟨#[]⟩, 0⟩, none, 0, 0⟩
/-- The node that Expr answers: the zero node, or what was read. -/
def EOut (r : (Nat × Nat × Nat) × Option TE) (v : Nd) (w w' : World) : Prop := (r.1.2.2 ≠ 0 → v = zNd) ∧ (r.1.2.2 = 0 → ∃ T, r.2 = some T ∧ InX w.heap.size w' T v)
/-- What Expr answers: the place and the error's number that are read; the expression's node, or the zero node. -/
def ExprP (l : List UInt8) (w : World) (e : Ending) (w' : World) : Prop :=
  ∃ v : Nd, e = .returned (.tuple #[v.val, .agg #[.int .i64 (exprR l).1.1, .int .i64 (exprR l).1.2.1], .int .i64 (exprR l).1.2.2]) ∧ Hid (Below w.heap.size w w') ∧ EOut (exprR l) v w w'
theorem below_grown {w w1 w2 : World} {r : Nat} (h1 : Below w.heap.size w w1) (hr : w.heap.size ≤ r) (h2 : w1.grownBy w2 (some r)) : Below w.heap.size w w2 :=
  ⟨h2.os.trans h1.os, h2.tape.trans h1.tape, h2.output.trans h1.output, Nat.le_trans h1.size h2.size, fun k hk => (h2.block k (Nat.lt_of_lt_of_le hk h1.size) (fun e => by injection e with e; omega)).trans (h1.block k hk)⟩

set_option maxHeartbeats 4000000 in
set_option maxRecDepth 100000 in
theorem pExpr (s : ByteArray) (w : World) (hs : s.size ≤ maxLen) (hR : RX w) (hX : FX w) : Calls Tryz.prog 21 #[.string s] w (ExprP s.data.toList w) := by
  have hmf : ∀ (fn : Fn) (first cap : Array Value) (w : World), (Instr.makeFunc fn first cap).run Tryz.prog w = .ok (.func fn first cap) w := fun _ _ _ _ => rfl
  have HR := Lib.hid hR
  have HX := Lib.hid hX
  have KR := Lib.hid (fun (w' : World) (hB : Blk w' (w.heap.size + 2) 29 #[.int .i64 0, .int .i64 0, .int .i64 0, .string ⟨#[]⟩, .int .i64 0, .slice none 0 0]) (hR' : RX w') (hX' : FX w') => pRunE s w' hs (w.heap.size + 2) hB hR' hX')
  unfold ExprP
  obtain ⟨RR, hRR⟩ : ∃ RR, RR = exprR s.data.toList := ⟨_, rfl⟩
  rw [← hRR] at KR ⊢
  clear hR hX hRR
  obtain ⟨⟨ln, co, er⟩, o⟩ := RR
  simp only at KR ⊢
  go_enter Tryz.func21, Tryz.ntmps21
  go_upto_region 2 with (fail)
  obtain ⟨w1, hw1⟩ : ∃ z9 : World, z9 = ((w.alloc (Obj.cells #[.int .i64 0, .int .i64 0, .int .i64 0, .string ⟨#[]⟩, .int .i64 0, .slice none 0 0] 29)).alloc (Obj.cells #[.int .i64 0, .int .i64 0] 40)).alloc (Obj.cells #[.int .i64 0, .int .i64 0, .int .i64 0, .string ⟨#[]⟩, .int .i64 0, .slice none 0 0] 29) := ⟨_, rfl⟩
  have O1 := Lib.hid (show Below w.heap.size w w1 by rw [hw1]; exact ((below_box _ _).trans ((below_box _ _).mono (by simp))).trans ((below_box _ _).mono (by simp; omega)))
  have A1 := Lib.hid (show Blk w1 w.heap.size 29 #[.int .i64 0, .int .i64 0, .int .i64 0, .string ⟨#[]⟩, .int .i64 0, .slice none 0 0] by rw [hw1]; exact ((Blk.new w 29 #[.int .i64 0, .int .i64 0, .int .i64 0, .string ⟨#[]⟩, .int .i64 0, .slice none 0 0]).belowW (below_box _ _)).belowW (below_box _ _))
  have B1 := Lib.hid (show Blk w1 (w.heap.size + 1) 40 #[.int .i64 0, .int .i64 0] by rw [hw1]; exact Blk.belowW (by have := Blk.new (w.alloc (Obj.cells #[.int .i64 0, .int .i64 0, .int .i64 0, .string ⟨#[]⟩, .int .i64 0, .slice none 0 0] 29)) 40 #[.int .i64 0, .int .i64 0]; simpa using this) (below_box _ _))
  have X1 := Lib.hid (show Blk w1 (w.heap.size + 2) 29 #[.int .i64 0, .int .i64 0, .int .i64 0, .string ⟨#[]⟩, .int .i64 0, .slice none 0 0] by rw [hw1]; exact (by have := Blk.new ((w.alloc (Obj.cells #[.int .i64 0, .int .i64 0, .int .i64 0, .string ⟨#[]⟩, .int .i64 0, .slice none 0 0] 29)).alloc (Obj.cells #[.int .i64 0, .int .i64 0] 40)) 29 #[.int .i64 0, .int .i64 0, .int .i64 0, .string ⟨#[]⟩, .int .i64 0, .slice none 0 0]; simpa using this))
  rw [← hw1]
  clear hw1
  have hs1 : w.heap.size + 2 < w1.heap.size := X1.out.lt
  go_wp2_with fail
  refine (KR.out w1 X1.out (HR.out.belowW O1.out) (HX.out.belowW O1.out)).mono ?_
  rintro e w2 ⟨rfl, HG2, HQ2⟩
  have O2 := Lib.hid (below_grown O1.out (by omega) HG2.out)
  have A2 := Lib.hid (A1.out.grown HG2.out (by simp))
  have B2 := Lib.hid (B1.out.grown HG2.out (by simp))
  have hs12 := HG2.out.size
  go_upto_region 3 with (fail)
  obtain ⟨w4, hw4⟩ : ∃ z9 : World, z9 = w2.alloc (Obj.cells #[.int .i64 (ln : Nat), .int .i64 (co : Nat)] 40) := ⟨_, rfl⟩
  have HB4 := Lib.hid (show Below w2.heap.size w2 w4 by rw [hw4]; exact below_box _ _)
  have T4 := Lib.hid (show Blk w4 w2.heap.size 40 #[.int .i64 (ln : Nat), .int .i64 (co : Nat)] by rw [hw4]; exact Blk.new _ _ _)
  rw [← hw4]
  clear hw4
  have O4 := Lib.hid (O2.out.trans (HB4.out.mono O2.out.size))
  have A4 := Lib.hid (A2.out.belowW HB4.out)
  have B4 := Lib.hid (B2.out.belowW HB4.out)
  obtain ⟨rt, hrt⟩ : ∃ z, z = w2.heap.size := ⟨_, rfl⟩
  have hrt2 : w.heap.size + 2 < rt := by omega
  rw [← hrt] at T4 ⊢
  clear hrt
  have hba : w.heap.size + 1 ≠ w.heap.size := by omega
  have hab : w.heap.size ≠ w.heap.size + 1 := by omega
  have hta : rt ≠ w.heap.size := by omega
  have htb : rt ≠ w.heap.size + 1 := by omega
  have hxa : w.heap.size + 2 ≠ w.heap.size := by omega
  have hxb : w.heap.size + 2 ≠ w.heap.size + 1 := by omega
  by_cases her : er = 0
  · obtain ⟨T, v, hT, HX2, HN2⟩ := HQ2.out her
    subst her
    have HT := Lib.hid hT
    clear hT
    have X4 := Lib.hid (HX2.out.belowW HB4.out)
    have HX4 := Lib.hid (HN2.out.belowW HB4.out)
    go_upto_region 5 with (fail)
    have HR31 := Lib.hid (below_dr w4)
    have R31a := Lib.hid (A4.out.belowW HR31.out)
    have R31b := Lib.hid (B4.out.belowW HR31.out)
    have R31t := Lib.hid (T4.out.belowW HR31.out)
    have R31o := Lib.hid (O4.out.trans (HR31.out.mono O4.out.size))
    have R31x := Lib.hid (X4.out.belowW HR31.out)
    have R31n := Lib.hid (HX4.out.belowW HR31.out)
    refine wp_region_held_drew (S := fun w' => w'.cell? ⟨rt, 0, none⟩ = some (.int .i64 (ln : Nat)) ∧ w'.cell? ⟨rt, 1, none⟩ = some (.int .i64 (co : Nat)) ∧ w'.cell? ⟨w.heap.size + 2, 0, none⟩ = some (.int .i64 v.h.kind) ∧ w'.cell? ⟨w.heap.size + 2, 1, none⟩ = some (.int .i64 v.h.n) ∧ w'.cell? ⟨w.heap.size + 2, 2, none⟩ = some (.int .i64 v.h.d) ∧ w'.cell? ⟨w.heap.size + 2, 3, none⟩ = some (.string v.h.name) ∧ w'.cell? ⟨w.heap.size + 2, 4, none⟩ = some (.int .i64 v.h.k) ∧ w'.cell? ⟨w.heap.size + 2, 5, none⟩ = some (.slice v.A v.len v.cap)) (by kernel_rfl) ?_ (fun hHeld => ?_)
    case refine_1 => exact ⟨R31t.out.cell 0, R31t.out.cell 1, R31x.out.cell 0, R31x.out.cell 1, R31x.out.cell 2, R31x.out.cell 3, R31x.out.cell 4, R31x.out.cell 5⟩
    obtain ⟨wd31, hwd⟩ : ∃ z9 : World, z9 = w4.drew := ⟨_, rfl⟩
    rw [← hwd] at HR31 R31a R31b R31t R31o R31x R31n hHeld ⊢
    clear hwd
    refine tkY 0 rfl (v := ?_) (.inl ⟨by rfl, ?_⟩) ?_
    case refine_2 => intro w9 hSw; (try dsimp only at hSw); go_simp; (try with_reducible rfl)
    try simp only [Act.put, setIfInBounds_toArray, set_cons_zero, set_cons_succ, getElem_toArray, getElem_cons_zero]
    refine tkY 1 rfl (v := ?_) (.inl ⟨by rfl, ?_⟩) ?_
    case refine_2 => intro w9 hSw; (try dsimp only at hSw); go_simp; (try with_reducible rfl)
    try simp only [Act.put, setIfInBounds_toArray, set_cons_zero, set_cons_succ, getElem_toArray, getElem_cons_zero, getElem_cons_succ]
    refine tkY 2 rfl (v := ?_) (.inl ⟨by rfl, ?_⟩) ?_
    case refine_2 => intro w9 hSw; (try dsimp only at hSw); go_simp; (try with_reducible rfl)
    try simp only [Act.put, setIfInBounds_toArray, set_cons_zero, set_cons_succ, getElem_toArray, getElem_cons_zero, getElem_cons_succ]
    refine wpAnyH_ready (rs := [3]) (by kernel_rfl) (by simp) ?_
    refine (AllReadyH.cons rfl (fun K hK => ?_) AllReadyH.nil)
    obtain ⟨ps0, fs0, ps1, fs1, ps2, fs2, ps3, fs3, ps4, fs4, ps5, fs5⟩ := R31a.out.all6
    go_simp
    rw [pst6 R31a.out]
    clear ps0 fs0 ps1 fs1 ps2 fs2 ps3 fs3 ps4 fs4 ps5 fs5
    have R32b := Lib.hid (R31b.out.far (t' := 29) hba #[.int .i64 v.h.kind, .int .i64 v.h.n, .int .i64 v.h.d, .string v.h.name, .int .i64 v.h.k, .slice v.A v.len v.cap])
    have R32t := Lib.hid (R31t.out.far (t' := 29) hta #[.int .i64 v.h.kind, .int .i64 v.h.n, .int .i64 v.h.d, .string v.h.name, .int .i64 v.h.k, .slice v.A v.len v.cap])
    have R32o := Lib.hid (R31o.out.trans (putB_below wd31 w.heap.size 29 #[.int .i64 v.h.kind, .int .i64 v.h.n, .int .i64 v.h.d, .string v.h.name, .int .i64 v.h.k, .slice v.A v.len v.cap] (Nat.le_refl _)))
    have R32x := Lib.hid (R31x.out.far (t' := 29) hxa #[.int .i64 v.h.kind, .int .i64 v.h.n, .int .i64 v.h.d, .string v.h.name, .int .i64 v.h.k, .slice v.A v.len v.cap])
    have R32n := Lib.hid (R31n.out.far (r := w.heap.size) (by omega) 29 #[.int .i64 v.h.kind, .int .i64 v.h.n, .int .i64 v.h.d, .string v.h.name, .int .i64 v.h.k, .slice v.A v.len v.cap])
    have R32zz := Lib.hid (R31a.out.put #[.int .i64 v.h.kind, .int .i64 v.h.n, .int .i64 v.h.d, .string v.h.name, .int .i64 v.h.k, .slice v.A v.len v.cap])
    obtain ⟨w32, hw9⟩ : ∃ z9 : World, z9 = putB wd31 (w.heap.size) 29 #[.int .i64 v.h.kind, .int .i64 v.h.n, .int .i64 v.h.d, .string v.h.name, .int .i64 v.h.k, .slice v.A v.len v.cap] := ⟨_, rfl⟩
    rw [← hw9] at R32b R32t R32o R32x R32n R32zz ⊢
    clear hw9 hHeld
    refine hK.out _ _ ?_ (fun hHeld => ?_)
    case refine_1 => exact ⟨R32t.out.cell 0, R32t.out.cell 1, R32x.out.cell 0, R32x.out.cell 1, R32x.out.cell 2, R32x.out.cell 3, R32x.out.cell 4, R32x.out.cell 5⟩
    clear hK K
    try simp only [setIfInBounds_toArray, set_cons_zero, set_cons_succ]
    refine wpAnyH_ready (rs := [4]) (by kernel_rfl) (by simp) ?_
    refine (AllReadyH.cons rfl (fun K hK => ?_) AllReadyH.nil)
    obtain ⟨ps0, fs0, ps1, fs1⟩ := R32b.out.all2
    go_simp
    rw [pst2 R32b.out]
    clear ps0 fs0 ps1 fs1
    have R33t := Lib.hid (R32t.out.far (t' := 40) htb #[.int .i64 (ln : Nat), .int .i64 (co : Nat)])
    have R33o := Lib.hid (R32o.out.trans (putB_below w32 (w.heap.size + 1) 40 #[.int .i64 (ln : Nat), .int .i64 (co : Nat)] (Nat.le_succ _)))
    have R33x := Lib.hid (R32x.out.far (t' := 40) hxb #[.int .i64 (ln : Nat), .int .i64 (co : Nat)])
    have R33n := Lib.hid (R32n.out.far (r := w.heap.size + 1) (by omega) 40 #[.int .i64 (ln : Nat), .int .i64 (co : Nat)])
    have R33a := Lib.hid (R32zz.out.far (t' := 40) hab #[.int .i64 (ln : Nat), .int .i64 (co : Nat)])
    have R33zz := Lib.hid (R32b.out.put #[.int .i64 (ln : Nat), .int .i64 (co : Nat)])
    obtain ⟨w33, hw9⟩ : ∃ z9 : World, z9 = putB w32 (w.heap.size + 1) 40 #[.int .i64 (ln : Nat), .int .i64 (co : Nat)] := ⟨_, rfl⟩
    rw [← hw9] at R33t R33o R33x R33n R33a R33zz ⊢
    clear hw9 hHeld
    refine hK.out _ _ ?_ (fun hHeld => ?_)
    case refine_1 => exact ⟨R33t.out.cell 0, R33t.out.cell 1, R33x.out.cell 0, R33x.out.cell 1, R33x.out.cell 2, R33x.out.cell 3, R33x.out.cell 4, R33x.out.cell 5⟩
    clear hK K
    try simp only [setIfInBounds_toArray, set_cons_zero, set_cons_succ]
    refine tkY 5 rfl (v := ?_) (.inl ⟨by rfl, ?_⟩) ?_
    case refine_2 => intro w9 hSw; (try dsimp only at hSw); go_simp; (try with_reducible rfl)
    try simp only [Act.put, setIfInBounds_toArray, set_cons_zero, set_cons_succ, getElem_toArray, getElem_cons_zero, getElem_cons_succ]
    refine wpAnyH_done (by kernel_rfl) ?_ _
    obtain ⟨z0, _, z1, _, z2, _, z3, _, z4, _, z5, _⟩ := R33a.out.all6
    obtain ⟨y0, _, y1, _⟩ := R33zz.out.all2
    go_wp2_with fail
    refine bodyPost_ret (v := .tuple #[.agg #[.int .i64 v.h.kind, .int .i64 v.h.n, .int .i64 v.h.d, .string v.h.name, .int .i64 v.h.k, .slice v.A v.len v.cap], .agg #[.int .i64 (ln : Nat), .int .i64 (co : Nat)], .int .i64 0]) (by simp [results, Tryz.results21, go_sem, z0, z1, z2, z3, z4, z5, y0, y1]) rfl ?_
    exact ⟨v, rfl, R33o, ⟨fun h => absurd rfl h, fun _ => ⟨T, HT.out, R33n.out.weaken (by omega)⟩⟩⟩
  · have d1 : (((er : Nat) : Int) != 0) = true := by rw [bne_iff_ne]; omega
    go_upto_region 4 with (fail)
    have HR31 := Lib.hid (below_dr w4)
    have R31a := Lib.hid (A4.out.belowW HR31.out)
    have R31b := Lib.hid (B4.out.belowW HR31.out)
    have R31t := Lib.hid (T4.out.belowW HR31.out)
    have R31o := Lib.hid (O4.out.trans (HR31.out.mono O4.out.size))
    refine wp_region_held_drew (S := fun w' => w'.cell? ⟨rt, 0, none⟩ = some (.int .i64 (ln : Nat)) ∧ w'.cell? ⟨rt, 1, none⟩ = some (.int .i64 (co : Nat))) (by kernel_rfl) ?_ (fun hHeld => ?_)
    case refine_1 => exact ⟨R31t.out.cell 0, R31t.out.cell 1⟩
    obtain ⟨wd31, hwd⟩ : ∃ z9 : World, z9 = w4.drew := ⟨_, rfl⟩
    rw [← hwd] at HR31 R31a R31b R31t R31o hHeld ⊢
    clear hwd
    refine tkY 0 rfl (v := ?_) (.inl ⟨by rfl, ?_⟩) ?_
    case refine_2 => intro w9 hSw; (try dsimp only at hSw); go_simp; (try with_reducible rfl)
    try simp only [Act.put, setIfInBounds_toArray, set_cons_zero, set_cons_succ, getElem_toArray, getElem_cons_zero]
    refine tkY 1 rfl (v := ?_) (.inl ⟨by rfl, ?_⟩) ?_
    case refine_2 => intro w9 hSw; (try dsimp only at hSw); go_simp; (try with_reducible rfl)
    try simp only [Act.put, setIfInBounds_toArray, set_cons_zero, set_cons_succ, getElem_toArray, getElem_cons_zero, getElem_cons_succ]
    refine tkY 2 rfl (v := ?_) (.inl ⟨by rfl, ?_⟩) ?_
    case refine_2 => intro w9 hSw; (try dsimp only at hSw); go_simp; (try with_reducible rfl)
    try simp only [Act.put, setIfInBounds_toArray, set_cons_zero, set_cons_succ, getElem_toArray, getElem_cons_zero, getElem_cons_succ]
    refine wpAnyH_ready (rs := [3]) (by kernel_rfl) (by simp) ?_
    refine (AllReadyH.cons rfl (fun K hK => ?_) AllReadyH.nil)
    obtain ⟨ps0, fs0, ps1, fs1, ps2, fs2, ps3, fs3, ps4, fs4, ps5, fs5⟩ := R31a.out.all6
    go_simp
    rw [pst6 R31a.out]
    clear ps0 fs0 ps1 fs1 ps2 fs2 ps3 fs3 ps4 fs4 ps5 fs5
    have R32b := Lib.hid (R31b.out.far (t' := 29) hba #[.int .i64 0, .int .i64 0, .int .i64 0, .string ⟨#[]⟩, .int .i64 0, .slice none 0 0])
    have R32t := Lib.hid (R31t.out.far (t' := 29) hta #[.int .i64 0, .int .i64 0, .int .i64 0, .string ⟨#[]⟩, .int .i64 0, .slice none 0 0])
    have R32o := Lib.hid (R31o.out.trans (putB_below wd31 w.heap.size 29 #[.int .i64 0, .int .i64 0, .int .i64 0, .string ⟨#[]⟩, .int .i64 0, .slice none 0 0] (Nat.le_refl _)))
    have R32zz := Lib.hid (R31a.out.put #[.int .i64 0, .int .i64 0, .int .i64 0, .string ⟨#[]⟩, .int .i64 0, .slice none 0 0])
    obtain ⟨w32, hw9⟩ : ∃ z9 : World, z9 = putB wd31 (w.heap.size) 29 #[.int .i64 0, .int .i64 0, .int .i64 0, .string ⟨#[]⟩, .int .i64 0, .slice none 0 0] := ⟨_, rfl⟩
    rw [← hw9] at R32b R32t R32o R32zz ⊢
    clear hw9 hHeld
    refine hK.out _ _ ?_ (fun hHeld => ?_)
    case refine_1 => exact ⟨R32t.out.cell 0, R32t.out.cell 1⟩
    clear hK K
    try simp only [setIfInBounds_toArray, set_cons_zero, set_cons_succ]
    refine wpAnyH_ready (rs := [4]) (by kernel_rfl) (by simp) ?_
    refine (AllReadyH.cons rfl (fun K hK => ?_) AllReadyH.nil)
    obtain ⟨ps0, fs0, ps1, fs1⟩ := R32b.out.all2
    go_simp
    rw [pst2 R32b.out]
    clear ps0 fs0 ps1 fs1
    have R33t := Lib.hid (R32t.out.far (t' := 40) htb #[.int .i64 (ln : Nat), .int .i64 (co : Nat)])
    have R33o := Lib.hid (R32o.out.trans (putB_below w32 (w.heap.size + 1) 40 #[.int .i64 (ln : Nat), .int .i64 (co : Nat)] (Nat.le_succ _)))
    have R33a := Lib.hid (R32zz.out.far (t' := 40) hab #[.int .i64 (ln : Nat), .int .i64 (co : Nat)])
    have R33zz := Lib.hid (R32b.out.put #[.int .i64 (ln : Nat), .int .i64 (co : Nat)])
    obtain ⟨w33, hw9⟩ : ∃ z9 : World, z9 = putB w32 (w.heap.size + 1) 40 #[.int .i64 (ln : Nat), .int .i64 (co : Nat)] := ⟨_, rfl⟩
    rw [← hw9] at R33t R33o R33a R33zz ⊢
    clear hw9 hHeld
    refine hK.out _ _ ?_ (fun hHeld => ?_)
    case refine_1 => exact ⟨R33t.out.cell 0, R33t.out.cell 1⟩
    clear hK K
    try simp only [setIfInBounds_toArray, set_cons_zero, set_cons_succ]
    refine tkY 5 rfl (v := ?_) (.inl ⟨by rfl, ?_⟩) ?_
    case refine_2 => intro w9 hSw; (try dsimp only at hSw); go_simp; (try with_reducible rfl)
    try simp only [Act.put, setIfInBounds_toArray, set_cons_zero, set_cons_succ, getElem_toArray, getElem_cons_zero, getElem_cons_succ]
    refine wpAnyH_done (by kernel_rfl) ?_ _
    obtain ⟨z0, _, z1, _, z2, _, z3, _, z4, _, z5, _⟩ := R33a.out.all6
    obtain ⟨y0, _, y1, _⟩ := R33zz.out.all2
    go_wp2_with fail
    refine bodyPost_ret (v := .tuple #[.agg #[.int .i64 0, .int .i64 0, .int .i64 0, .string ⟨#[]⟩, .int .i64 0, .slice none 0 0], .agg #[.int .i64 (ln : Nat), .int .i64 (co : Nat)], .int .i64 (er : Nat)]) (by simp [results, Tryz.results21, go_sem, z0, z1, z2, z3, z4, z5, y0, y1]) rfl ?_
    exact ⟨zNd, rfl, R33o, ⟨fun _ => rfl, fun h => absurd h her⟩⟩
end Go.Proofs.YtkjoohnndobjeaaGreatDoor
