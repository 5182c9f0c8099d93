/-
  The walks of the parser's sums and terms.
  The walks of the parser's rules, joined: each rule finds what its plain model finds.
  Plain laws of the lexer: runs side by side; words and numbers.
  What ratio.Parse finds in the texts of tokens, in plain Lean. Of no program.
  Plain laws of the lexer: two texts with a newline between them.
  The tokens of printed trees, and how the parser's rules read them, in plain Lean. No program in sight.
  What the tokens of a text are, and where they stand, in plain Lean. No program in sight.
-/
import Derived.Test.YtkjoohnndobjeaaGreatDoorPaK
import Derived.Test.YtkjoohnndobjeaaGreatDoorQH
import Derived.Test.YtkjoohnndobjeaaGreatDoorQB
import Derived.Test.YtkjoohnndobjeaaGreatDoorQC
import Derived.Test.YtkjoohnndobjeaaGreatDoorQA
import Derived.Test.YtkjoohnndobjeaaGreatDoorQI
set_option linter.unusedVariables false
namespace Go.Proofs.YtkjoohnndobjeaaGreatDoor
open Go.RowKit Go.Fl Go.Fl.Lx Go.Fl.Nm Go.Fl.Fm Go.Fl.Rt Go.Fl.Pa
def opS (l : List UInt8) : Int := if l = [43] then 3 else if l = [45] then 4 else 0
def opT (l : List UInt8) : Int := if l = [42] then 5 else if l = [47] then 6 else 0
theorem opS_le (l : List UInt8) : 0 ≤ opS l ∧ opS l ≤ 13 := by
  unfold opS
  split
  · omega
  split <;> omega
theorem opT_le (l : List UInt8) : 0 ≤ opT l ∧ opT l ≤ 13 := by
  unfold opT
  split
  · omega
  split <;> omega
def esS : Array MapEntry := #[⟨.string ⟨#[43]⟩, .int .i64 3, 0⟩, ⟨.string ⟨#[45]⟩, .int .i64 4, 1⟩]
def esT : Array MapEntry := #[⟨.string ⟨#[42]⟩, .int .i64 5, 0⟩, ⟨.string ⟨#[47]⟩, .int .i64 6, 1⟩]
theorem upd_str (w : World) (es : Array MapEntry) (clock : Nat) (s : ByteArray) (k : Int) (hf : Instr.findNow .string (.string s) es.toList 0 = some none) :
    Sem.run Tryz.prog (Instr.mapUpdate 142 (.map (some w.heap.size)) (.string s) (.int .i64 k)) (w.alloc (.map es clock)) =
      .ok () (w.alloc (.map (es.push { key := .string s, val := .int .i64 k, born := clock }) (clock + 1))) := by
  have hm := Tryz.underlying142
  have hd := Tryz.underlying9
  have hb : (w.alloc (.map es clock)).heap[w.heap.size]? = some (.map es clock) := heap_alloc_new w _
  have hk : MapKept.IsKey .string (.string s) := by simp [MapKept.IsKey]
  simp [Instr.mapUpdate, run_underlying hm, MapKept.run_getObj_map hb, MapKept.run_checkKey hd hk, MapKept.run_findKey hd hf, MapKept.run_setObj_map _ hb, Result.andThen]
  have hh : (w.alloc (.map es clock)).heap.setIfInBounds w.heap.size (.map (es.push { key := .string s, val := .int .i64 k, born := clock }) (clock + 1)) = (w.alloc (.map (es.push { key := .string s, val := .int .i64 k, born := clock }) (clock + 1))).heap := by
    show (w.heap.push _).setIfInBounds w.heap.size _ = w.heap.push _
    apply Array.ext_getElem?
    intro j
    rw [Array.getElem?_setIfInBounds, Array.getElem?_push, Array.getElem?_push]
    by_cases hj : w.heap.size = j
    · subst hj; simp
    · rw [if_neg hj, if_neg (fun e => hj e.symm), if_neg (fun e => hj e.symm)]
  rw [hh]
  rfl
theorem look_some (w : World) (g : Nat) (es : Array MapEntry) (clock : Nat) (s : ByteArray) (i : Nat) (z : Int) (hb : w.heap[g]? = some (.map es clock)) (hf : Instr.findNow .string (.string s) es.toList 0 = some (some (i, .int .i64 z))) :
    Sem.run Tryz.prog (Instr.lookup 142 (.map (some g)) (.string s) true) w = .ok (.tuple #[.int .i64 z, .bool true]) w := by
  have hm := Tryz.underlying142
  have hd := Tryz.underlying9
  have hk : MapKept.IsKey .string (.string s) := by simp [MapKept.IsKey]
  simp [Instr.lookup, run_underlying hm, MapKept.run_getObj_map hb, MapKept.run_checkKey hd hk, MapKept.run_findKey hd hf, Result.andThen]
theorem look_none (w : World) (g : Nat) (es : Array MapEntry) (clock : Nat) (s : ByteArray) (hb : w.heap[g]? = some (.map es clock)) (hf : Instr.findNow .string (.string s) es.toList 0 = some none) :
    Sem.run Tryz.prog (Instr.lookup 142 (.map (some g)) (.string s) true) w = .ok (.tuple #[.int .i64 0, .bool false]) w := by
  have hm := Tryz.underlying142
  have hd := Tryz.underlying9
  have hk : MapKept.IsKey .string (.string s) := by simp [MapKept.IsKey]
  have hz : (zeroValue 3).run Tryz.prog w = .ok (.int .i64 0) w := by kernel_rfl
  simp [Instr.lookup, run_underlying hm, MapKept.run_getObj_map hb, MapKept.run_checkKey hd hk, MapKept.run_findKey hd hf, Result.andThen, hz]
theorem find_two (l : List UInt8) (a b : ByteArray) (x y : Value) : Instr.findNow .string (.string ⟨l.toArray⟩) [⟨.string a, x, 0⟩, ⟨.string b, y, 1⟩] 0 = some (if l = a.data.toList then some (0, x) else if l = b.data.toList then some (1, y) else none) := by
  simp only [Instr.findNow, Instr.sameNow, beq_txt]
  by_cases ha : l = a.data.toList
  · rw [if_pos ha, show (l == a.data.toList) = true from beq_iff_eq.2 ha]
  · rw [if_neg ha, show (l == a.data.toList) = false from beq_eq_false_iff_ne.2 ha]
    by_cases hb : l = b.data.toList
    · rw [if_pos hb, show (l == b.data.toList) = true from beq_iff_eq.2 hb]
    · rw [if_neg hb, show (l == b.data.toList) = false from beq_eq_false_iff_ne.2 hb]

theorem lookS (w : World) (bm : Nat) (l : List UInt8) (hb : w.heap[bm]? = some (.map esS 2)) :
    (Instr.lookup 142 (.map (some bm)) (.string ⟨l.toArray⟩) true).run Tryz.prog w = .ok (.tuple #[.int .i64 (opS l), .bool (opS l != 0)]) w := by
  have hf := find_two l ⟨#[43]⟩ ⟨#[45]⟩ (.int .i64 3) (.int .i64 4)
  by_cases h1 : l = [43]
  · rw [if_pos h1] at hf
    rw [look_some w bm esS 2 _ _ _ hb hf]
    subst h1
    rfl
  · rw [if_neg h1] at hf
    by_cases h2 : l = [45]
    · rw [if_pos h2] at hf
      rw [look_some w bm esS 2 _ _ _ hb hf]
      subst h2
      rfl
    · rw [if_neg h2] at hf
      rw [look_none w bm esS 2 _ hb hf]
      unfold opS
      rw [if_neg h1, if_neg h2]
      rfl
theorem chS_step (nm : List UInt8 → Bool) (ts : List Tok) (m : Nat) (f : Nat) (e : TE) (k : Nat) : chS nm ts (f + 1) e k m = stepR ts opS (fun e k => chS nm ts f e k m) e k (termP nm ts f (k + 1) m) := by
  rw [chS.eq_def]
  unfold stepR opS
  simp only
  by_cases h1 : (tk ts k).text = [43]
  · rw [h1]
    cases termP nm ts f (k + 1) m <;> simp
  · by_cases h2 : (tk ts k).text = [45]
    · rw [h2]
      cases termP nm ts f (k + 1) m <;> simp
    · simp [h1, h2]
theorem sumP_eq (nm : List UInt8 → Bool) (ts : List Tok) (f k m : Nat) : sumP nm ts (f + 1) k m = chainR (fun e k => chS nm ts f e k m) (termP nm ts f k m) := by
  rw [sumP.eq_def]
  rfl
set_option maxHeartbeats 4000000 in
set_option maxRecDepth 100000 in
theorem pSum {w0 w : World} {g : Nat} {A : Option Addr} {len cap : Nat} {ts : List Tok} {k m : Nat} (h : Env w0 g A len cap ts k m w) (hk : k ≤ 100001) (hm : m ≤ 100) (f : Nat) (hf : 8 * (ts.length - k) + 8 ≤ f + 1)
    (K1 : ∀ w', Env w0 g A len cap ts k m w' → Calls Tryz.prog 93 #[.pointer (some ⟨g, 0, none⟩)] w' (ExR w0 g A len cap ts m (termP nameP ts f k m) w'))
    (K2 : ∀ f' k', f' < f → 8 * (ts.length - k') + 7 ≤ f' → k' ≤ 100001 → ∀ w', Env w0 g A len cap ts k' m w' → Calls Tryz.prog 93 #[.pointer (some ⟨g, 0, none⟩)] w' (ExR w0 g A len cap ts m (termP nameP ts f' k' m) w')) :
    Calls Tryz.prog 48 #[.pointer (some ⟨g, 0, none⟩)] w (ExR w0 g A len cap ts m (sumP nameP ts (f + 1) k m) w) := by
  obtain ⟨RR, hRR⟩ : ∃ RR, RR = sumP nameP ts (f + 1) k m := ⟨_, rfl⟩
  have HRR := Lib.hid (show RR = chainR (fun e k => chS nameP ts f e k m) (termP nameP ts f k m) from hRR.trans (sumP_eq nameP ts f k m))
  have hno : RR ≠ .out := by rw [hRR]; exact (enough (nm := nameP) (ts := ts) (f + 1)).1 k m (by omega)
  rw [← hRR]
  have KK := Lib.hid (fun (w' : World) (h' : Env w0 g A len cap ts k m w') (bm : Nat) (hb : w'.heap[bm]? = some (.map esS 2)) (hbg : bm ≠ g) =>
    pChainS h' hk bm esS opS opS_le (fun w' l hb => lookS w' bm l hb) hb hbg (fun f e k => chS nameP ts f e k m) (fun f k => termP nameP ts f k m) (chS_step nameP ts m)
      (fun f k b k2 e => (forward (nm := nameP) (ts := ts) f).2.2.1 k m b k2 e) (fun f k e => (enough (nm := nameP) (ts := ts) f).2.2.1 k m (by omega)) f (termP nameP ts f k m) ((enough (nm := nameP) (ts := ts) f).2.2.1 k m (by omega))
      (fun T k1 e => by have := (forward (nm := nameP) (ts := ts) f).2.2.1 k m T k1 e; exact ⟨this.2, by omega⟩) K1 K2)
  rw [← HRR.out] at KK
  clear K1 K2 hRR HRR
  have hmf : ∀ (fn : Fn) (first cap : Array Value) (w : World), (Instr.makeFunc fn first cap).run Tryz.prog w = .ok (.func fn first cap) w := fun _ _ _ _ => rfl
  have hmm := @run_makeMap Tryz.prog
  have u1 := fun w : World => upd_str w #[] 0 ⟨#[43]⟩ 3 rfl
  have u2 := fun w : World => upd_str w #[⟨.string ⟨#[43]⟩, .int .i64 3, 0⟩] 1 ⟨#[45]⟩ 4 rfl
  simp only [List.push_toArray, List.nil_append, List.cons_append, Nat.zero_add, Nat.reduceAdd] at u1 u2
  go_enter Tryz.func48, Tryz.ntmps48
  go_upto_region 1 with (fail)
  obtain ⟨w1, hw1⟩ : ∃ z9 : World, z9 = w.alloc (Obj.cells #[.int .i64 0, .int .i64 0, .int .i64 0, .string ⟨#[]⟩, .int .i64 0, .slice none 0 0] 29) := ⟨_, rfl⟩
  have O1 := Lib.hid (show Below w.heap.size w w1 by rw [hw1]; exact below_box _ _)
  have F1 := Lib.hid (show Blk w1 w.heap.size 29 #[.int .i64 0, .int .i64 0, .int .i64 0, .string ⟨#[]⟩, .int .i64 0, .slice none 0 0] by rw [hw1]; exact Blk.new _ _ _)
  rw [← hw1]
  clear hw1
  have HNE := Lib.hid (show some w.heap.size ≠ some g from fun e => by have := h.gl; injection e with e; omega)
  have hwr : w.heap.size ≠ g := fun e => HNE.out (by rw [e])
  have hlr : w0.heap.size ≤ w.heap.size := h.b.size
  have hgl : g < w.heap.size := h.gl
  have HV1 := Lib.hid (h.belowW O1.out)
  have HG1 := Lib.hid (grown_of (some g) O1.out)
  have hr1 : w.heap.size < w1.heap.size := F1.out.lt
  clear h
  go_wp2_with fail
  obtain ⟨w2, hw2⟩ : ∃ z9 : World, z9 = w1.alloc (Obj.map esS 2) := ⟨_, rfl⟩
  have HB2 := Lib.hid (show Below w1.heap.size w1 w2 by rw [hw2]; exact below_box _ _)
  have HBM := Lib.hid (show w2.heap[w1.heap.size]? = some (.map esS 2) by rw [hw2]; exact heap_alloc_new w1 _)
  unfold esS at hw2
  rw [← hw2]
  clear hw2 u1 u2
  have HV2 := Lib.hid (HV1.out.belowW HB2.out)
  have F2 := Lib.hid (F1.out.belowW HB2.out)
  have HG2 := Lib.hid (grown_tr HG1.out (grown_of (some g) HB2.out))
  have hbmg : w1.heap.size ≠ g := Nat.ne_of_gt HV1.out.gl
  have KC := Lib.hid (KK.out w2 HV2.out w1.heap.size HBM.out hbmg)
  have hr := hno
  obtain ⟨r, hrr⟩ : ∃ r, r = RR := ⟨_, rfl⟩
  have HE := Lib.hid hrr.symm
  rw [← hrr] at KC hr
  clear hrr
  have hgw : g < w2.heap.size := HV2.out.gl
  have hrw : w.heap.size < w2.heap.size := F2.out.lt
  cases r with
  | out => exact (hr rfl).elim
  | bad ln co er =>
    go_wp2_with fail
    refine KC.out.mono ?_
    rintro e w7 ⟨rfl, HG7⟩
    go_wp2_with fail
    rw [HE.out]
    exact ⟨rfl, exr_bad (Lib.hid (grown_tr HG2.out HG7.out))⟩
  | ok T k1 =>
    go_wp2_with fail
    refine KC.out.mono ?_
    rintro e w7 ⟨v, rfl, HX7, HG7, HV7⟩
    have F7 := Lib.hid (F2.out.grown HG7.out HNE.out)
    obtain ⟨r0, h0, r1, h1, r2, h2, r3, h3, r4, h4, r5, h5⟩ := F7.out.all6
    go_wp2_with fail
    rw [pst6 F7.out]
    have FZ := Lib.hid (F7.out.put #[.int .i64 v.h.kind, .int .i64 v.h.n, .int .i64 v.h.d, .string v.h.name, .int .i64 v.h.k, .slice v.A v.len v.cap])
    obtain ⟨z0, _, z1, _, z2, _, z3, _, z4, _, z5, _⟩ := FZ.out.all6
    refine bodyPost_ret (v := .agg #[.int .i64 v.h.kind, .int .i64 v.h.n, .int .i64 v.h.d, .string v.h.name, .int .i64 v.h.k, .slice v.A v.len v.cap]) (by simp [results, Tryz.results48, go_sem, z0, z1, z2, z3, z4, z5]) rfl ?_
    rw [HE.out]
    exact ⟨v, rfl, Lib.hid ((HX7.out.far hrw _ _).weaken (Nat.le_of_lt hrw)), Lib.hid (grown_new (Lib.hid (grown_tr HG2.out HG7.out)).out (Nat.le_refl _) _ _), Lib.hid (HV7.out.far hwr hlr _ _)⟩

theorem lookT (w : World) (bm : Nat) (l : List UInt8) (hb : w.heap[bm]? = some (.map esT 2)) :
    (Instr.lookup 142 (.map (some bm)) (.string ⟨l.toArray⟩) true).run Tryz.prog w = .ok (.tuple #[.int .i64 (opT l), .bool (opT l != 0)]) w := by
  have hf := find_two l ⟨#[42]⟩ ⟨#[47]⟩ (.int .i64 5) (.int .i64 6)
  by_cases h1 : l = [42]
  · rw [if_pos h1] at hf
    rw [look_some w bm esT 2 _ _ _ hb hf]
    subst h1
    rfl
  · rw [if_neg h1] at hf
    by_cases h2 : l = [47]
    · rw [if_pos h2] at hf
      rw [look_some w bm esT 2 _ _ _ hb hf]
      subst h2
      rfl
    · rw [if_neg h2] at hf
      rw [look_none w bm esT 2 _ hb hf]
      unfold opT
      rw [if_neg h1, if_neg h2]
      rfl
theorem chT_step (nm : List UInt8 → Bool) (ts : List Tok) (m : Nat) (f : Nat) (e : TE) (k : Nat) : chT nm ts (f + 1) e k m = stepR ts opT (fun e k => chT nm ts f e k m) e k (factorP nm ts f (k + 1) m) := by
  rw [chT.eq_def]
  unfold stepR opT
  simp only
  by_cases h1 : (tk ts k).text = [42]
  · rw [h1]
    cases factorP nm ts f (k + 1) m <;> simp
  · by_cases h2 : (tk ts k).text = [47]
    · rw [h2]
      cases factorP nm ts f (k + 1) m <;> simp
    · simp [h1, h2]
theorem termP_eq (nm : List UInt8 → Bool) (ts : List Tok) (f k m : Nat) : termP nm ts (f + 1) k m = chainR (fun e k => chT nm ts f e k m) (firstP nm ts f k m) := by
  rw [termP.eq_def]
  rfl
set_option maxHeartbeats 4000000 in
set_option maxRecDepth 100000 in
theorem pTerm {w0 w : World} {g : Nat} {A : Option Addr} {len cap : Nat} {ts : List Tok} {k m : Nat} (h : Env w0 g A len cap ts k m w) (hk : k ≤ 100001) (hm : m ≤ 100) (f : Nat) (hf : 8 * (ts.length - k) + 7 ≤ f + 1)
    (K1 : ∀ w', Env w0 g A len cap ts k m w' → Calls Tryz.prog 125 #[.pointer (some ⟨g, 0, none⟩)] w' (ExR w0 g A len cap ts m (firstP nameP ts f k m) w'))
    (K2 : ∀ f' k', f' < f → 8 * (ts.length - k') + 7 ≤ f' → k' ≤ 100001 → ∀ w', Env w0 g A len cap ts k' m w' → Calls Tryz.prog 126 #[.pointer (some ⟨g, 0, none⟩)] w' (ExR w0 g A len cap ts m (factorP nameP ts f' k' m) w')) :
    Calls Tryz.prog 93 #[.pointer (some ⟨g, 0, none⟩)] w (ExR w0 g A len cap ts m (termP nameP ts (f + 1) k m) w) := by
  obtain ⟨RR, hRR⟩ : ∃ RR, RR = termP nameP ts (f + 1) k m := ⟨_, rfl⟩
  have HRR := Lib.hid (show RR = chainR (fun e k => chT nameP ts f e k m) (firstP nameP ts f k m) from hRR.trans (termP_eq nameP ts f k m))
  have hno : RR ≠ .out := by rw [hRR]; exact (enough (nm := nameP) (ts := ts) (f + 1)).2.2.1 k m (by omega)
  rw [← hRR]
  have KK := Lib.hid (fun (w' : World) (h' : Env w0 g A len cap ts k m w') (bm : Nat) (hb : w'.heap[bm]? = some (.map esT 2)) (hbg : bm ≠ g) =>
    pChainT h' hk bm esT opT opT_le (fun w' l hb => lookT w' bm l hb) hb hbg (fun f e k => chT nameP ts f e k m) (fun f k => factorP nameP ts f k m) (chT_step nameP ts m)
      (fun f k b k2 e => (forward (nm := nameP) (ts := ts) f).2.2.2.2.2.1 k m b k2 e) (fun f k e => (enough (nm := nameP) (ts := ts) f).2.2.2.2.2.1 k m (by omega)) f (firstP nameP ts f k m) ((enough (nm := nameP) (ts := ts) f).2.2.2.2.1 k m (by omega))
      (fun T k1 e => by have := (forward (nm := nameP) (ts := ts) f).2.2.2.2.1 k m T k1 e; exact ⟨this.2, by omega⟩) K1 K2)
  rw [← HRR.out] at KK
  clear K1 K2 hRR HRR
  have hmf : ∀ (fn : Fn) (first cap : Array Value) (w : World), (Instr.makeFunc fn first cap).run Tryz.prog w = .ok (.func fn first cap) w := fun _ _ _ _ => rfl
  have hmm := @run_makeMap Tryz.prog
  have u1 := fun w : World => upd_str w #[] 0 ⟨#[42]⟩ 5 rfl
  have u2 := fun w : World => upd_str w #[⟨.string ⟨#[42]⟩, .int .i64 5, 0⟩] 1 ⟨#[47]⟩ 6 rfl
  simp only [List.push_toArray, List.nil_append, List.cons_append, Nat.zero_add, Nat.reduceAdd] at u1 u2
  go_enter Tryz.func93, Tryz.ntmps93
  go_upto_region 1 with (fail)
  obtain ⟨w1, hw1⟩ : ∃ z9 : World, z9 = w.alloc (Obj.cells #[.int .i64 0, .int .i64 0, .int .i64 0, .string ⟨#[]⟩, .int .i64 0, .slice none 0 0] 29) := ⟨_, rfl⟩
  have O1 := Lib.hid (show Below w.heap.size w w1 by rw [hw1]; exact below_box _ _)
  have F1 := Lib.hid (show Blk w1 w.heap.size 29 #[.int .i64 0, .int .i64 0, .int .i64 0, .string ⟨#[]⟩, .int .i64 0, .slice none 0 0] by rw [hw1]; exact Blk.new _ _ _)
  rw [← hw1]
  clear hw1
  have HNE := Lib.hid (show some w.heap.size ≠ some g from fun e => by have := h.gl; injection e with e; omega)
  have hwr : w.heap.size ≠ g := fun e => HNE.out (by rw [e])
  have hlr : w0.heap.size ≤ w.heap.size := h.b.size
  have hgl : g < w.heap.size := h.gl
  have HV1 := Lib.hid (h.belowW O1.out)
  have HG1 := Lib.hid (grown_of (some g) O1.out)
  have hr1 : w.heap.size < w1.heap.size := F1.out.lt
  clear h
  go_wp2_with fail
  obtain ⟨w2, hw2⟩ : ∃ z9 : World, z9 = w1.alloc (Obj.map esT 2) := ⟨_, rfl⟩
  have HB2 := Lib.hid (show Below w1.heap.size w1 w2 by rw [hw2]; exact below_box _ _)
  have HBM := Lib.hid (show w2.heap[w1.heap.size]? = some (.map esT 2) by rw [hw2]; exact heap_alloc_new w1 _)
  unfold esT at hw2
  rw [← hw2]
  clear hw2 u1 u2
  have HV2 := Lib.hid (HV1.out.belowW HB2.out)
  have F2 := Lib.hid (F1.out.belowW HB2.out)
  have HG2 := Lib.hid (grown_tr HG1.out (grown_of (some g) HB2.out))
  have hbmg : w1.heap.size ≠ g := Nat.ne_of_gt HV1.out.gl
  have KC := Lib.hid (KK.out w2 HV2.out w1.heap.size HBM.out hbmg)
  have hr := hno
  obtain ⟨r, hrr⟩ : ∃ r, r = RR := ⟨_, rfl⟩
  have HE := Lib.hid hrr.symm
  rw [← hrr] at KC hr
  clear hrr
  have hgw : g < w2.heap.size := HV2.out.gl
  have hrw : w.heap.size < w2.heap.size := F2.out.lt
  cases r with
  | out => exact (hr rfl).elim
  | bad ln co er =>
    go_wp2_with fail
    refine KC.out.mono ?_
    rintro e w7 ⟨rfl, HG7⟩
    go_wp2_with fail
    rw [HE.out]
    exact ⟨rfl, exr_bad (Lib.hid (grown_tr HG2.out HG7.out))⟩
  | ok T k1 =>
    go_wp2_with fail
    refine KC.out.mono ?_
    rintro e w7 ⟨v, rfl, HX7, HG7, HV7⟩
    have F7 := Lib.hid (F2.out.grown HG7.out HNE.out)
    obtain ⟨r0, h0, r1, h1, r2, h2, r3, h3, r4, h4, r5, h5⟩ := F7.out.all6
    go_wp2_with fail
    rw [pst6 F7.out]
    have FZ := Lib.hid (F7.out.put #[.int .i64 v.h.kind, .int .i64 v.h.n, .int .i64 v.h.d, .string v.h.name, .int .i64 v.h.k, .slice v.A v.len v.cap])
    obtain ⟨z0, _, z1, _, z2, _, z3, _, z4, _, z5, _⟩ := FZ.out.all6
    refine bodyPost_ret (v := .agg #[.int .i64 v.h.kind, .int .i64 v.h.n, .int .i64 v.h.d, .string v.h.name, .int .i64 v.h.k, .slice v.A v.len v.cap]) (by simp [results, Tryz.results93, go_sem, z0, z1, z2, z3, z4, z5]) rfl ?_
    rw [HE.out]
    exact ⟨v, rfl, Lib.hid ((HX7.out.far hrw _ _).weaken (Nat.le_of_lt hrw)), Lib.hid (grown_new (Lib.hid (grown_tr HG2.out HG7.out)).out (Nat.le_refl _) _ _), Lib.hid (HV7.out.far hwr hlr _ _)⟩
end Go.Proofs.YtkjoohnndobjeaaGreatDoor
namespace Go.Proofs.YtkjoohnndobjeaaGreatDoor
open Go.RowKit Go.Fl Go.Fl.Lx Go.Fl.Nm Go.Fl.Fm Go.Fl.Rt Go.Fl.Pa
/-- What each rule does, with so much fuel. -/
structure Ruls (w0 : World) (g : Nat) (A : Option Addr) (len cap : Nat) (ts : List Tok) (f : Nat) : Prop where
  sum : ∀ k m w, k ≤ 100001 → m ≤ 100 → 8 * (ts.length - k) + 8 ≤ f → Env w0 g A len cap ts k m w → Calls Tryz.prog 48 #[.pointer (some ⟨g, 0, none⟩)] w (ExR w0 g A len cap ts m (sumP nameP ts f k m) w)
  term : ∀ k m w, k ≤ 100001 → m ≤ 100 → 8 * (ts.length - k) + 7 ≤ f → Env w0 g A len cap ts k m w → Calls Tryz.prog 93 #[.pointer (some ⟨g, 0, none⟩)] w (ExR w0 g A len cap ts m (termP nameP ts f k m) w)
  first : ∀ k m w, k ≤ 100001 → m ≤ 100 → 8 * (ts.length - k) + 6 ≤ f → Env w0 g A len cap ts k m w → Calls Tryz.prog 125 #[.pointer (some ⟨g, 0, none⟩)] w (ExR w0 g A len cap ts m (firstP nameP ts f k m) w)
  factor : ∀ k m w, k ≤ 100001 → m ≤ 100 → 8 * (ts.length - k) + 5 ≤ f → Env w0 g A len cap ts k m w → Calls Tryz.prog 126 #[.pointer (some ⟨g, 0, none⟩)] w (ExR w0 g A len cap ts m (factorP nameP ts f k m) w)
  atom : ∀ k m w, k ≤ 100001 → m ≤ 100 → 8 * (ts.length - k) + 4 ≤ f → Env w0 g A len cap ts k m w → Calls Tryz.prog 158 #[.pointer (some ⟨g, 0, none⟩)] w (ExR w0 g A len cap ts m (atomP nameP ts f k m) w)
  enc : ∀ k m w, k ≤ 100002 → m ≤ 100 → 8 * (ts.length - k) + 3 ≤ f → Env w0 g A len cap ts k m w → Calls Tryz.prog 176 #[.pointer (some ⟨g, 0, none⟩)] w (ExR w0 g A len cap ts m (encP nameP ts f k m) w)
theorem sign_lt {ts : List Tok} {k : Nat} (h : signP ts k = 1) : k < ts.length := by
  unfold signP at h
  split at h
  · rename_i h2
    exact isS_lt h2
  · cases h
theorem ruls_all (w0 : World) (g : Nat) (A : Option Addr) (len cap : Nat) (ts : List Tok) (hT : TsAt w0 A len cap ts) (hR : RX w0) (hX : FX w0) (hD : DigTs ts) : ∀ f, Ruls w0 g A len cap ts f := by
  have hlen : ts.length ≤ 100000 := by rw [hT.hl]; exact hT.hs
  intro f
  induction f using Nat.strongRecOn with
  | ind f ih =>
    cases f with
    | zero => refine ⟨?_, ?_, ?_, ?_, ?_, ?_⟩ <;> intros <;> omega
    | succ f =>
      have R := ih f (Nat.lt_succ_self f)
      obtain ⟨eS, eCS, eT, eCT, eF, eFa, eA, eE⟩ := enough (nm := nameP) (ts := ts) f
      obtain ⟨gS, gCS, gT, gCT, gF, gFa, gA, gE⟩ := forward (nm := nameP) (ts := ts) f
      refine ⟨?_, ?_, ?_, ?_, ?_, ?_⟩
      · intro k m w hk hm hf h
        exact pSum h hk hm f hf (fun w' h' => R.term k m w' hk hm (by omega) h') (fun f' k' hf' hb hk' w' h' => (ih f' (by omega)).term k' m w' hk' hm hb h')
      · intro k m w hk hm hf h
        exact pTerm h hk hm f hf (fun w' h' => R.first k m w' hk hm (by omega) h') (fun f' k' hf' hb hk' w' h' => (ih f' (by omega)).factor k' m w' hk' hm (by omega) h')
      · intro k m w hk hm hf h
        rw [firstP_eq]
        exact pFirst h (by omega) hR _ (eFa k m (by omega)) (fun w' h' => R.factor k m w' hk hm (by omega) h')
      · intro k m w hk hm hf h
        rw [factorP_eq]
        refine pFactor h (by omega) hm hR hD _ _ (fun hs => ?_) (eA k m (by omega)) (fun T k1 e => by have := gA k m T k1 e; omega) (fun hs hm' w' h' => ?_) (fun w' h' => R.atom k m w' hk hm (by omega) h')
        · have := sign_lt hs
          exact eFa (k + 1) (m + 1) (by omega)
        · have := sign_lt hs
          exact R.factor (k + 1) (m + 1) w' (by omega) (by omega) (by omega) h'
      · intro k m w hk hm hf h
        rw [atomP_eq]
        exact pAtom h (by omega) hR hX _ _ (eE k m (by omega)) (eE (k + 1) m (by omega)) (fun w' h' => R.enc k m w' (by omega) hm (by omega) h') (fun w' h' => R.enc (k + 1) m w' (by omega) hm (by omega) h')
      · intro k m w hk hm hf h
        rw [encP_eq]
        refine pEnclosed h (by omega) hm _ (fun hs => ?_) (fun T k1 e => by have := gS (k + 1) (m + 1) T k1 e; omega) (fun hs hm' w' h' => ?_)
        · have := isS_lt hs
          exact eS (k + 1) (m + 1) (by omega)
        · have := isS_lt hs
          exact R.sum (k + 1) (m + 1) w' (by omega) (by omega) (by omega) h'
/-- A sum, at the first token. -/
theorem sum_any (w0 w : World) (g : Nat) (A : Option Addr) (len cap : Nat) (ts : List Tok) (hR : RX w0) (hX : FX w0) (hD : DigTs ts) (h : Env w0 g A len cap ts 0 0 w) (f : Nat) (hf : 8 * ts.length + 8 ≤ f) :
    Calls Tryz.prog 48 #[.pointer (some ⟨g, 0, none⟩)] w (ExR w0 g A len cap ts 0 (sumP nameP ts f 0 0) w) :=
  (ruls_all w0 g A len cap ts h.t hR hX hD f).sum 0 0 w (by omega) (by omega) (by omega) h
end Go.Proofs.YtkjoohnndobjeaaGreatDoor
namespace Go.Fl.Lx
open Go.Fl

theorem takeWhile_run (t r : List UInt8) (hall : ∀ c ∈ t, inRun c = true) (hr : ∀ c, r.head? = some c → inRun c = false) : (t ++ r).takeWhile inRun = t ∧ (t ++ r).dropWhile inRun = r := by
  induction t with
  | nil =>
    cases r with
    | nil => simp
    | cons c r =>
      have := hr c rfl
      simp [this]
  | cons c t ih =>
    have hc := hall c (by simp)
    have := ih (fun x hx => hall x (by simp [hx]))
    simp [hc, this]

theorem kind1 (l : List UInt8) (h : (kindOf l).1 = 1) : kindOf l = (1, 0) ∧ wordP l = true ∧ l.length ≤ 20 := by
  rw [kindOf_ref] at h ⊢
  by_cases hw : wordP l = true
  · rw [if_pos hw] at h ⊢
    by_cases h2 : 20 < l.length
    · rw [if_pos h2] at h; simp at h
    · rw [if_neg h2]; exact ⟨rfl, hw, by omega⟩
  · rw [if_neg hw] at h
    by_cases h0 : numN l = 0
    · rw [if_pos h0] at h; simp at h
    · rw [if_neg h0] at h
      by_cases h18 : 18 < numN l
      · rw [if_pos h18] at h; simp at h
      · rw [if_neg h18] at h; simp at h
theorem kind2 (l : List UInt8) (h : (kindOf l).1 = 2) : kindOf l = (2, 0) ∧ 0 < numN l := by
  rw [kindOf_ref] at h ⊢
  by_cases hw : wordP l = true
  · rw [if_pos hw] at h
    by_cases h2 : 20 < l.length
    · rw [if_pos h2] at h; simp at h
    · rw [if_neg h2] at h; simp at h
  · rw [if_neg hw] at h ⊢
    by_cases h0 : numN l = 0
    · rw [if_pos h0] at h; simp at h
    · rw [if_neg h0] at h ⊢
      by_cases h18 : 18 < numN l
      · rw [if_pos h18] at h; simp at h
      · rw [if_neg h18]; exact ⟨rfl, by omega⟩
theorem kind_ok (l : List UInt8) : (kindOf l).2 = 0 ↔ (kindOf l).1 = 1 ∨ (kindOf l).1 = 2 := by
  rw [kindOf_ref]
  by_cases hw : wordP l = true
  · rw [if_pos hw]
    by_cases h2 : 20 < l.length
    · rw [if_pos h2]; simp
    · rw [if_neg h2]; simp
  · rw [if_neg hw]
    by_cases h0 : numN l = 0
    · rw [if_pos h0]; simp
    · rw [if_neg h0]
      by_cases h18 : 18 < numN l
      · rw [if_pos h18]; simp
      · rw [if_neg h18]; simp

theorem word_run (l : List UInt8) (h : wordP l = true) : l ≠ [] ∧ ∀ c ∈ l, inRun c = true := by
  unfold wordP at h
  rw [Bool.and_eq_true, List.all_eq_true] at h
  refine ⟨fun e => by subst e; exact absurd h.1 (by decide), fun c hc => ?_⟩
  have h1 := h.2 c hc
  have := u8_all (p := fun c => !inWord c || inRun c) (by decide +kernel) c
  rw [h1] at this
  simpa using this
theorem num_all (l : List UInt8) (h : 0 < numN l) : l.all inNum = true := by
  rw [List.all_eq_true]
  intro c hc
  cases hb : inNum c with
  | true => rfl
  | false => have := numN_bad l c hc hb; omega
end Go.Fl.Lx
namespace Go.Fl.Lx
open Go.Fl.Rt (read1 digs cutB dval make MX)
/-- What a token of a text is. -/
def tokOk (t : Tok) : Prop := (t.kind = 3 ∧ ∃ c, t.text = [c] ∧ isSym c = true) ∨ ((t.kind = 1 ∨ t.kind = 2) ∧ (kindOf t.text).1 = t.kind)
theorem pre_mem {t : Tok} {r : Res} {ts : List Tok} (h : pre [t] r = .ok ts) : ∃ us, r = .ok us ∧ ts = t :: us := by
  cases r with
  | error e => cases h
  | ok us => exact ⟨us, rfl, by injection h with h; exact h.symm⟩
theorem split_toks : ∀ (n : Nat) (l : List UInt8) (p : Nat × Nat) (ts : List Tok), l.length ≤ n → split l p = .ok ts → ∀ t ∈ ts, tokOk t := by
  intro n
  induction n with
  | zero =>
    intro l p ts hn h
    obtain rfl : l = [] := List.eq_nil_of_length_eq_zero (by omega)
    rw [split_nil] at h
    injection h with h
    subst h
    intro t ht
    cases ht
  | succ n ih =>
    intro l p ts hn h
    cases l with
    | nil =>
      rw [split_nil] at h
      injection h with h
      subst h
      intro t ht
      cases ht
    | cons c r =>
      have hr : r.length ≤ n := by simp at hn; omega
      by_cases hb : isBlank c = true
      · rw [split_blank c r p hb] at h
        exact ih r _ ts hr h
      · by_cases hs : isSym c = true
        · rw [split_sym c r p hs] at h
          obtain ⟨us, h1, rfl⟩ := pre_mem h
          intro t ht
          rcases List.mem_cons.1 ht with rfl | ht
          · exact .inl ⟨rfl, c, rfl, hs⟩
          · exact ih r _ us hr h1 t ht
        · by_cases hi : inRun c = true
          · by_cases hk : (kindOf (c :: r.takeWhile inRun)).2 = 0
            · rw [split_run c r p hi hk] at h
              obtain ⟨us, h1, rfl⟩ := pre_mem h
              intro t ht
              rcases List.mem_cons.1 ht with rfl | ht
              · exact .inr ⟨(kind_ok _).1 hk, rfl⟩
              · exact ih _ _ us (Nat.le_trans (dropWhile_le r) hr) h1 t ht
            · rw [split_run_err c r p hi hk] at h
              cases h
          · by_cases h35 : c = 35
            · subst h35
              rw [split_hash] at h
              exact ih _ _ ts (Nat.le_trans (dropWhile_le r) hr) h
            · rw [split_bad c r p (by simpa using hb) (by simpa using hs) (by simpa using hi) h35] at h
              cases h
theorem num_le (l : List UInt8) (h : (kindOf l).1 = 2) : numN l ≤ 18 := by
  unfold kindOf at h
  split at h
  · cases h
  · rename_i h1
    simp only [Bool.or_eq_true, decide_eq_true_eq, not_or] at h1
    omega
theorem num_len (l : List UInt8) (h : 0 < numN l) : l.length ≤ numN l + 1 := by
  unfold numN at h ⊢
  split at h
  · rename_i hdw
    split at h
    · rename_i hdg
      rw [if_pos hdg]
      omega
    · omega
  · rename_i x b hdw
    split at h
    · rename_i hdg
      rw [if_pos hdg]
      have := congrArg List.length (List.takeWhile_append_dropWhile (p := fun c : UInt8 => c != 46) (l := l))
      rw [hdw, List.length_append, List.length_cons] at this
      omega
    · omega
theorem tok_len {t : Tok} (h : tokOk t) : t.text.length ≤ 20 := by
  rcases h with ⟨_, c, hc, _⟩ | ⟨hk | hk, hkk⟩
  · rw [hc]; simp
  · exact (kind1 _ (hkk.trans hk)).2.2
  · have h1 := num_len _ (kind2 _ (hkk.trans hk)).2
    have h2 := num_le _ (hkk.trans hk)
    omega
end Go.Fl.Lx
namespace Go.Fl.Lx

def shiftTok (d : Nat) (t : Tok) : Tok := { t with line := t.line + d }
/-- A result further down. -/
def shift (d : Nat) : Res → Res
  | .error (ln, co, er) => .error (ln + d, co, er)
  | .ok ts => .ok (ts.map (shiftTok d))
/-- A result, and then what follows at a place. -/
def andThen (r : Res) (s : Res) : Res :=
  match r with
  | .error e => .error e
  | .ok ts => pre ts s
theorem adv_count (a : List UInt8) (p : Nat × Nat) : (adv a p).1 = p.1 + a.count 10 := by
  induction a generalizing p with
  | nil => rfl
  | cons c a ih =>
    have e : adv (c :: a) p = adv a (step1 p c) := rfl
    rw [e, ih, List.count_cons]
    unfold step1
    by_cases h : c = 10
    · subst h; simp; omega
    · rw [if_neg (by simpa using h), if_neg (by simpa using h)]; simp

end Go.Fl.Lx
namespace Go.Fl.Pa
open Go.Lib Go.Fl.Lx Go.Fl.Fm Go.Fl.Rt
/-- From the k-th token on stand these. -/
def Mt (ts : List Tok) : Nat → List (Nat × List UInt8) → Prop
  | _, [] => True
  | k, x :: l => ((tk ts k).kind = x.1 ∧ (tk ts k).text = x.2) ∧ Mt ts (k + 1) l
theorem mt_app {ts : List Tok} : ∀ {a b : List (Nat × List UInt8)} {k : Nat}, Mt ts k (a ++ b) ↔ Mt ts k a ∧ Mt ts (k + a.length) b
  | [], b, k => by simp [Mt]
  | x :: a, b, k => by
    show (((tk ts k).kind = x.1 ∧ (tk ts k).text = x.2) ∧ Mt ts (k + 1) (a ++ b)) ↔ (((tk ts k).kind = x.1 ∧ (tk ts k).text = x.2) ∧ Mt ts (k + 1) a) ∧ _
    rw [mt_app (a := a), List.length_cons, show k + (a.length + 1) = k + 1 + a.length by omega, and_assoc, and_assoc, and_assoc]
/-- The text of a function's name, an operation's sign; the tokens of a number, of what stands in parentheses, of a tree. -/
def opC (k : Int) : List UInt8 := if k = 3 then [43] else if k = 4 then [45] else if k = 5 then [42] else [47]
def numT (n d : Int) : List (Nat × List UInt8) := (if n < 0 then [(3, [45])] else []) ++ ((2, decDigits n.natAbs) :: (if d = 1 then [] else [(3, [47]), (2, decDigits d.natAbs)]))
def parT (b : Bool) (l : List (Nat × List UInt8)) : List (Nat × List UInt8) := if b then (3, [40]) :: (l ++ [(3, [41])]) else l
def tkn : Nat → TE → List (Nat × List UInt8)
  | 0, _ => []
  | f + 1, T =>
    if T.h.kind = 1 then numT T.h.n T.h.d
    else if T.h.kind = 2 then [(1, T.h.name.data.toList)]
    else if T.h.kind ≤ 6 then parT (need1 T.h.kind T.a.h T.b.h) (tkn f T.a) ++ ((3, opC T.h.kind) :: parT (need2 T.h.kind T.b.h) (tkn f T.b))
    else if T.h.kind = 7 then (3, [45]) :: parT (needM T.a.h) (tkn f T.a)
    else if T.h.kind = 8 then parT (needW T.a.h) (tkn f T.a) ++ [(3, [94]), (2, itoa T.h.k)]
    else (1, fnK T.h.kind) :: (3, [40]) :: (tkn f T.a ++ [(3, [41])])
/-- From some fuel on. -/
def Ev (P : Nat → Prop) : Prop := ∃ F0, ∀ F, F0 ≤ F → P F
theorem ev_s0 {S : Nat → Prop} (h : ∀ F, S (F + 1)) : Ev S := ⟨1, fun F hF => by
  obtain ⟨G, rfl⟩ : ∃ G, F = G + 1 := ⟨F - 1, by omega⟩
  exact h G⟩
theorem ev_s1 {P S : Nat → Prop} (h : ∀ F, P F → S (F + 1)) (hp : Ev P) : Ev S := by
  obtain ⟨F0, h0⟩ := hp
  refine ⟨F0 + 1, fun F hF => ?_⟩
  obtain ⟨G, rfl⟩ : ∃ G, F = G + 1 := ⟨F - 1, by omega⟩
  exact h G (h0 G (by omega))
theorem ev_s2 {P Q S : Nat → Prop} (h : ∀ F, P F → Q F → S (F + 1)) (hp : Ev P) (hq : Ev Q) : Ev S := by
  obtain ⟨F0, h0⟩ := hp
  obtain ⟨F1, h1⟩ := hq
  refine ⟨F0 + F1 + 1, fun F hF => ?_⟩
  obtain ⟨G, rfl⟩ : ∃ G, F = G + 1 := ⟨F - 1, by omega⟩
  exact h G (h0 G (by omega)) (h1 G (by omega))
section
variable {nm : List UInt8 → Bool} {ts : List Tok}
theorem isS_no3 {k : Nat} {s : List UInt8} (h : (tk ts k).kind ≠ 3) : isS false ts k s = false := by
  unfold isS
  rw [show ((tk ts k).kind == 3) = false from beq_eq_false_iff_ne.2 h]
  simp
theorem isS_sym {k : Nat} {s t : List UInt8} (h : (tk ts k).kind = 3 ∧ (tk ts k).text = t) : isS false ts k s = (t == s) := by
  unfold isS
  rw [h.1, h.2]
  simp
theorem sign0 {k : Nat} (h : isS false ts k [45] = false) : signP ts k = 0 := by unfold signP; rw [h]; rfl
theorem sign1 {k : Nat} (h : isS false ts k [45] = true) : signP ts k = 1 := by unfold signP; rw [h]; rfl
theorem int_kind {k : Nat} (h : (tk ts k).kind ≠ 2) : integerP ts k = false := by
  unfold integerP
  rw [show ((tk ts k).kind == 2) = false from beq_eq_false_iff_ne.2 h]
  rfl
theorem int_dec {k v : Nat} (h : (tk ts k).kind = 2 ∧ (tk ts k).text = decDigits v) : integerP ts k = true := by
  unfold integerP
  rw [h.1, h.2, show (decDigits v).contains 46 = false from by
    rw [Bool.eq_false_iff]
    intro h2
    exact dec_no v (c := 46) (by decide) (List.contains_iff_mem.1 h2)]
  rfl
/-- The first token of parentheses. -/
theorem par_first {l : List (Nat × List UInt8)} {k : Nat} (h : Mt ts k (parT true l)) : (tk ts k).kind = 3 ∧ (tk ts k).text = [40] := h.1
theorem numE_eq {T : TE} (hn : nodeB nm T.h T.l.length = true) (hk : T.h.kind = 1) : T = numE (T.h.n, T.h.d) := by
  obtain ⟨⟨kd, n, d, s, k⟩, l⟩ := T
  simp only [TE.h, TE.l] at hn hk ⊢
  unfold nodeB at hn
  rw [if_pos (by rw [hk]; rfl)] at hn
  simp only [Bool.and_eq_true, beq_iff_eq] at hn
  have hl : l = [] := List.eq_nil_of_length_eq_zero (by omega)
  have hs : s = ⟨#[]⟩ := by
    have h := hn.1.1.2
    rw [ByteArray.toList_eq, List.isEmpty_iff] at h
    apply ByteArray.ext
    exact Array.toList_inj.1 h
  unfold numE
  rw [hk, hl, hs, hn.1.2]
theorem name_empty {s : ByteArray} (h : s.toList.isEmpty = true) : s = ⟨#[]⟩ := by
  rw [ByteArray.toList_eq, List.isEmpty_iff] at h
  apply ByteArray.ext
  exact Array.toList_inj.1 h
theorem varE_eq {T : TE} (hn : nodeB nm T.h T.l.length = true) (hk : T.h.kind = 2) : T = varE T.h.name.data.toList ∧ nm T.h.name.data.toList = true := by
  obtain ⟨⟨kd, n, d, s, k⟩, l⟩ := T
  simp only [TE.h, TE.l] at hn hk ⊢
  unfold nodeB at hn
  rw [if_neg (by rw [hk]; simp), if_pos (by rw [hk]; rfl)] at hn
  simp only [Bool.and_eq_true, beq_iff_eq] at hn
  have hl : l = [] := List.eq_nil_of_length_eq_zero (by omega)
  refine ⟨?_, hn.1.1.2⟩
  unfold varE
  rw [hk, hl, hn.1.2, hn.1.1.1.1, hn.1.1.1.2]
theorem powE_eq {T : TE} (hn : nodeB nm T.h T.l.length = true) (hk : T.h.kind = 8) : T = powE T.h.k.toNat T.a ∧ 0 ≤ T.h.k ∧ T.h.k ≤ 16 := by
  obtain ⟨⟨kd, n, d, s, k⟩, l⟩ := T
  simp only [TE.h, TE.l] at hn hk ⊢
  unfold nodeB at hn
  rw [if_neg (by rw [hk]; simp), if_neg (by rw [hk]; simp), if_pos (by rw [hk]; rfl)] at hn
  simp only [Bool.and_eq_true, beq_iff_eq, decide_eq_true_eq] at hn
  obtain ⟨x, hl⟩ := list1 (l := l) (by omega)
  subst hl
  refine ⟨?_, hn.1.1.2, hn.1.2⟩
  unfold powE
  rw [hk, name_empty hn.1.1.1.2, hn.1.1.1.1.1, hn.1.1.1.1.2, Int.toNat_of_nonneg hn.1.1.2]
  rfl
theorem op_fields {T : TE} (hn : nodeB nm T.h T.l.length = true) (h1 : T.h.kind ≠ 1) (h2 : T.h.kind ≠ 2) (h8 : T.h.kind ≠ 8) : T = opE T.h.kind T.l := by
  obtain ⟨⟨kd, n, d, s, k⟩, l⟩ := T
  simp only [TE.h, TE.l] at hn h1 h2 h8 ⊢
  unfold nodeB at hn
  rw [if_neg (by rw [beq_iff_eq]; exact h1), if_neg (by rw [beq_iff_eq]; exact h2), if_neg (by rw [beq_iff_eq]; exact h8)] at hn
  simp only [Bool.and_eq_true, beq_iff_eq] at hn
  unfold opE
  rw [name_empty hn.1.1.2, hn.1.1.1.1, hn.1.1.1.2, hn.1.2]
end
end Go.Fl.Pa
namespace Go.Fl.Pa
open Go.Lib Go.Fl.Lx Go.Fl.Fm Go.Fl.Rt
theorem split_bd : ∀ (n : Nat) (l : List UInt8) (p : Nat × Nat) (ts : List Tok), l.length ≤ n → split l p = .ok ts → ts.length ≤ l.length ∧ ∀ t ∈ ts, p.1 ≤ t.line ∧ t.line ≤ p.1 + l.length ∧ t.col ≤ p.2 + l.length := by
  intro n
  induction n with
  | zero =>
    intro l p ts hn h
    obtain rfl : l = [] := List.eq_nil_of_length_eq_zero (by omega)
    rw [split_nil] at h
    injection h with h
    subst h
    exact ⟨Nat.le_refl _, fun t ht => by cases ht⟩
  | succ n ih =>
    intro l p ts hn h
    cases l with
    | nil =>
      rw [split_nil] at h
      injection h with h
      subst h
      exact ⟨Nat.le_refl _, fun t ht => by cases ht⟩
    | cons c r =>
      have hr : r.length ≤ n := by simp at hn; omega
      have h1 := step1_bound p c
      have h1' : p.1 ≤ (step1 p c).1 := by unfold step1; split <;> simp only <;> omega
      rw [List.length_cons]
      by_cases hb : isBlank c = true
      · rw [split_blank c r p hb] at h
        obtain ⟨h2, h3⟩ := ih r _ ts hr h
        exact ⟨by omega, fun t ht => by have := h3 t ht; omega⟩
      · by_cases hs : isSym c = true
        · rw [split_sym c r p hs] at h
          obtain ⟨us, h4, rfl⟩ := pre_mem h
          obtain ⟨h2, h3⟩ := ih r _ us hr h4
          rw [List.length_cons]
          refine ⟨by omega, fun t ht => ?_⟩
          rcases List.mem_cons.1 ht with rfl | ht
          · exact ⟨Nat.le_refl _, Nat.le_add_right _ _, Nat.le_add_right _ _⟩
          · have := h3 t ht; omega
        · by_cases hi : inRun c = true
          · by_cases hk : (kindOf (c :: r.takeWhile inRun)).2 = 0
            · rw [split_run c r p hi hk] at h
              obtain ⟨us, h4, rfl⟩ := pre_mem h
              have hg := adv_grow (c :: r.takeWhile inRun) p
              have hc := adv_count (c :: r.takeWhile inRun) p
              have hlen : r.length = (r.takeWhile inRun).length + (r.dropWhile inRun).length := by
                rw [← List.length_append, List.takeWhile_append_dropWhile]
              rw [List.length_cons] at hg
              obtain ⟨h2, h3⟩ := ih _ _ us (by omega) h4
              rw [List.length_cons]
              refine ⟨by omega, fun t ht => ?_⟩
              rcases List.mem_cons.1 ht with rfl | ht
              · exact ⟨Nat.le_refl _, Nat.le_add_right _ _, Nat.le_add_right _ _⟩
              · have := h3 t ht; omega
            · rw [split_run_err c r p hi hk] at h
              cases h
          · by_cases h35 : c = 35
            · subst h35
              rw [split_hash] at h
              have hg := adv_grow (35 :: r.takeWhile (· != 10)) p
              have hc := adv_count (35 :: r.takeWhile (· != 10)) p
              have hlen : r.length = (r.takeWhile (· != 10)).length + (r.dropWhile (· != 10)).length := by
                rw [← List.length_append, List.takeWhile_append_dropWhile]
              rw [List.length_cons] at hg
              obtain ⟨h2, h3⟩ := ih _ _ ts (by omega) h
              exact ⟨by omega, fun t ht => by have := h3 t ht; omega⟩
            · rw [split_bad c r p (by simpa using hb) (by simpa using hs) (by simpa using hi) h35] at h
              cases h
/-- The tokens of a text. -/
theorem lex_facts {l : List UInt8} {ts : List Tok} (h : lexRes l = .ok ts) : l.length ≤ 65536 ∧ ts.length ≤ 65536 ∧ ∀ t ∈ ts, tokOk t ∧ 1 ≤ t.line ∧ t.line ≤ 65537 ∧ t.col ≤ 65537 := by
  unfold lexRes at h
  split at h
  · cases h
  · have h1 := split_bd l.length l (1, 1) ts (Nat.le_refl _) h
    have h2 := split_toks l.length l (1, 1) ts (Nat.le_refl _) h
    exact ⟨by omega, by omega, fun t ht => ⟨h2 t ht, by have := h1.2 t ht; simp only at this; omega⟩⟩
theorem lex_err : ∀ (n : Nat) (l : List UInt8) (p : Nat × Nat) (e : Nat × Nat × Nat), l.length ≤ n → split l p = .error e → e.2.2 ≠ 0 ∧ e.2.2 ≤ 5 ∧ e.1 ≤ p.1 + l.length ∧ e.2.1 ≤ p.2 + l.length := by
  intro n
  induction n with
  | zero =>
    intro l p e hn h
    obtain rfl : l = [] := List.eq_nil_of_length_eq_zero (by omega)
    rw [split_nil] at h
    cases h
  | succ n ih =>
    intro l p e hn h
    cases l with
    | nil => rw [split_nil] at h; cases h
    | cons c r =>
      have hr : r.length ≤ n := by simp at hn; omega
      have h1 := step1_bound p c
      have preE : ∀ {t : Tok} {r : Res} {e : Nat × Nat × Nat}, pre [t] r = .error e → r = .error e := fun {t r e} h => by
        cases r with
        | error e => exact h
        | ok us => cases h
      rw [List.length_cons]
      by_cases hb : isBlank c = true
      · rw [split_blank c r p hb] at h
        have := ih r _ e hr h
        omega
      · by_cases hs : isSym c = true
        · rw [split_sym c r p hs] at h
          have := ih r _ e hr (preE h)
          omega
        · by_cases hi : inRun c = true
          · have hg := adv_grow (c :: r.takeWhile inRun) p
            have hlen : r.length = (r.takeWhile inRun).length + (r.dropWhile inRun).length := by
              rw [← List.length_append, List.takeWhile_append_dropWhile]
            rw [List.length_cons] at hg
            by_cases hk : (kindOf (c :: r.takeWhile inRun)).2 = 0
            · rw [split_run c r p hi hk] at h
              have := ih _ _ e (by omega) (preE h)
              omega
            · rw [split_run_err c r p hi hk] at h
              injection h with h
              subst h
              have h5 : (kindOf (c :: r.takeWhile inRun)).2 ≤ 5 := by
                unfold kindOf
                split
                · exact Nat.le_refl _
                · split
                  · exact Nat.zero_le _
                  · split <;> simp
              exact ⟨hk, h5, Nat.le_add_right _ _, Nat.le_add_right _ _⟩
          · by_cases h35 : c = 35
            · subst h35
              rw [split_hash] at h
              have hg := adv_grow (35 :: r.takeWhile (· != 10)) p
              have hlen : r.length = (r.takeWhile (· != 10)).length + (r.dropWhile (· != 10)).length := by
                rw [← List.length_append, List.takeWhile_append_dropWhile]
              rw [List.length_cons] at hg
              have := ih _ _ e (by omega) h
              omega
            · rw [split_bad c r p (by simpa using hb) (by simpa using hs) (by simpa using hi) h35] at h
              injection h with h
              subst h
              exact ⟨by simp, by simp, Nat.le_add_right _ _, Nat.le_add_right _ _⟩
theorem lexRes_err {l : List UInt8} {ln co er : Nat} (h : lexRes l = .error (ln, co, er)) : er ≠ 0 ∧ er ≤ 5 ∧ ln ≤ 65537 ∧ co ≤ 65537 := by
  unfold lexRes at h
  split at h
  · injection h with h
    injection h with h1 h2
    injection h2 with h2 h3
    omega
  · have := lex_err l.length l (1, 1) _ (Nat.le_refl _) h
    simp only at this
    omega
end Go.Fl.Pa
