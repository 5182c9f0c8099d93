/-
  The walk of tree.Size: a range over a function.
-/
import Derived.Test.YtkjoohnndobjeaaGreatDoorPdC
import Derived.Test.YtkjoohnndobjeaaGreatDoorQN
set_option linter.unusedVariables false
namespace Go.Proofs.YtkjoohnndobjeaaGreatDoor
open Go.RowKit Go.Fl Go.Fl.Fm Go.Fl.Rt Go.Fl.Pa
attribute [local go_sem] Oper.semAt_some
/-- What a round that counts keeps: all cells but those of block b. -/
structure KpS (m b : Nat) (A B : World) : Prop where
  lo : m ≤ A.heap.size → Below m A B
  sz : A.heap.size ≤ B.heap.size
  cs : ∀ p o, p ≠ b → A.heap[p]? = some o → o.isCells = true → B.heap[p]? = some o
theorem KpS.tr {m b : Nat} {A B C : World} (h : KpS m b A B) (k : KpS m b B C) : KpS m b A C :=
  ⟨fun hm => (h.lo hm).trans (k.lo (Nat.le_trans hm h.sz)), Nat.le_trans h.sz k.sz, fun p o hp ho hc => k.cs p o hp (h.cs p o hp ho hc) hc⟩
theorem KpS.of_none {m b : Nat} {A B : World} (h : A.grownBy B none) : KpS m b A B :=
  ⟨fun hm => ⟨h.os, h.tape, h.output, h.size, fun k hk => h.block k (Nat.lt_of_lt_of_le hk hm) (by simp)⟩, h.size, fun p o _ ho _ => by rw [h.block p (Array.getElem?_eq_some_iff.1 ho).1 (by simp)]; exact ho⟩
theorem KpS.put {m b : Nat} (W : World) (l : Nat) (o o' : Obj) (hl : m ≤ l) (ho : W.heap[l]? = some o) (hc : o.isCells = false) : KpS m b W (W.putObj l o') := by
  have hg := grownBy_putObj' W l o'
  refine ⟨fun hm => ⟨hg.os, hg.tape, hg.output, hg.size, fun k hk => ?_⟩, hg.size, fun p q _ hq hqc => ?_⟩
  · exact World.putObj_heap_other (by omega)
  · have : p ≠ l := fun e => by
      subst e
      rw [ho] at hq
      injection hq with hq
      subst hq
      rw [hc] at hqc
      cases hqc
    rw [World.putObj_heap_other this]
    exact hq
theorem KpS.set {m b : Nat} (W : World) (v : Value) (hm : m ≤ b) : KpS m b W (W.setCell ⟨b, 0, none⟩ v) :=
  ⟨fun _ => (Below.refl m W).setCell (p := ⟨b, 0, none⟩) hm v, by simp [World.setCell], fun p o hp ho _ => (Below.heap_setCell W ⟨b, 0, none⟩ v p hp).trans ho⟩
theorem ye_s {J Jx : List Nd → World → Prop} {B m b s0 : Nat} (hJ : AbidesFrom B J) (hb : b < s0) : YE (fun pre W => J pre W ∧ s0 ≤ W.heap.size) Jx (KpS m b) (fun p _ => p ≠ b) where
  tr h k := h.tr k
  new h hg := ⟨hJ _ _ _ none h.1 hg (fun r e => by cases e), Nat.le_trans h.2 hg.size⟩
  kn h hg := KpS.of_none hg
  pn h hg hp := by have := h.2; omega
  pv h hp hv := ⟨hv, fun o ho hc => h.cs _ o hv ho hc⟩
  sz h := h.sz
theorem wide_room (k : Nat) : Fence.wide.room k := fun d h => by cases h
theorem round_wide {m n : Nat} {P : Program} {l : Nat} {f : FuncId} {tmps : Array Value} {assign body : Code} {w : World} {R : Ending → World → Prop}
    (h : RoundIn Fence.wide m P l f tmps assign body w R) : RoundIn Fence.wide n P l f tmps assign body w R := ⟨h.1, fun c cs _ => h.2 c cs (wide_room _)⟩
theorem yield_wide {m : Nat} (n : Nat) {P : Program} {l : Nat} {args : Array Value} {W : World} {R : Ending → World → Prop} (h : YieldAt Fence.wide m P l args W R) : YieldAt Fence.wide n P l args W R := by
  obtain ⟨fn, tmps, assign, body, hy, hR⟩ := h
  exact ⟨fn, tmps, assign, body, hy, round_wide hR⟩
set_option maxHeartbeats 4000000 in
set_option maxRecDepth 100000 in
/-- The iterator, at a valid tree that lies at block eb. -/
theorem it_any {J Jx : List Nd → World → Prop} {m b l eb : Nat} (T : TE) (v : Nd) (W : World) (hok : okE T = true) (hin : InE W T v) (hJ : AbidesFrom W.heap.size J) (hb : b < W.heap.size) (he : Blk W eb 29 v.cells.toArray) (h0 : J [] W)
    (hY : ∀ k pre (x : Nd) W1, J pre W1 → pre.length < cR 20 T → YieldAt Fence.wide k Tryz.prog l #[x.val] W1 fun e W' => (e = .returned (.bool true) ∧ J (pre ++ [x]) W' ∧ KpS m b W1 W') ∨ (e = .returned (.bool false) ∧ Jx (pre ++ [x]) W')) :
    Calls Tryz.prog 95 #[.func (.yield l) #[] #[], .pointer (some ⟨eb, 0, none⟩)] W (fun e W' => (∃ v, e = .returned v) ∧ ((∃ ys : List Nd, ys.map Nd.h = preT 20 T ∧ J ys W') ∨ (∃ q, True ∧ Jx q W'))) := by
  obtain ⟨s0, hs0⟩ : ∃ s, s = W.heap.size := ⟨_, rfl⟩
  have YEH := Lib.hid (ye_s (m := m) (Jx := Jx) hJ (show b < s0 by omega))
  have HC := Lib.hid (okE_iff.1 hok)
  have WK := Lib.hid (wk_any YEH.out (l := l) (N := cR 20 T) (fun k pre x W1 h1 h2 => YieldAt.mono (hY k pre x W1 h1.1 h2) (fun e W' h => h.elim (fun h => .inl ⟨h.1, ⟨h.2.1, Nat.le_trans h1.2 h.2.2.sz⟩, h.2.2⟩) .inr)) 20)
  have HIN := Lib.hid hin
  have HJ0 := Lib.hid h0
  have HE := Lib.hid he
  have HOK := Lib.hid hok
  have HS0 := Lib.hid hs0
  clear hin hJ he h0 hY hok hs0
  obtain ⟨⟨kd, n, d, nm, k⟩, A, len, cap⟩ := v
  have p0 : W.cell? ⟨eb, 0, none⟩ = some (.int .i64 kd) := HE.out.cell 0
  have p1 : W.cell? ⟨eb, 1, none⟩ = some (.int .i64 n) := HE.out.cell 1
  have p2 : W.cell? ⟨eb, 2, none⟩ = some (.int .i64 d) := HE.out.cell 2
  have p3 : W.cell? ⟨eb, 3, none⟩ = some (.string nm) := HE.out.cell 3
  have p4 : W.cell? ⟨eb, 4, none⟩ = some (.int .i64 k) := HE.out.cell 4
  have p5 : W.cell? ⟨eb, 5, none⟩ = some (.slice A len cap) := HE.out.cell 5
  go_enter Tryz.func95, Tryz.ntmps95
  go_wp2_with fail
  refine (show Calls Tryz.prog 49 #[.agg #[.int .i64 kd, .int .i64 n, .int .i64 d, .string nm, .int .i64 k, .slice A len cap]] W _ from eValid_p T ⟨⟨kd, n, d, nm, k⟩, A, len, cap⟩ W HIN.out).mono ?_
  rw [HOK.out]
  rintro e w1 ⟨rfl, HB1⟩
  have HE1 := Lib.hid (HE.out.belowW HB1.out)
  clear p0 p1 p2 p3 p4 p5
  have p0 : w1.cell? ⟨eb, 0, none⟩ = some (.int .i64 kd) := HE1.out.cell 0
  have p1 : w1.cell? ⟨eb, 1, none⟩ = some (.int .i64 n) := HE1.out.cell 1
  have p2 : w1.cell? ⟨eb, 2, none⟩ = some (.int .i64 d) := HE1.out.cell 2
  have p3 : w1.cell? ⟨eb, 3, none⟩ = some (.string nm) := HE1.out.cell 3
  have p4 : w1.cell? ⟨eb, 4, none⟩ = some (.int .i64 k) := HE1.out.cell 4
  have p5 : w1.cell? ⟨eb, 5, none⟩ = some (.slice A len cap) := HE1.out.cell 5
  go_wp2_with fail
  refine (show Calls Tryz.prog 97 #[.agg #[.int .i64 kd, .int .i64 n, .int .i64 d, .string nm, .int .i64 k, .slice A len cap]] w1 _ from eclone_any 20 T ⟨⟨kd, n, d, nm, k⟩, A, len, cap⟩ w1 (HIN.out.go HB1.out) HC.out (Nat.le_refl _)).mono ?_
  rintro e w2 ⟨v2, rfl, HX2, HB2⟩
  have hs1 : W.heap.size ≤ w1.heap.size := HB1.out.size
  have hs2 : w1.heap.size ≤ w2.heap.size := HB2.out.size
  have HT2 := Lib.hid (show Tr (fun p _ => p ≠ b) w2 T v2 from ⟨InA.weaken (InA.lt HX2.out) (fun p hp => ⟨hp.2, by have := hp.1; omega⟩)⟩)
  have HJ2 := Lib.hid (YEH.out.new ⟨HJ0.out, by rw [HS0.out]; exact Nat.le_refl _⟩ (grown_nn (HB1.out.trans (HB2.out.mono hs1))))
  go_wp2_with fail
  refine (WK.out T v2 [] w2 HT2.out HC.out (Nat.le_refl _) HJ2.out (by simp)).mono ?_
  intro e w3 hP
  rcases hP with ⟨rfl, ys, h1, h2, h3⟩ | ⟨rfl, q, h1⟩
  · have HYS := Lib.hid h1
    have HJ3 := Lib.hid h2.1
    clear h1 h2 h3
    go_wp2_with fail
    go_end0
    exact ⟨⟨_, rfl⟩, .inl ⟨ys, HYS.out, HJ3.out⟩⟩
  · have HQ := Lib.hid h1
    clear h1
    go_wp2_with fail
    go_end0
    exact ⟨⟨_, rfl⟩, .inr ⟨_, trivial, HQ.out⟩⟩
set_option maxHeartbeats 1000000 in
theorem walk_any (v : Nd) (w : World) : Calls Tryz.prog 51 #[v.val] w (fun e w' => e = .returned (.func (.func 95) #[] #[.pointer (some ⟨w.heap.size, 0, none⟩)]) ∧ w' = w.alloc (.cells v.cells.toArray 29)) := by
  obtain ⟨⟨kd, n, d, nm, k⟩, A, len, cap⟩ := v
  simp only [Nd.val]
  go_enter Tryz.func51, Tryz.ntmps51
  have hmf : ∀ (fn : Fn) (first cap : Array Value) (w : World), (Instr.makeFunc fn first cap).run Tryz.prog w = .ok (.func fn first cap) w := fun _ _ _ _ => rfl
  go_wp2_with fail
  go_ret
  exact ⟨rfl, rfl⟩
theorem it_stops (T : TE) (v : Nd) (w : World) (m b eb k : Nat) (hok : okE T = true) (hin : InE w T v) (hb : b < w.heap.size) (he : Blk w eb 29 v.cells.toArray) :
    SeqStopsK Fence.wide k Tryz.prog 95 #[.pointer (some ⟨eb, 0, none⟩)] (fun x : Nd => #[x.val]) (KpS m b) (fun ys => ys.map Nd.h = preT 20 T) (fun _ => True) (cR 20 T) w := fun l J Jx W hW hJ _ hY h0 =>
  callsIn_wide.2 (it_any T v W hok (hin.go hW) hJ (Nat.lt_of_lt_of_le hb hW.size) (he.belowW hW) h0 (fun i pre x W1 h1 h2 => yield_wide i (hY pre x W1 h1 h2)))
set_option maxHeartbeats 4000000 in
set_option maxRecDepth 100000 in
theorem eSize_any (T : TE) (v : Nd) (w : World) (hin : InE w T v) (hok : okE T = true) : Calls Tryz.prog 23 #[v.val] w (RetB (.int .i64 (cR 20 T : Nat)) w) := by
  have HIN := Lib.hid hin
  have HOK := Lib.hid hok
  have HC := Lib.hid (okE_iff.1 hok)
  have HL := Lib.hid (pre_len 20 T (okE_iff.1 hok))
  clear hin hok
  obtain ⟨⟨kd, n, d, nm, k⟩, A, len, cap⟩ := v
  simp only [Nd.val]
  refine (callsIn_wide (n := 9)).1 ?_
  refine callsIn_of_wp_marks Tryz.func23 rfl trivial ?_ rfl
  simp only [Tryz.ntmps23, List.size_toArray, List.length_cons, List.length_nil, Nat.reduceAdd, Nat.reduceSub, Array.replicate_succ, Array.replicate_zero, List.push_toArray, List.append_toArray, List.nil_append, List.cons_append]
  gi_wp2
  obtain ⟨w1, hw1⟩ : ∃ z9 : World, z9 = (w.alloc (Obj.cells #[.int .i64 kd, .int .i64 n, .int .i64 d, .string nm, .int .i64 k, .slice A len cap] 29)).alloc (Obj.cells #[.int .i64 0] 3) := ⟨_, rfl⟩
  have HW1 := Lib.hid (show Below w.heap.size w w1 by rw [hw1]; exact (below_box _ _).trans ((below_box _ _).mono (by simp)))
  have B1 := Lib.hid (show Blk w1 (w.heap.size + 1) 3 #[.int .i64 0] by rw [hw1]; have := Blk.new (w.alloc (Obj.cells #[.int .i64 kd, .int .i64 n, .int .i64 d, .string nm, .int .i64 k, .slice A len cap] 29)) 3 #[.int .i64 0]; simpa using this)
  rw [← hw1]
  clear hw1
  refine ⟨trivial, (callsIn_wide.2 (show Calls Tryz.prog 51 #[.agg #[.int .i64 kd, .int .i64 n, .int .i64 d, .string nm, .int .i64 k, .slice A len cap]] w1 _ from walk_any ⟨⟨kd, n, d, nm, k⟩, A, len, cap⟩ w1)).mono ?_⟩
  rintro e w2 ⟨rfl, hw2⟩
  have HW2 := Lib.hid (show Below w1.heap.size w1 w2 by rw [hw2]; exact below_box _ _)
  have F2 := Lib.hid (show Blk w2 w1.heap.size 29 (Nd.cells ⟨⟨kd, n, d, nm, k⟩, A, len, cap⟩).toArray by rw [hw2]; exact Blk.new _ _ _)
  clear hw2
  have B2 := Lib.hid (B1.out.belowW HW2.out)
  obtain ⟨eb, heb⟩ : ∃ z, z = w1.heap.size := ⟨_, rfl⟩
  rw [← heb] at F2 ⊢
  clear heb
  obtain ⟨b, hb⟩ : ∃ z, z = w.heap.size + 1 := ⟨_, rfl⟩
  rw [← hb] at B2 ⊢
  have HBL := Lib.hid (show Below w.heap.size w w2 from HW1.out.trans (HW2.out.mono HW1.out.size))
  have hbm : w.heap.size ≤ b := by omega
  clear hb
  gi_wp2
  refine wpIn_rangeFunc_ownF rfl (by decide) (gf := 95) (lb := #[.pointer (some ⟨eb, 0, none⟩)]) rfl trivial (enters_of Tryz.func95 (by kernel_rfl) rfl)
    (it_stops T ⟨⟨kd, n, d, nm, k⟩, A, len, cap⟩ w2 w.heap.size b eb _ HOK.out (HIN.out.go HBL.out) B2.out.lt F2.out) (fun h k => h.tr k) (fun W l o o' hl ho hc _ => KpS.put W l o o' (Nat.le_trans HBL.out.size hl) ho hc) (Below.refl _ _) (fun _ => rfl)
    (fun pre W => (W.cell? ⟨b, 0, none⟩ = some (.int .i64 (pre.length : Nat)) ∧ W.frozen? ⟨b, 0, none⟩ = false) ∧ Below w.heap.size w W)
    (fun _ _ _ => False)
    (OwnFrom.and (Own.from (fun s A B row hs hg hr => ⟨cell_kept hs.1 hg hr, (frozen_kept hs.1 hg hr).trans hs.2⟩) _) (ownFrom_below (Nat.le_refl _) HBL.out.size))
    (fun _ _ _ _ _ hs _ _ => hs.elim)
    ⟨⟨B2.out.cell 0, B2.out.frozen 0⟩, HBL.out⟩
    (fun x => { tmps := #[.agg #[.int .i64 kd, .int .i64 n, .int .i64 d, .string nm, .int .i64 k, .slice A len cap], .pointer (some ⟨w.heap.size, 0, none⟩), .int .i64 0, .pointer (some ⟨b, 0, none⟩), .agg #[.int .i64 kd, .int .i64 n, .int .i64 d, .string nm, .int .i64 k, .slice A len cap], .func (.func 95) #[] #[.pointer (some ⟨eb, 0, none⟩)], x.val, undef, undef, undef], defers := [] }) ?assign ?body ?done ?stop
  case assign =>
    intro l x W K hK
    gi_wp2
    simpa using hK
  case body =>
    rintro l pre x W ⟨⟨hc, hf⟩, hB⟩ hlt
    have hlt2 : pre.length < 200 := Nat.lt_of_lt_of_le hlt HC.out
    gi_wp2
    exact ⟨KeepsOthers.setCell _ _ _, KpS.set W _ hbm, ⟨by rw [List.length_append]; exact World.cell?_setCell_same' _ _ _ (by rw [hc]; rfl), by rw [World.frozen?_setCell]; exact hf⟩, hB.setCell (p := ⟨b, 0, none⟩) hbm _⟩
  case done =>
    rintro D ys W hD hS ⟨⟨hc, _⟩, hB⟩ hK
    have hys : ys.length = cR 20 T := by rw [← List.length_map (f := Nd.h), hS, HL.out]
    gi_wp2
    refine ⟨by simp, .inl ⟨_, _, rfl, run_takeDeferred hK, ?_⟩⟩
    have h9 : w.heap.size ≤ D := Nat.le_trans HBL.out.size hD
    exact ⟨_, results_tmp rfl _ _ _, rfl, Lib.hid (hB.trans ((KpS.put (b := b) W D _ _ h9 hK rfl).lo hB.size))⟩
  case stop =>
    rintro D c pre W _ _ h _
    exact h.elim
end Go.Proofs.YtkjoohnndobjeaaGreatDoor
