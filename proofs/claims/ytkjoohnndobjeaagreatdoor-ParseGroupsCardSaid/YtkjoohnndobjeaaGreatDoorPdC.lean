/-
  The walk of tree.walk, at a yield of a loop over a function.
-/
import Derived.Test.YtkjoohnndobjeaaGreatDoorPdB
import Derived.RangeFuncFrom
import Derived.RangeFuncBound
import Derived.RangeFuncLeaves
import Derived.OwnWalkIn
import Derived.TacticsInMore
set_option linter.unusedVariables false
namespace Go.Proofs.YtkjoohnndobjeaaGreatDoor
open Go.RowKit Go.Fl Go.Fl.Fm Go.Fl.Rt Go.Fl.Pa
attribute [local go_sem] Oper.semAt_some
/-- The nodes in the order of the walk. -/
def preT : Nat → TE → List Hd
  | 0, _ => []
  | f + 1, T => T.h :: T.l.flatMap (preT f)
theorem goR_sum {c : TE → Nat} : ∀ (l : List TE) (n : Nat), goR c l n ≤ 200 → goR c l n = n + (l.map c).sum
  | [], n, _ => by simp [goR]
  | x :: l, n, h => by
    have h0 := h
    unfold goR at h ⊢
    split at h
    · rename_i hn
      rw [if_pos hn, goR_sum l _ h, List.map_cons, List.sum_cons]
      omega
    · rename_i hn
      omega
theorem pre_len : ∀ (f : Nat) (T : TE), cR f T ≤ 200 → (preT f T).length = cR f T := by
  intro f
  induction f with
  | zero => exact fun T h => absurd h (by show ¬ 1048576 ≤ 200; decide)
  | succ f ih =>
    intro T h
    obtain ⟨h1, h2, h3⟩ := cR_child h
    rw [← h2, goR_sum T.l 1 (by rw [h2]; exact h)]
    unfold preT
    rw [List.length_cons, List.length_flatMap, Nat.add_comm]
    congr 2
    refine List.map_congr_left (fun x hx => ih x ?_)
    exact goR_each T.l 1 (by rw [h2]; exact h) x hx
theorem pre_take {f : Nat} {l : List TE} {j : Nat} (hj : j < l.length) : (l.take (j + 1)).flatMap (preT f) = (l.take j).flatMap (preT f) ++ preT f (l.getD j default) := by
  rw [List.take_add_one, List.flatMap_append, List.getD_eq_getElem?_getD, List.getElem?_eq_getElem hj]
  simp
/-- What the rounds of the loop keep. -/
structure YE (J Jx : List Nd → World → Prop) (Kp : World → World → Prop) (Pv : Nat → World → Prop) : Prop where
  tr : ∀ {A B C : World}, Kp A B → Kp B C → Kp A C
  new : ∀ {pre : List Nd} {A B : World}, J pre A → A.grownBy B none → J pre B
  kn : ∀ {pre : List Nd} {A B : World}, J pre A → A.grownBy B none → Kp A B
  pn : ∀ {pre : List Nd} {A B : World} {p : Nat}, J pre A → A.grownBy B none → A.heap.size ≤ p → Pv p B
  pv : ∀ {A B : World} {p : Nat}, Kp A B → p < A.heap.size → Pv p A → Pv p B ∧ ∀ o, A.heap[p]? = some o → o.isCells = true → B.heap[p]? = some o
  sz : ∀ {A B : World}, Kp A B → A.heap.size ≤ B.heap.size
theorem grown_nn {A B : World} (h : Below A.heap.size A B) : A.grownBy B none := ⟨h.os, h.tape, h.output, h.size, fun k hk _ => h.block k hk⟩
section
variable {J Jx : List Nd → World → Prop} {Kp : World → World → Prop} {Pv : Nat → World → Prop}
/-- A tree in private blocks. -/
structure Tr (Pv : Nat → World → Prop) (W : World) (T : TE) (v : Nd) : Prop where
  t : InA (fun p => p < W.heap.size ∧ Pv p W) W T v
theorem ina_kp (ye : YE J Jx Kp Pv) {P : Nat → Prop} {A B : World} {T : TE} {v : Nd} (hk : Kp A B) (hp : ∀ p, P p → p < A.heap.size ∧ Pv p A) (h : InA P A T v) : InA P B T v := by
  induction h with
  | mk h l Ad len cap vs ok hl hc hm hv hr hg hi ih =>
    refine .mk h l Ad len cap vs ok hl hc hm hv ⟨hr.1, fun hn => ?_⟩ hg ih
    obtain ⟨b, off, hA, hlt, hcell⟩ := hr.2 hn
    obtain ⟨h1, h2⟩ := hp b (hg hn b off hA)
    refine ⟨b, off, hA, Nat.lt_of_lt_of_le hlt (ye.sz hk), fun j u hu => ?_⟩
    have h3 := hcell j u hu
    obtain ⟨o, ho, hoc⟩ := cells_of_cell h3
    have h4 := (ye.pv hk h1 h2).2 o ho hoc
    simp only at ho
    unfold World.cell? at h3 ⊢
    simp only at h3 ⊢
    rw [h4]
    rw [ho] at h3
    exact h3
theorem Tr.kp (ye : YE J Jx Kp Pv) {A B : World} {T : TE} {v : Nd} (h : Tr Pv A T v) (hk : Kp A B) : Tr Pv B T v :=
  ⟨(ina_kp ye hk (fun p hp => hp) h.t).weaken (fun p hp => ⟨Nat.lt_of_lt_of_le hp.1 (ye.sz hk), (ye.pv hk hp.1 hp.2).1⟩)⟩
/-- A private block. -/
structure Bx (Pv : Nat → World → Prop) (W : World) (g : Nat) (t : TypeId) (cs : Array Value) : Prop where
  b : Blk W g t cs
  p : Pv g W
theorem Bx.kp (ye : YE J Jx Kp Pv) {A B : World} {g : Nat} {t : TypeId} {cs : Array Value} (h : Bx Pv A g t cs) (hk : Kp A B) : Bx Pv B g t cs :=
  ⟨(ye.pv hk h.b.lt h.p).2 _ h.b rfl, (ye.pv hk h.b.lt h.p).1⟩
theorem YE.box (ye : YE J Jx Kp Pv) {pre : List Nd} {W W1 : World} {t : TypeId} {cs : Array Value} (hJ : J pre W) (hw : W1 = W.alloc (.cells cs t)) : J pre W1 ∧ Kp W W1 ∧ Bx Pv W1 W.heap.size t cs := by
  have hg := grown_nn (show Below W.heap.size W W1 by rw [hw]; exact below_box _ _)
  exact ⟨ye.new hJ hg, ye.kn hJ hg, by rw [hw]; exact Blk.new _ _ _, ye.pn hJ hg (Nat.le_refl _)⟩
/-- What the walk of a tree answers. -/
def WkP (J Jx : List Nd → World → Prop) (Kp : World → World → Prop) (S : List Hd) (yes no : Value) (pre : List Nd) (W : World) (e : Ending) (W' : World) : Prop :=
  (e = .returned yes ∧ ∃ ys : List Nd, ys.map Nd.h = S ∧ J (pre ++ ys) W' ∧ Kp W W') ∨ (e = .returned no ∧ ∃ q, Jx (pre ++ q) W')
def WkAt (l N : Nat) (J Jx : List Nd → World → Prop) (Kp : World → World → Prop) (Pv : Nat → World → Prop) (f : Nat) : Prop :=
  ∀ (T : TE) (v : Nd) (pre : List Nd) (W : World), Tr Pv W T v → cR f T ≤ 200 → f ≤ 20 → J pre W → pre.length + cR f T ≤ N →
    Calls Tryz.prog 96 #[v.val, .func (.yield l) #[] #[]] W (WkP J Jx Kp (preT f T) (.bool true) (.bool false) pre W)
theorem WkP.back {A B : World} (ye : YE J Jx Kp Pv) {S : List Hd} {yes no : Value} {pre : List Nd} {e : Ending} {W' : World} (h : WkP J Jx Kp S yes no pre B e W') (hk : Kp A B) : WkP J Jx Kp S yes no pre A e W' := by
  rcases h with ⟨h1, ys, h2, h3, h4⟩ | h
  · exact .inl ⟨h1, ys, h2, h3, ye.tr hk h4⟩
  · exact .inr h
set_option maxHeartbeats 4000000 in
set_option maxRecDepth 100000 in
theorem wk1_any (ye : YE J Jx Kp Pv) {l N f : Nat} (ih : WkAt l N J Jx Kp Pv f) (T : TE) (v : Nd) (pre : List Nd) (W : World) (yb : Nat) (ht : Tr Pv W T v) (hc : cR f T ≤ 200) (hf : f ≤ 20) (hJ : J pre W) (hN : pre.length + cR f T ≤ N) (hy : Bx Pv W yb 51 #[.func (.yield l) #[] #[]]) :
    Calls Tryz.prog 131 #[v.val, .pointer (some ⟨yb, 0, none⟩)] W (WkP J Jx Kp (preT f T) (.bool true) (.bool false) pre W) := by
  have YEH := Lib.hid ye
  have IH := Lib.hid ih
  have HT := Lib.hid ht
  have HJ := Lib.hid hJ
  have HY := Lib.hid hy
  have HC := Lib.hid hc
  have HN := Lib.hid hN
  obtain ⟨S, hS⟩ : ∃ S, S = preT f T := ⟨_, rfl⟩
  rw [← hS]
  have HS := Lib.hid hS
  clear ye ih ht hJ hy hc hN hS
  obtain ⟨⟨kd, n, d, nm, k⟩, A, len, cap⟩ := v
  simp only [Nd.val]
  go_enter Tryz.func131, Tryz.ntmps131
  go_upto_region 1 with (fail)
  obtain ⟨w1, hw1⟩ : ∃ z9 : World, z9 = W.alloc (Obj.cells #[.int .i64 kd, .int .i64 n, .int .i64 d, .string nm, .int .i64 k, .slice A len cap] 29) := ⟨_, rfl⟩
  obtain ⟨j1, k1, b1⟩ := YEH.out.box HJ.out hw1
  have HJ1 := Lib.hid j1
  have HK1 := Lib.hid k1
  have F1 := Lib.hid b1
  rw [← hw1]
  clear hw1 j1 k1 b1
  have HY1 := Lib.hid (HY.out.kp YEH.out HK1.out)
  have HT1 := Lib.hid (HT.out.kp YEH.out HK1.out)
  have pr0 : w1.cell? ⟨W.heap.size, 0, none⟩ = some (.int .i64 kd) := F1.out.b.cell 0
  have pr1 : w1.cell? ⟨W.heap.size, 1, none⟩ = some (.int .i64 n) := F1.out.b.cell 1
  have pr2 : w1.cell? ⟨W.heap.size, 2, none⟩ = some (.int .i64 d) := F1.out.b.cell 2
  have pr3 : w1.cell? ⟨W.heap.size, 3, none⟩ = some (.string nm) := F1.out.b.cell 3
  have pr4 : w1.cell? ⟨W.heap.size, 4, none⟩ = some (.int .i64 k) := F1.out.b.cell 4
  have pr5 : w1.cell? ⟨W.heap.size, 5, none⟩ = some (.slice A len cap) := F1.out.b.cell 5
  have py : w1.cell? ⟨yb, 0, none⟩ = some (.func (.yield l) #[] #[]) := HY1.out.b.cell 0
  have K := Lib.hid (IH.out T ⟨⟨kd, n, d, nm, k⟩, A, len, cap⟩ pre w1 HT1.out HC.out hf HJ1.out HN.out)
  rw [← HS.out] at K
  go_wp2_with fail
  refine K.out.mono ?_
  intro e w2 hP
  have HP := Lib.hid (WkP.back YEH.out hP HK1.out)
  clear hP
  rcases HP.out with ⟨rfl, hq⟩ | ⟨rfl, hq⟩
  · have HQ := Lib.hid hq
    clear hq HP
    go_wp2_with fail
    go_ret
    exact .inl ⟨rfl, HQ.out⟩
  · have HQ := Lib.hid hq
    clear hq HP
    go_wp2_with fail
    go_ret
    exact .inr ⟨rfl, HQ.out⟩
set_option maxHeartbeats 4000000 in
set_option maxRecDepth 100000 in
theorem ev1_any (ye : YE J Jx Kp Pv) {l N f : Nat} (ih : WkAt l N J Jx Kp Pv f) (T : TE) (v : Nd) (pre : List Nd) (W : World) (yb sb : Nat) (ht : Tr Pv W T v) (hc : cR f T ≤ 200) (hf : f ≤ 20) (hJ : J pre W) (hN : pre.length + cR f T ≤ N) (hy : Bx Pv W yb 51 #[.func (.yield l) #[] #[]])
    (hs : Bx Pv W sb 51 #[.func (.func 131) #[] #[.pointer (some ⟨yb, 0, none⟩)]]) :
    Calls Tryz.prog 162 #[v.val, .pointer (some ⟨sb, 0, none⟩)] W (WkP J Jx Kp (preT f T) (.bool false) (.bool true) pre W) := by
  have YEH := Lib.hid ye
  have IH := Lib.hid ih
  have HT := Lib.hid ht
  have HJ := Lib.hid hJ
  have HY := Lib.hid hy
  have HSB := Lib.hid hs
  have HC := Lib.hid hc
  have HN := Lib.hid hN
  obtain ⟨S, hS⟩ : ∃ S, S = preT f T := ⟨_, rfl⟩
  rw [← hS]
  have HS := Lib.hid hS
  clear ye ih ht hJ hy hs hc hN hS
  obtain ⟨⟨kd, n, d, nm, k⟩, A, len, cap⟩ := v
  simp only [Nd.val]
  go_enter Tryz.func162, Tryz.ntmps162
  go_upto_region 1 with (fail)
  obtain ⟨w1, hw1⟩ : ∃ z9 : World, z9 = W.alloc (Obj.cells #[.int .i64 kd, .int .i64 n, .int .i64 d, .string nm, .int .i64 k, .slice A len cap] 29) := ⟨_, rfl⟩
  obtain ⟨j1, k1, b1⟩ := YEH.out.box HJ.out hw1
  have HJ1 := Lib.hid j1
  have HK1 := Lib.hid k1
  have F1 := Lib.hid b1
  rw [← hw1]
  clear hw1 j1 k1 b1
  have HY1 := Lib.hid (HY.out.kp YEH.out HK1.out)
  have HS1 := Lib.hid (HSB.out.kp YEH.out HK1.out)
  have HT1 := Lib.hid (HT.out.kp YEH.out HK1.out)
  have pr0 : w1.cell? ⟨W.heap.size, 0, none⟩ = some (.int .i64 kd) := F1.out.b.cell 0
  have pr1 : w1.cell? ⟨W.heap.size, 1, none⟩ = some (.int .i64 n) := F1.out.b.cell 1
  have pr2 : w1.cell? ⟨W.heap.size, 2, none⟩ = some (.int .i64 d) := F1.out.b.cell 2
  have pr3 : w1.cell? ⟨W.heap.size, 3, none⟩ = some (.string nm) := F1.out.b.cell 3
  have pr4 : w1.cell? ⟨W.heap.size, 4, none⟩ = some (.int .i64 k) := F1.out.b.cell 4
  have pr5 : w1.cell? ⟨W.heap.size, 5, none⟩ = some (.slice A len cap) := F1.out.b.cell 5
  have py : w1.cell? ⟨sb, 0, none⟩ = some (.func (.func 131) #[] #[.pointer (some ⟨yb, 0, none⟩)]) := HS1.out.b.cell 0
  have K := Lib.hid (wk1_any YEH.out IH.out T ⟨⟨kd, n, d, nm, k⟩, A, len, cap⟩ pre w1 yb HT1.out HC.out hf HJ1.out HN.out HY1.out)
  rw [← HS.out] at K
  go_wp2_with fail
  refine K.out.mono ?_
  intro e w2 hP
  have HP := Lib.hid (WkP.back YEH.out hP HK1.out)
  clear hP
  rcases HP.out with ⟨rfl, hq⟩ | ⟨rfl, hq⟩
  · have HQ := Lib.hid hq
    clear hq HP
    go_wp2_with fail
    go_ret
    exact .inl ⟨rfl, HQ.out⟩
  · have HQ := Lib.hid hq
    clear hq HP
    go_wp2_with fail
    go_ret
    exact .inr ⟨rfl, HQ.out⟩
theorem Tr.at_ {W : World} {T : TE} {v : Nd} (h : Tr Pv W T v) (i : Nat) (hi : i < v.len) :
    ∃ b o x, v.A = some ⟨b, o, none⟩ ∧ b < W.heap.size ∧ Pv b W ∧ Tr Pv W (T.l.getD i default) x ∧ ∀ j u, x.cells[j]? = some u → j < 6 → W.cell? ⟨b, o + (i * 6 + j), none⟩ = some u := by
  obtain ⟨h⟩ := h
  cases h with
  | mk h l A len cap vs ok hl hc hm hv hr hg hin =>
    have hi' : i < len := hi
    obtain ⟨b, o, hA, hb, hcell⟩ := hr.2 (by omega)
    have h1 : l[i]? = some (l.getD i default) := by rw [List.getD_eq_getElem?_getD, List.getElem?_eq_getElem (by omega)]; rfl
    have h2 : vs[i]? = some vs[i] := List.getElem?_eq_getElem (by omega)
    refine ⟨b, o, vs[i], hA, hb, (hg (by omega) b o hA).2, ⟨hin i _ _ h1 h2⟩, fun j u hu hj => ?_⟩
    refine hcell _ u ?_
    rw [nds_at vs i _ h2 j hj]
    exact hu
set_option maxHeartbeats 4000000 in
set_option maxRecDepth 100000 in
theorem ix_any (ye : YE J Jx Kp Pv) {l N f : Nat} (ih : WkAt l N J Jx Kp Pv f) (T : TE) (v : Nd) (pre : List Nd) (W : World) (yb sb : Nat) (ht : Tr Pv W T v) (hc : cR (f + 1) T ≤ 200) (hf : f ≤ 20) (hJ : J pre W) (hN : pre.length + (T.l.flatMap (preT f)).length ≤ N) (hy : Bx Pv W yb 51 #[.func (.yield l) #[] #[]])
    (hs : Bx Pv W sb 51 #[.func (.func 131) #[] #[.pointer (some ⟨yb, 0, none⟩)]]) :
    Calls Tryz.prog 161 #[.slice v.A v.len v.cap, .func (.func 162) #[] #[.pointer (some ⟨sb, 0, none⟩)]] W
      (fun e W' => ∃ r : Int, e = .returned (.int .i64 r) ∧ Hid ((r = -1 ∧ WkP J Jx Kp (T.l.flatMap (preT f)) (.bool false) (.bool true) pre W (.returned (.bool false)) W') ∨ (0 ≤ r ∧ WkP J Jx Kp (T.l.flatMap (preT f)) (.bool false) (.bool true) pre W (.returned (.bool true)) W'))) := by
  have YEH := Lib.hid ye
  have IH := Lib.hid ih
  have HT := Lib.hid ht
  have HJ := Lib.hid hJ
  have HY := Lib.hid hy
  have HSB := Lib.hid hs
  have HC := Lib.hid (cR_child hc).2.2
  have HLN := Lib.hid ht.t.toE.length
  have HCM := Lib.hid (Nat.le_trans ht.t.toE.caps.1 ht.t.toE.caps.2)
  have HN := Lib.hid hN
  clear ye ih ht hJ hy hs hc hN
  obtain ⟨⟨kd, n, d, nm, k⟩, A, len, cap⟩ := v
  simp only at HLN HCM
  go_enter Tryz.func161, Tryz.ntmps161
  go_wp2_with fail
  go_loopg [8] len (fun gg iv wr => ∃ (j : Nat) (ys : List Nd), iv = .int .i64 j ∧ j ≤ len ∧ gg = len - j ∧ Hid (ys.map Nd.h = (T.l.take j).flatMap (preT f)) ∧ Hid (J (pre ++ ys) wr) ∧ Hid (W = wr ∨ Kp W wr))
  case atStart => exact ⟨0, [], rfl, by omega, by omega, Lib.hid (by simp), Lib.hid (by rw [List.append_nil]; exact HJ.out), Lib.hid (.inl rfl)⟩
  case round =>
    obtain ⟨j, ys, rfl, hj, rfl, HYS, HJR, HKR⟩ := hrel
    have HKP := Lib.hid (show Kp W wr by
      rcases HKR.out with h | h
      · subst h; exact YEH.out.kn HJ.out (World.grownBy.refl _ _)
      · exact h)
    by_cases hjl : j < len
    · obtain ⟨b, o, x, hA, hbl, hpb, hx, hcell⟩ := (HT.out.kp YEH.out HKP.out).at_ j hjl
      simp only at hA
      subst hA
      have HX := Lib.hid hx
      have q0 : wr.cell? ⟨b, o + j * 6, none⟩ = some (.int .i64 x.h.kind) := hcell 0 _ rfl (by omega)
      have q1 : wr.cell? ⟨b, o + j * 6 + 1, none⟩ = some (.int .i64 x.h.n) := hcell 1 _ rfl (by omega)
      have q2 : wr.cell? ⟨b, o + j * 6 + 2, none⟩ = some (.int .i64 x.h.d) := hcell 2 _ rfl (by omega)
      have q3 : wr.cell? ⟨b, o + j * 6 + 3, none⟩ = some (.string x.h.name) := hcell 3 _ rfl (by omega)
      have q4 : wr.cell? ⟨b, o + j * 6 + 4, none⟩ = some (.int .i64 x.h.k) := hcell 4 _ rfl (by omega)
      have q5 : wr.cell? ⟨b, o + j * 6 + 5, none⟩ = some (.slice x.A x.len x.cap) := hcell 5 _ rfl (by omega)
      have n1 : decide (j < len) = true := decide_eq_true hjl
      have hlm : len ≤ 9223372036854775807 := by have := HCM.out; unfold maxLen at this; omega
      have HPT := Lib.hid (pre_take (f := f) (l := T.l) (j := j) (by rw [HLN.out]; exact hjl))
      have HCJ := Lib.hid (HC.out j (by rw [HLN.out]; exact hjl))
      have HLJ := Lib.hid (pre_len f _ HCJ.out)
      have HNJ := Lib.hid (show (pre ++ ys).length + cR f (T.l.getD j default) ≤ N by
        have h1 := HN.out
        have h2 : ((T.l.take (j + 1)).flatMap (preT f)).length ≤ (T.l.flatMap (preT f)).length := by
          conv => rhs; rw [← List.take_append_drop (j + 1) T.l]
          rw [List.flatMap_append, List.length_append]
          omega
        rw [HPT.out, List.length_append, HLJ.out] at h2
        have h3 : ys.length = ((T.l.take j).flatMap (preT f)).length := by rw [← HYS.out, List.length_map]
        rw [List.length_append]
        omega)
      have K := Lib.hid (ev1_any YEH.out IH.out _ x (pre ++ ys) wr yb sb HX.out HCJ.out hf HJR.out HNJ.out (HY.out.kp YEH.out HKP.out) (HSB.out.kp YEH.out HKP.out))
      clear hx hcell hbl hpb
      go_wp2_with fail
      refine K.out.mono ?_
      intro e w2 hP
      rcases hP with ⟨rfl, zs, h1, h2, h3⟩ | ⟨rfl, q, h1⟩
      · have HZ := Lib.hid h1
        have HJ2 := Lib.hid h2
        have HK2 := Lib.hid (YEH.out.tr HKP.out h3)
        clear h1 h2 h3
        go_wp2_with fail
        go_roundg (len - (j + 1))
        case measure => omega
        case rel => exact ⟨j + 1, ys ++ zs, by go_num, by omega, rfl, Lib.hid (by rw [List.map_append, HYS.out, HZ.out, HPT.out]), Lib.hid (by rw [← List.append_assoc]; exact HJ2.out), Lib.hid (.inr HK2.out)⟩
      · have HQ := Lib.hid h1
        clear h1
        go_wp2_with fail
        go_ret
        exact ⟨j, rfl, Lib.hid (.inr ⟨by omega, .inr ⟨rfl, ys ++ q, by rw [← List.append_assoc]; exact HQ.out⟩⟩)⟩
    · have n1 : decide (j < len) = false := decide_eq_false hjl
      have HE := Lib.hid (show T.l.take j = T.l from List.take_of_length_le (by rw [HLN.out]; omega))
      go_wp2_with fail
      go_ret
      exact ⟨-1, rfl, Lib.hid (.inl ⟨rfl, .inl ⟨rfl, ys, by rw [HYS.out, HE.out], HJR.out, HKP.out⟩⟩)⟩
set_option maxHeartbeats 1000000 in
theorem cf_any (ye : YE J Jx Kp Pv) {l N f : Nat} (ih : WkAt l N J Jx Kp Pv f) (T : TE) (v : Nd) (pre : List Nd) (W : World) (yb sb : Nat) (ht : Tr Pv W T v) (hc : cR (f + 1) T ≤ 200) (hf : f ≤ 20) (hJ : J pre W) (hN : pre.length + (T.l.flatMap (preT f)).length ≤ N) (hy : Bx Pv W yb 51 #[.func (.yield l) #[] #[]])
    (hs : Bx Pv W sb 51 #[.func (.func 131) #[] #[.pointer (some ⟨yb, 0, none⟩)]]) :
    Calls Tryz.prog 128 #[.slice v.A v.len v.cap, .func (.func 162) #[] #[.pointer (some ⟨sb, 0, none⟩)]] W (WkP J Jx Kp (T.l.flatMap (preT f)) (.bool false) (.bool true) pre W) := by
  have K := Lib.hid (ix_any ye ih T v pre W yb sb ht hc hf hJ hN hy hs)
  clear ye ih ht hc hf hJ hN hy hs
  obtain ⟨⟨kd, n, d, nm, k⟩, A, len, cap⟩ := v
  obtain ⟨S, hS⟩ : ∃ S, S = T.l.flatMap (preT f) := ⟨_, rfl⟩
  rw [← hS] at K ⊢
  clear hS
  go_enter Tryz.func128, Tryz.ntmps128
  go_wp2_with fail
  refine K.out.mono ?_
  rintro e w2 ⟨r, rfl, HR⟩
  rcases HR.out with ⟨h1, h2⟩ | ⟨h1, h2⟩
  · have HQ := Lib.hid h2
    have hr : decide (0 ≤ r) = false := decide_eq_false (by omega)
    clear h2 HR
    go_wp2_with fail
    go_ret
    exact HQ.out
  · have HQ := Lib.hid h2
    have hr : decide (0 ≤ r) = true := decide_eq_true h1
    clear h2 HR
    go_wp2_with fail
    go_ret
    exact HQ.out
set_option maxHeartbeats 1000000 in
theorem ev_any (ye : YE J Jx Kp Pv) {l N f : Nat} (ih : WkAt l N J Jx Kp Pv f) (T : TE) (v : Nd) (pre : List Nd) (W : World) (yb : Nat) (ht : Tr Pv W T v) (hc : cR (f + 1) T ≤ 200) (hf : f ≤ 20) (hJ : J pre W) (hN : pre.length + (T.l.flatMap (preT f)).length ≤ N) (hy : Bx Pv W yb 51 #[.func (.yield l) #[] #[]]) :
    Calls Tryz.prog 130 #[.slice v.A v.len v.cap, .func (.func 131) #[] #[.pointer (some ⟨yb, 0, none⟩)]] W (WkP J Jx Kp (T.l.flatMap (preT f)) (.bool true) (.bool false) pre W) := by
  have YEH := Lib.hid ye
  have HJ := Lib.hid hJ
  have HY := Lib.hid hy
  have HT := Lib.hid ht
  have K0 := Lib.hid (fun w1 (h1 : J pre w1) (h2 : Tr Pv w1 T v) (h3 : Bx Pv w1 yb 51 #[.func (.yield l) #[] #[]]) h4 => cf_any ye ih T v pre w1 yb W.heap.size h2 hc hf h1 hN h3 h4)
  clear ye ih ht hc hf hJ hN hy
  obtain ⟨⟨kd, n, d, nm, k⟩, A, len, cap⟩ := v
  obtain ⟨S, hS⟩ : ∃ S, S = T.l.flatMap (preT f) := ⟨_, rfl⟩
  rw [← hS] at K0 ⊢
  clear hS
  simp only
  go_enter Tryz.func130, Tryz.ntmps130
  go_upto_region 1 with (fail)
  obtain ⟨w1, hw1⟩ : ∃ z9 : World, z9 = W.alloc (Obj.cells #[.func (.func 131) #[] #[.pointer (some ⟨yb, 0, none⟩)]] 51) := ⟨_, rfl⟩
  obtain ⟨j1, k1, b1⟩ := YEH.out.box HJ.out hw1
  have HK1 := Lib.hid k1
  have K := Lib.hid (K0.out w1 j1 (HT.out.kp YEH.out k1) (HY.out.kp YEH.out k1) b1)
  rw [← hw1]
  clear hw1 j1 k1 b1 K0
  have hmf : ∀ (fn : Fn) (first cap : Array Value) (w : World), (Instr.makeFunc fn first cap).run Tryz.prog w = .ok (.func fn first cap) w := fun _ _ _ _ => rfl
  go_wp2_with fail
  refine K.out.mono ?_
  intro e w2 hP
  have HP := Lib.hid (WkP.back YEH.out hP HK1.out)
  clear hP
  rcases HP.out with ⟨rfl, hq⟩ | ⟨rfl, hq⟩
  · have HQ := Lib.hid hq
    clear hq HP
    go_wp2_with fail
    go_ret
    exact .inl ⟨rfl, HQ.out⟩
  · have HQ := Lib.hid hq
    clear hq HP
    go_wp2_with fail
    go_ret
    exact .inr ⟨rfl, HQ.out⟩
set_option maxHeartbeats 4000000 in
set_option maxRecDepth 100000 in
theorem wk_any (ye : YE J Jx Kp Pv) {l N : Nat} (hY : ∀ m pre (x : Nd) W, J pre W → pre.length < N → YieldAt Fence.wide m Tryz.prog l #[x.val] W fun e W' => (e = .returned (.bool true) ∧ J (pre ++ [x]) W' ∧ Kp W W') ∨ (e = .returned (.bool false) ∧ Jx (pre ++ [x]) W')) : ∀ f, WkAt l N J Jx Kp Pv f := by
  intro f
  induction f with
  | zero => exact fun T v pre W _ h => absurd h (by show ¬ 1048576 ≤ 200; decide)
  | succ f ih =>
    intro T v pre W ht hc hf hJ hN
    have YEH := Lib.hid ye
    have HYY := Lib.hid hY
    have IH := Lib.hid ih
    have HT := Lib.hid ht
    have HJ := Lib.hid hJ
    have HC := Lib.hid hc
    have HN := Lib.hid hN
    have HL := Lib.hid (pre_len (f + 1) T hc)
    have HPT := Lib.hid (show preT (f + 1) T = v.h :: T.l.flatMap (preT f) by unfold preT; rw [ht.t.toE.hd])
    clear ye hY ih ht hJ hc hN
    obtain ⟨⟨kd, n, d, nm, k⟩, A, len, cap⟩ := v
    simp only [Nd.val]
    refine (callsIn_wide (n := 3)).1 ?_
    refine callsIn_of_wp Tryz.func96 rfl trivial ?_ rfl
    simp only [Tryz.ntmps96, List.size_toArray, List.length_cons, List.length_nil, Nat.reduceAdd, Nat.reduceSub, Array.replicate_succ, Array.replicate_zero, List.push_toArray, List.append_toArray, List.nil_append, List.cons_append]
    have hw1 : W.alloc (Obj.cells #[.int .i64 kd, .int .i64 n, .int .i64 d, .string nm, .int .i64 k, .slice A len cap] 29) = W.alloc (Obj.cells #[.int .i64 kd, .int .i64 n, .int .i64 d, .string nm, .int .i64 k, .slice A len cap] 29) := rfl
    obtain ⟨j1, k1, b1⟩ := YEH.out.box HJ.out hw1
    have hw2 : (W.alloc (Obj.cells #[.int .i64 kd, .int .i64 n, .int .i64 d, .string nm, .int .i64 k, .slice A len cap] 29)).alloc (Obj.cells #[.func (.yield l) #[] #[]] 51) = (W.alloc (Obj.cells #[.int .i64 kd, .int .i64 n, .int .i64 d, .string nm, .int .i64 k, .slice A len cap] 29)).alloc (Obj.cells #[.func (.yield l) #[] #[]] 51) := rfl
    obtain ⟨j2, k2, b2⟩ := YEH.out.box j1 hw2
    have HK2 := Lib.hid (YEH.out.tr k1 k2)
    have HE2 := Lib.hid (b1.kp YEH.out k2)
    have HB2 := Lib.hid (show Bx Pv ((W.alloc (Obj.cells #[.int .i64 kd, .int .i64 n, .int .i64 d, .string nm, .int .i64 k, .slice A len cap] 29)).alloc (Obj.cells #[.func (.yield l) #[] #[]] 51)) (W.heap.size + 1) 51 #[.func (.yield l) #[] #[]] by simpa using b2)
    have HT2 := Lib.hid (HT.out.kp YEH.out HK2.out)
    have hlt : pre.length < N := by
      have h1 := HN.out
      have h2 := HL.out
      rw [HPT.out] at h2
      simp at h2
      omega
    obtain ⟨fn, tmps, assign, body, hy, hR⟩ := HYY.out 2 pre ⟨⟨kd, n, d, nm, k⟩, A, len, cap⟩ _ j2 hlt
    have HR := Lib.hid hR
    clear j1 k1 b1 j2 k2 b2 hw1 hw2 hR
    simp only [Nd.val] at hy
    gi_wp2
    refine HR.out.mono ?_
    clear HR hy
    rintro e W3 (⟨rfl, hj3, hk3⟩ | ⟨rfl, hx3⟩)
    · have HJ3 := Lib.hid hj3
      have HE3 := Lib.hid (HE2.out.kp YEH.out hk3)
      have HB3 := Lib.hid (HB2.out.kp YEH.out hk3)
      have HT3 := Lib.hid (HT2.out.kp YEH.out hk3)
      have HK3 := Lib.hid (YEH.out.tr HK2.out hk3)
      clear hj3 hk3 HK2 HE2 HB2 HT2
      have pr5 : W3.cell? ⟨W.heap.size, 5, none⟩ = some (.slice A len cap) := HE3.out.b.cell 5
      have hmf : ∀ (fn : Fn) (first cap : Array Value) (w : World), (Instr.makeFunc fn first cap).run Tryz.prog w = .ok (.func fn first cap) w := fun _ _ _ _ => rfl
      have K := Lib.hid (ev_any YEH.out IH.out T ⟨⟨kd, n, d, nm, k⟩, A, len, cap⟩ (pre ++ [⟨⟨kd, n, d, nm, k⟩, A, len, cap⟩]) W3 (W.heap.size + 1) HT3.out HC.out (by omega) HJ3.out (by
        have h1 := HN.out
        have h2 := HL.out
        rw [HPT.out] at h2
        simp at h2 ⊢
        omega) HB3.out)
      gi_wp2
      refine ⟨trivial, (callsIn_wide.2 K.out).mono ?_⟩
      clear K
      intro e w4 hP
      rcases hP with ⟨rfl, ys, h1, h2, h3⟩ | ⟨rfl, q, h1⟩
      · have HYS := Lib.hid h1
        have HJ4 := Lib.hid h2
        have HK4 := Lib.hid (YEH.out.tr HK3.out h3)
        clear h1 h2 h3
        gi_wp2
        go_ret
        exact .inl ⟨rfl, ⟨⟨kd, n, d, nm, k⟩, A, len, cap⟩ :: ys, by rw [List.map_cons, HYS.out, HPT.out], by rw [List.append_cons]; exact HJ4.out, HK4.out⟩
      · have HX4 := Lib.hid h1
        clear h1
        gi_wp2
        go_ret
        exact .inr ⟨rfl, ⟨⟨kd, n, d, nm, k⟩, A, len, cap⟩ :: q, by rw [List.append_cons]; exact HX4.out⟩
    · have HX3 := Lib.hid hx3
      clear hx3
      gi_wp2
      refine ⟨trivial, ?_⟩
      gi_wp2
      go_ret
      exact .inr ⟨rfl, [⟨⟨kd, n, d, nm, k⟩, A, len, cap⟩], HX3.out⟩
end
end Go.Proofs.YtkjoohnndobjeaaGreatDoor
