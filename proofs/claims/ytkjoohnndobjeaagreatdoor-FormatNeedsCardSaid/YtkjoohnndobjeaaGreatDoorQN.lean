/-
  The program's text of an expression, and format.Expr.
  The small expressions of the law's examples.
  The law's six examples: they are valid, and their texts.
  The law's examples.
-/
import Derived.Test.YtkjoohnndobjeaaGreatDoorFmJ
import Derived.Test.YtkjoohnndobjeaaGreatDoorFmK
import Derived.Test.YtkjoohnndobjeaaGreatDoorFmL
import Derived.Test.YtkjoohnndobjeaaGreatDoorFmN
import Derived.Test.YtkjoohnndobjeaaGreatDoorQH
set_option linter.unusedVariables false
namespace Go.Proofs.YtkjoohnndobjeaaGreatDoor
open Go.RowKit Go.Fl Go.Fl.Nm Go.Fl.Fm Go.Fl.Rt
theorem expr_at : ∀ f, ExprAt f := by
  intro f
  induction f with
  | zero => intro T v w _ hg; exact hg.elim
  | succ f ih =>
    intro T v w hin hg hl ht
    have hnd := hg.1
    rw [hin.hd, hin.length] at hnd
    rcases node_kinds hnd with h | h | h | h | h | h
    · exact expr_k1 f ih T v w hin hg hl ht h.1
    · exact expr_k2 f ih T v w hin hg hl ht h.1
    · obtain h1 | h1 | h1 | h1 : v.h.kind = 3 ∨ v.h.kind = 4 ∨ v.h.kind = 5 ∨ v.h.kind = 6 := by omega
      · exact expr_k3 f ih T v w hin hg hl ht h1
      · exact expr_k4 f ih T v w hin hg hl ht h1
      · exact expr_k5 f ih T v w hin hg hl ht h1
      · exact expr_k6 f ih T v w hin hg hl ht h1
    · exact expr_k7 f ih T v w hin hg hl ht h.1
    · exact expr_k8 f ih T v w hin hg hl ht h.1
    · exact expr_fn f ih T v w hin hg hl ht ⟨h.1, h.2.1⟩
theorem name20 (l : List UInt8) (h : nameP l = true) : l.length ≤ 20 := by
  unfold nameP at h
  simp only [Bool.and_eq_true, decide_eq_true_eq] at h
  exact h.1.2
theorem okE_iff {T : TE} : okE T = true ↔ cR 20 T ≤ 200 := by unfold okE; exact decide_eq_true_iff
theorem txt20 {T : TE} (h : okE T = true) : good nameP 20 T ∧ (txt 20 T).length ≤ 10000 := by
  have h1 := okE_iff.1 h
  refine ⟨good_of nameP 20 T h1, ?_⟩
  have h2 := txt_len nameP name20 20 T h1
  have h3 : cntR nameP 20 T ≤ 200 := h1
  omega
/-- What format.Expr answers. -/
def ExP (T : TE) (w : World) (e : Ending) (w' : World) : Prop :=
  ∃ S : ByteArray, e = .returned (.tuple #[.string S, .int .i64 (if okE T then 0 else 1)]) ∧ Hid (S.data.toList = if okE T then txt 20 T else []) ∧ Hid (Below w.heap.size w w')
set_option maxHeartbeats 1000000 in
theorem fexpr_any (T : TE) (v : Nd) (w : World) (hin : InE w T v) (ht : RB w) : Calls Tryz.prog 27 #[v.val] w (ExP T w) := by
  have HIN := Lib.hid hin
  have HT := Lib.hid ht
  clear hin ht
  unfold ExP
  cases hok : okE T with
  | false =>
    have HOK := Lib.hid hok
    clear hok
    obtain ⟨⟨kd, n, d, nm, k⟩, A, len, cap⟩ := v
    simp only [Nd.val, Bool.false_eq_true, if_false]
    go_enter Tryz.func27, Tryz.ntmps27
    go_wp2_with fail
    refine (eValid_p T ⟨⟨kd, n, d, nm, k⟩, A, len, cap⟩ _ (HIN.out.go (below_box w _))).mono ?_
    rintro e w2 ⟨rfl, HB⟩
    rw [HOK.out]
    go_wp2_with fail
    refine bodyPost_ret (v := .tuple #[.string ⟨#[]⟩, .int .i64 1]) (by simp [results, Tryz.results27, go_sem]) rfl ?_
    exact ⟨_, rfl, Lib.hid rfl, Lib.hid ((below_box w _).trans (HB.out.mono (below_box w _).size))⟩
  | true =>
    have HOK := Lib.hid hok
    have HTX := Lib.hid (txt20 hok)
    clear hok
    obtain ⟨⟨kd, n, d, nm, k⟩, A, len, cap⟩ := v
    simp only [Nd.val, if_true]
    go_enter Tryz.func27, Tryz.ntmps27
    go_wp2_with fail
    obtain ⟨w1, hw1⟩ : ∃ z9 : World, z9 = w.alloc (Obj.cells #[.int .i64 kd, .int .i64 n, .int .i64 d, .string nm, .int .i64 k, .slice A len cap] 29) := ⟨_, rfl⟩
    have HW1 := Lib.hid (show Below w.heap.size w w1 by rw [hw1]; exact below_box _ _)
    have F1 := Lib.hid (show Blk w1 w.heap.size 29 #[.int .i64 kd, .int .i64 n, .int .i64 d, .string nm, .int .i64 k, .slice A len cap] by rw [hw1]; exact Blk.new _ _ _)
    rw [← hw1]
    clear hw1
    refine (eValid_p T ⟨⟨kd, n, d, nm, k⟩, A, len, cap⟩ w1 (HIN.out.go HW1.out)).mono ?_
    rintro e w2 ⟨rfl, HB⟩
    rw [HOK.out]
    have HW2 := Lib.hid (HW1.out.trans (HB.out.mono HW1.out.size))
    have F2 := Lib.hid (F1.out.belowW HB.out)
    have pr0 : w2.cell? ⟨w.heap.size, 0, none⟩ = some (.int .i64 kd) := F2.out.cell 0
    have pr1 : w2.cell? ⟨w.heap.size, 1, none⟩ = some (.int .i64 n) := F2.out.cell 1
    have pr2 : w2.cell? ⟨w.heap.size, 2, none⟩ = some (.int .i64 d) := F2.out.cell 2
    have pr3 : w2.cell? ⟨w.heap.size, 3, none⟩ = some (.string nm) := F2.out.cell 3
    have pr4 : w2.cell? ⟨w.heap.size, 4, none⟩ = some (.int .i64 k) := F2.out.cell 4
    have pr5 : w2.cell? ⟨w.heap.size, 5, none⟩ = some (.slice A len cap) := F2.out.cell 5
    go_wp2_with fail
    refine (expr_at 20 T ⟨⟨kd, n, d, nm, k⟩, A, len, cap⟩ w2 (HIN.out.go HW2.out) HTX.out.1 (by have := HTX.out.2; omega) (HT.out.belowW HW2.out)).mono ?_
    rintro e w3 ⟨S, rfl, HS, HB3⟩
    go_wp2_with fail
    refine bodyPost_ret (v := .tuple #[.string S, .int .i64 0]) (by simp [results, Tryz.results27, go_sem]) rfl ?_
    exact ⟨S, rfl, HS, Lib.hid (HW2.out.trans (HB3.out.mono HW2.out.size))⟩
end Go.Proofs.YtkjoohnndobjeaaGreatDoor
namespace Go.Proofs.YtkjoohnndobjeaaGreatDoor
open Go.RowKit Go.Fl Go.Fl.Nm Go.Fl.Fm Go.Fl.Rt
/-- A number, a variable, an operation of two, of one. -/
def eN (n d : Int) : TE := .mk ⟨1, n, d, ⟨#[]⟩, 0⟩ []
def eV (s : ByteArray) : TE := .mk ⟨2, 0, 0, s, 0⟩ []
def e2 (k : Int) (a b : TE) : TE := .mk ⟨k, 0, 0, ⟨#[]⟩, 0⟩ [a, b]
def e1 (k m : Int) (a : TE) : TE := .mk ⟨k, 0, 0, ⟨#[]⟩, m⟩ [a]
def ndN (n d : Int) : Nd := ⟨⟨1, n, d, ⟨#[]⟩, 0⟩, none, 0, 0⟩
def ndV (s : ByteArray) : Nd := ⟨⟨2, 0, 0, s, 0⟩, none, 0, 0⟩
theorem hd_mk (kd n d k : Int) (s : ByteArray) (h1 : -1000 ≤ kd ∧ kd ≤ 1000) (h2 : -1000 ≤ n ∧ n ≤ 1000) (h3 : -1000 ≤ d ∧ d ≤ 1000) (h4 : -1000 ≤ k ∧ k ≤ 1000) (h5 : s.size ≤ maxLen) : HdOk ⟨kd, n, d, s, k⟩ := by
  refine ⟨?_, ?_, ?_, ?_, ?_, ?_, ?_, ?_, h5⟩ <;> simp only <;> omega
theorem d0 : (-1000 : Int) ≤ 0 ∧ (0 : Int) ≤ 1000 := by decide
theorem z0 : (⟨#[]⟩ : ByteArray).size ≤ maxLen := Nat.zero_le _
theorem in_N (w : World) (n d : Int) (hn : -1000 ≤ n ∧ n ≤ 1000) (hd : -1000 ≤ d ∧ d ≤ 1000) : InE w (eN n d) (ndN n d) :=
  .mk _ [] none 0 0 [] (hd_mk 1 n d 0 _ (by decide) hn hd d0 z0) rfl (Nat.le_refl _) (Nat.zero_le _) rfl (Rd.none_ _ _) (fun i T v h => by cases h)
theorem in_V (w : World) (s : ByteArray) (hs : s.size ≤ maxLen) : InE w (eV s) (ndV s) :=
  .mk _ [] none 0 0 [] (hd_mk 2 0 0 0 s (by decide) d0 d0 d0 hs) rfl (Nat.le_refl _) (Nat.zero_le _) rfl (Rd.none_ _ _) (fun i T v h => by cases h)
/-- A new slice of elements. -/
theorem in_new2 (w : World) (k m : Int) (a b : TE) (x y : Nd) (t : TypeId) (hk : -1000 ≤ k ∧ k ≤ 1000) (hm : -1000 ≤ m ∧ m ≤ 1000) (ha : InE w a x) (hb : InE w b y) :
    InE (w.alloc (.cells (x.cells ++ y.cells).toArray t)) (.mk ⟨k, 0, 0, ⟨#[]⟩, m⟩ [a, b]) ⟨⟨k, 0, 0, ⟨#[]⟩, m⟩, some ⟨w.heap.size, 0, none⟩, 2, 2⟩ :=
  .mk _ [a, b] _ 2 2 [x, y] (hd_mk k 0 0 m _ hk d0 d0 hm z0) rfl (Nat.le_refl _) (by decide) rfl
    (by
      refine ⟨rfl, fun _ => ⟨w.heap.size, 0, rfl, by simp, fun j u hu => ?_⟩⟩
      have h := (Blk.new w t (x.cells ++ y.cells).toArray).cell j
      rw [Nat.zero_add, h, List.getElem?_toArray]
      exact hu)
    (fun i T v h1 h2 => by
      match i with
      | 0 => injection h1 with h1; injection h2 with h2; subst h1 h2; exact ha.go (below_box w _)
      | 1 => injection h1 with h1; injection h2 with h2; subst h1 h2; exact hb.go (below_box w _)
      | i + 2 => cases h1)
theorem in_new1 (w : World) (k m : Int) (a : TE) (x : Nd) (t : TypeId) (hk : -1000 ≤ k ∧ k ≤ 1000) (hm : -1000 ≤ m ∧ m ≤ 1000) (ha : InE w a x) :
    InE (w.alloc (.cells x.cells.toArray t)) (.mk ⟨k, 0, 0, ⟨#[]⟩, m⟩ [a]) ⟨⟨k, 0, 0, ⟨#[]⟩, m⟩, some ⟨w.heap.size, 0, none⟩, 1, 1⟩ :=
  .mk _ [a] _ 1 1 [x] (hd_mk k 0 0 m _ hk d0 d0 hm z0) rfl (Nat.le_refl _) (by decide) rfl
    (by
      refine ⟨rfl, fun _ => ⟨w.heap.size, 0, rfl, by simp, fun j u hu => ?_⟩⟩
      have h := (Blk.new w t x.cells.toArray).cell j
      rw [Nat.zero_add, h, List.getElem?_toArray]
      have e : ndsCells [x] = x.cells := by show x.cells ++ [] = _; rw [List.append_nil]
      rw [e] at hu
      exact hu)
    (fun i T v h1 h2 => by
      match i with
      | 0 => injection h1 with h1; injection h2 with h2; subst h1 h2; exact ha.go (below_box w _)
      | i + 1 => cases h1)
theorem box6 (w : World) (a b c d e f : Value) : ∃ w1 : World, w1 = w.alloc (.cells #[a, b, c, d, e, f] 29) ∧ Hid (Below w.heap.size w w1) ∧ w1.cell? ⟨w.heap.size, 0, none⟩ = some a ∧ w1.cell? ⟨w.heap.size, 1, none⟩ = some b ∧ w1.cell? ⟨w.heap.size, 2, none⟩ = some c ∧ w1.cell? ⟨w.heap.size, 3, none⟩ = some d ∧ w1.cell? ⟨w.heap.size, 4, none⟩ = some e ∧ w1.cell? ⟨w.heap.size, 5, none⟩ = some f := by
  have h := Blk.new w 29 #[a, b, c, d, e, f]
  exact ⟨_, rfl, Lib.hid (below_box _ _), h.cell 0, h.cell 1, h.cell 2, h.cell 3, h.cell 4, h.cell 5⟩
set_option maxHeartbeats 1000000 in
theorem num_any (n d : Int) (w : World) : Calls Tryz.prog 54 #[.int .i64 n, .int .i64 d] w (RetB (ndN n d).val w) := by
  go_enter Tryz.func54, Tryz.ntmps54
  go_wp2_with fail
  obtain ⟨w1, hw, HB, p0, p1, p2, p3, p4, p5⟩ := box6 w (.int .i64 1) (.int .i64 n) (.int .i64 d) (.string ⟨#[]⟩) (.int .i64 0) (.slice none 0 0)
  rw [← hw]
  clear hw
  refine bodyPost_ret (v := .agg #[.int .i64 1, .int .i64 n, .int .i64 d, .string ⟨#[]⟩, .int .i64 0, .slice none 0 0]) (by simp [results, Tryz.results54, go_sem, p0, p1, p2, p3, p4, p5]) rfl ?_
  exact ⟨rfl, HB⟩
set_option maxHeartbeats 1000000 in
theorem v_any (s : ByteArray) (w : World) : Calls Tryz.prog 53 #[.string s] w (RetB (ndV s).val w) := by
  go_enter Tryz.func53, Tryz.ntmps53
  go_wp2_with fail
  obtain ⟨w1, hw, HB, p0, p1, p2, p3, p4, p5⟩ := box6 w (.int .i64 2) (.int .i64 0) (.int .i64 0) (.string s) (.int .i64 0) (.slice none 0 0)
  rw [← hw]
  clear hw
  refine bodyPost_ret (v := .agg #[.int .i64 2, .int .i64 0, .int .i64 0, .string s, .int .i64 0, .slice none 0 0]) (by simp [results, Tryz.results53, go_sem, p0, p1, p2, p3, p4, p5]) rfl ?_
  exact ⟨rfl, HB⟩
set_option maxHeartbeats 1000000 in
theorem two_any (k : Int) (a b : TE) (x y : Nd) (w : World) (hk : -1000 ≤ k ∧ k ≤ 1000) (ha : InE w a x) (hb : InE w b y) :
    Calls Tryz.prog 52 #[.int .i64 k, x.val, y.val] w (fun e w' => ∃ z : Nd, e = .returned z.val ∧ Hid (InE w' (e2 k a b) z) ∧ Hid (Below w.heap.size w w')) := by
  have HA := Lib.hid ha
  have HB := Lib.hid hb
  clear ha hb
  go_enter Tryz.func52, Tryz.ntmps52
  go_wp2_with fail
  obtain ⟨w3, hw3⟩ : ∃ z9 : World, z9 = ((w.alloc (.cells #[.int .i64 x.h.kind, .int .i64 x.h.n, .int .i64 x.h.d, .string x.h.name, .int .i64 x.h.k, .slice x.A x.len x.cap] 29)).alloc (.cells #[.int .i64 y.h.kind, .int .i64 y.h.n, .int .i64 y.h.d, .string y.h.name, .int .i64 y.h.k, .slice y.A y.len y.cap] 29)).alloc (.cells #[.int .i64 k, .int .i64 0, .int .i64 0, .string ⟨#[]⟩, .int .i64 0, .slice (some ⟨w.heap.size + 1 + 1 + 1, 0, none⟩) 2 2] 29) := ⟨_, rfl⟩
  have s1 := World.size_alloc w (.cells #[.int .i64 x.h.kind, .int .i64 x.h.n, .int .i64 x.h.d, .string x.h.name, .int .i64 x.h.k, .slice x.A x.len x.cap] 29)
  have hs3 : w3.heap.size = w.heap.size + 1 + 1 + 1 := by rw [hw3, World.size_alloc, World.size_alloc, World.size_alloc]
  have hb3 : Below w.heap.size w w3 := by
    rw [hw3]
    exact (((Below.refl _ _).alloc (Nat.le_refl _) _).alloc (by rw [World.size_alloc]; omega) _).alloc (by rw [World.size_alloc, World.size_alloc]; omega) _
  have hblk : Blk w3 (w.heap.size + 1 + 1) 29 #[.int .i64 k, .int .i64 0, .int .i64 0, .string ⟨#[]⟩, .int .i64 0, .slice (some ⟨w.heap.size + 1 + 1 + 1, 0, none⟩) 2 2] := by
    rw [hw3]
    have h := Blk.new ((w.alloc (.cells #[.int .i64 x.h.kind, .int .i64 x.h.n, .int .i64 x.h.d, .string x.h.name, .int .i64 x.h.k, .slice x.A x.len x.cap] 29)).alloc (.cells #[.int .i64 y.h.kind, .int .i64 y.h.n, .int .i64 y.h.d, .string y.h.name, .int .i64 y.h.k, .slice y.A y.len y.cap] 29)) 29 #[.int .i64 k, .int .i64 0, .int .i64 0, .string ⟨#[]⟩, .int .i64 0, .slice (some ⟨w.heap.size + 1 + 1 + 1, 0, none⟩) 2 2]
    rwa [World.size_alloc, World.size_alloc] at h
  have HI := Lib.hid (in_new2 w3 k 0 a b x y 29 hk d0 (HA.out.go hb3) (HB.out.go hb3))
  rw [hs3] at HI
  rw [← hw3]
  clear hw3 s1
  obtain ⟨w4, hw4⟩ : ∃ z9 : World, z9 = w3.alloc (.cells (x.cells ++ y.cells).toArray 29) := ⟨_, rfl⟩
  have hb4 : Below w3.heap.size w3 w4 := by rw [hw4]; exact below_box _ _
  have HB4 := Lib.hid (hb3.trans (hb4.mono hb3.size))
  have F4 := hblk.belowW hb4
  have p0 : w4.cell? ⟨w.heap.size + 1 + 1, 0, none⟩ = some (.int .i64 k) := F4.cell 0
  have p1 : w4.cell? ⟨w.heap.size + 1 + 1, 1, none⟩ = some (.int .i64 0) := F4.cell 1
  have p2 : w4.cell? ⟨w.heap.size + 1 + 1, 2, none⟩ = some (.int .i64 0) := F4.cell 2
  have p3 : w4.cell? ⟨w.heap.size + 1 + 1, 3, none⟩ = some (.string ⟨#[]⟩) := F4.cell 3
  have p4 : w4.cell? ⟨w.heap.size + 1 + 1, 4, none⟩ = some (.int .i64 0) := F4.cell 4
  have p5 : w4.cell? ⟨w.heap.size + 1 + 1, 5, none⟩ = some (.slice (some ⟨w.heap.size + 1 + 1 + 1, 0, none⟩) 2 2) := F4.cell 5
  rw [← hw4] at HI
  have hw4' : w3.alloc (.cells #[.int .i64 x.h.kind, .int .i64 x.h.n, .int .i64 x.h.d, .string x.h.name, .int .i64 x.h.k, .slice x.A x.len x.cap, .int .i64 y.h.kind, .int .i64 y.h.n, .int .i64 y.h.d, .string y.h.name, .int .i64 y.h.k, .slice y.A y.len y.cap] 29) = w4 := hw4.symm
  rw [hw4']
  clear hw4 hw4' hb4 hblk hb3 hs3 F4
  refine bodyPost_ret (v := .agg #[.int .i64 k, .int .i64 0, .int .i64 0, .string ⟨#[]⟩, .int .i64 0, .slice (some ⟨w.heap.size + 1 + 1 + 1, 0, none⟩) 2 2]) (by simp [results, Tryz.results52, go_sem, p0, p1, p2, p3, p4, p5]) rfl ?_
  exact ⟨⟨⟨k, 0, 0, ⟨#[]⟩, 0⟩, some ⟨w.heap.size + 1 + 1 + 1, 0, none⟩, 2, 2⟩, rfl, HI, HB4⟩
end Go.Proofs.YtkjoohnndobjeaaGreatDoor
namespace Go.Proofs.YtkjoohnndobjeaaGreatDoor
open Go.RowKit Go.Fl Go.Fl.Nm Go.Fl.Fm Go.Fl.Rt
theorem cR_V (f : Nat) (s : ByteArray) (h : nameP s.data.toList = true) : cR (f + 1) (eV s) = 1 := by
  rw [cR_succ, if_pos]
  · rfl
  · show nodeB nameP ⟨2, 0, 0, s, 0⟩ 0 = true
    simp [nodeB, h]
theorem cR_N (f : Nat) (n d : Int) (h : valid n d) : cR (f + 1) (eN n d) = 1 := by
  rw [cR_succ, if_pos]
  · rfl
  · show nodeB nameP ⟨1, n, d, ⟨#[]⟩, 0⟩ 0 = true
    simp [nodeB, h]
theorem cR_2 (f : Nat) (k : Int) (a b : TE) (hk : 3 ≤ k ∧ k ≤ 6) (h : 1 + cR f a ≤ 200) : cR (f + 1) (e2 k a b) = 1 + cR f a + cR f b := by
  rw [cR_succ, if_pos]
  · show goR (cR f) [a, b] 1 = _
    unfold goR goR goR
    rw [if_pos (by decide), if_pos h]
  · show nodeB nameP ⟨k, 0, 0, ⟨#[]⟩, 0⟩ 2 = true
    have e : opsK k = 2 := by unfold opsK; rw [if_pos hk]
    have e1 : ¬ k = 1 := by omega
    have e2 : ¬ k = 2 := by omega
    have e8 : ¬ k = 8 := by omega
    simp [nodeB, e, e1, e2, e8]
theorem cR_7 (f : Nat) (a : TE) : cR (f + 1) (e1 7 0 a) = 1 + cR f a := by
  rw [cR_succ, if_pos]
  · rfl
  · show nodeB nameP ⟨7, 0, 0, ⟨#[]⟩, 0⟩ 1 = true
    have e : opsK 7 = 1 := by decide
    simp [nodeB, e]
theorem cR_8 (f : Nat) (a : TE) : cR (f + 1) (e1 8 3 a) = 1 + cR f a := by
  rw [cR_succ, if_pos]
  · rfl
  · show nodeB nameP ⟨8, 0, 0, ⟨#[]⟩, 3⟩ 1 = true
    simp [nodeB]
def bX : ByteArray := ⟨#[120]⟩
def bY : ByteArray := ⟨#[121]⟩
def t1 : TE := e2 4 (eV bX) (e2 4 (eV bY) (eN 1 3))
def t2 : TE := e2 5 (eV bX) (eN 1 3)
def t3 : TE := e2 5 (eN 1 3) (eV bX)
def t4 : TE := e2 6 (eN 1 1) (eN 3 1)
def t5 : TE := e1 7 0 (eN 2 1)
def t6 : TE := e1 8 3 (eN (-2) 1)
theorem nX : nameP bX.data.toList = true := by decide +kernel
theorem nY : nameP bY.data.toList = true := by decide +kernel
theorem ok1 : okE t1 = true := okE_iff.2 (by
  unfold t1
  rw [cR_2 19 4 _ _ (by decide) (by rw [cR_V 18 _ nX]; decide), cR_V 18 _ nX, cR_2 18 4 _ _ (by decide) (by rw [cR_V 17 _ nY]; decide), cR_V 17 _ nY, cR_N 17 1 3 (by decide)]
  decide)
theorem ok2 : okE t2 = true := okE_iff.2 (by
  unfold t2
  rw [cR_2 19 5 _ _ (by decide) (by rw [cR_V 18 _ nX]; decide), cR_V 18 _ nX, cR_N 18 1 3 (by decide)]
  decide)
theorem ok3 : okE t3 = true := okE_iff.2 (by
  unfold t3
  rw [cR_2 19 5 _ _ (by decide) (by rw [cR_N 18 1 3 (by decide)]; decide), cR_V 18 _ nX, cR_N 18 1 3 (by decide)]
  decide)
theorem ok4 : okE t4 = true := okE_iff.2 (by
  unfold t4
  rw [cR_2 19 6 _ _ (by decide) (by rw [cR_N 18 1 1 (by decide)]; decide), cR_N 18 1 1 (by decide), cR_N 18 3 1 (by decide)]
  decide)
theorem ok5 : okE t5 = true := okE_iff.2 (by unfold t5; rw [cR_7, cR_N 18 2 1 (by decide)]; decide)
theorem ok6 : okE t6 = true := okE_iff.2 (by unfold t6; rw [cR_8, cR_N 18 (-2) 1 (by decide)]; decide)
theorem i1 : Lib.itoa 1 = [49] := by
  have := Lib.itoa_nonneg 1
  rw [Lib.decDigits_one (by decide)] at this
  exact this
theorem i2 : Lib.itoa 2 = [50] := by
  have := Lib.itoa_nonneg 2
  rw [Lib.decDigits_one (by decide)] at this
  exact this
theorem i3 : Lib.itoa 3 = [51] := by
  have := Lib.itoa_nonneg 3
  rw [Lib.decDigits_one (by decide)] at this
  exact this
theorem im2 : Lib.itoa (-2) = [45, 50] := by
  have := Lib.itoa_neg 2 (by decide)
  rw [Lib.decDigits_one (by decide)] at this
  exact this
theorem x13 : textR 1 3 = [49, 47, 51] := by unfold textR; rw [i1, i3, if_neg (by decide)]; rfl
theorem x11 : textR 1 1 = [49] := by unfold textR; rw [i1, if_pos rfl]; rfl
theorem x31 : textR 3 1 = [51] := by unfold textR; rw [i3, if_pos rfl]; rfl
theorem x21 : textR 2 1 = [50] := by unfold textR; rw [i2, if_pos rfl]; rfl
theorem xm21 : textR (-2) 1 = [45, 50] := by unfold textR; rw [im2, if_pos rfl]; rfl
theorem txN (f : Nat) (n d : Int) : txt (f + 1) (eN n d) = textR n d := rfl
theorem txV (f : Nat) (s : ByteArray) : txt (f + 1) (eV s) = s.data.toList := rfl
theorem tx_2 (f : Nat) (k : Int) (a b : TE) (h1 : ¬ k = 1) (h2 : ¬ k = 2) (h6 : k ≤ 6) : txt (f + 1) (e2 k a b) = par (need1 k a.h b.h) (txt f a) ++ (opK k ++ par (need2 k b.h) (txt f b)) := by
  show (if _ then _ else _) = _
  rw [if_neg (show ¬ (e2 k a b).h.kind = 1 from h1), if_neg (show ¬ (e2 k a b).h.kind = 2 from h2), if_pos (show (e2 k a b).h.kind ≤ 6 from h6)]
  rfl
theorem tx_7 (f : Nat) (a : TE) : txt (f + 1) (e1 7 0 a) = 45 :: par (needM a.h) (txt f a) := by
  show (if _ then _ else _) = _
  rw [if_neg (show ¬ (e1 7 0 a).h.kind = 1 by show ¬ (7 : Int) = 1; decide), if_neg (show ¬ (e1 7 0 a).h.kind = 2 by show ¬ (7 : Int) = 2; decide), if_neg (show ¬ (e1 7 0 a).h.kind ≤ 6 by show ¬ (7 : Int) ≤ 6; decide), if_pos (show (e1 7 0 a).h.kind = 7 from rfl)]
  rfl
theorem tx_8 (f : Nat) (a : TE) : txt (f + 1) (e1 8 3 a) = par (needW a.h) (txt f a) ++ 94 :: Lib.itoa 3 := by
  show (if _ then _ else _) = _
  rw [if_neg (show ¬ (e1 8 3 a).h.kind = 1 by show ¬ (8 : Int) = 1; decide), if_neg (show ¬ (e1 8 3 a).h.kind = 2 by show ¬ (8 : Int) = 2; decide), if_neg (show ¬ (e1 8 3 a).h.kind ≤ 6 by show ¬ (8 : Int) ≤ 6; decide), if_neg (show ¬ (e1 8 3 a).h.kind = 7 by show ¬ (8 : Int) = 7; decide), if_pos (show (e1 8 3 a).h.kind = 8 from rfl)]
  rfl
theorem tx1 : txt 20 t1 = [120, 32, 45, 32, 40, 121, 32, 45, 32, 49, 47, 51, 41] := by
  unfold t1
  rw [tx_2 19 4 _ _ (by decide) (by decide) (by decide), txV 18, tx_2 18 4 _ _ (by decide) (by decide) (by decide), txV 17, txN 17, x13]
  decide +kernel
theorem tx2 : txt 20 t2 = [120, 32, 42, 32, 40, 49, 47, 51, 41] := by
  unfold t2
  rw [tx_2 19 5 _ _ (by decide) (by decide) (by decide), txV 18, txN 18, x13]
  decide +kernel
theorem tx3 : txt 20 t3 = [49, 47, 51, 32, 42, 32, 120] := by
  unfold t3
  rw [tx_2 19 5 _ _ (by decide) (by decide) (by decide), txV 18, txN 18, x13]
  decide +kernel
theorem tx4 : txt 20 t4 = [40, 49, 41, 32, 47, 32, 51] := by
  unfold t4
  rw [tx_2 19 6 _ _ (by decide) (by decide) (by decide), txN 18, txN 18, x11, x31]
  decide +kernel
theorem tx5 : txt 20 t5 = [45, 40, 50, 41] := by
  unfold t5
  rw [tx_7 19, txN 18, x21]
  decide +kernel
theorem tx6 : txt 20 t6 = [40, 45, 50, 41, 94, 51] := by
  unfold t6
  rw [tx_8 19, txN 18, xm21, i3]
  decide +kernel
end Go.Proofs.YtkjoohnndobjeaaGreatDoor
namespace Go.Proofs.YtkjoohnndobjeaaGreatDoor
open Go.RowKit Go.Fl Go.Fl.Nm Go.Fl.Fm Go.Fl.Rt
set_option maxHeartbeats 4000000 in
set_option maxRecDepth 100000 in
theorem fAwake_any (w : World) (ht : RB w) : Calls Tryz.prog 26 #[] w (RetB (.bool true) w) := by
  have HT := Lib.hid ht
  clear ht
  have zX : bX.size ≤ maxLen := by decide
  have zY : bY.size ≤ maxLen := by decide
  go_enter Tryz.func26, Tryz.ntmps26
  go_wp2_with fail
  refine (v_any bX w).mono ?_
  rw [show (ndV bX).val = Value.agg #[.int .i64 2, .int .i64 0, .int .i64 0, .string ⟨#[120]⟩, .int .i64 0, .slice none 0 0] from rfl]
  rintro e w1 ⟨rfl, HB1⟩
  have F1t := Lib.hid (HT.out.belowW HB1.out)
  go_wp2_with fail
  refine (v_any bY w1).mono ?_
  rw [show (ndV bY).val = Value.agg #[.int .i64 2, .int .i64 0, .int .i64 0, .string ⟨#[121]⟩, .int .i64 0, .slice none 0 0] from rfl]
  rintro e w2 ⟨rfl, HB2⟩
  have F2t := Lib.hid (F1t.out.belowW HB2.out)
  have HL2 := Lib.hid (HB1.out.trans (HB2.out.mono HB1.out.size))
  go_wp2_with fail
  refine (num_any 1 3 w2).mono ?_
  rw [show (ndN 1 3).val = Value.agg #[.int .i64 1, .int .i64 1, .int .i64 3, .string ⟨#[]⟩, .int .i64 0, .slice none 0 0] from rfl]
  rintro e w3 ⟨rfl, HB3⟩
  have F3t := Lib.hid (F2t.out.belowW HB3.out)
  have HL3 := Lib.hid (HL2.out.trans (HB3.out.mono HL2.out.size))
  go_wp2_with fail
  refine (two_any 4 (eV bY) (eN 1 3) (ndV bY) (ndN 1 3) w3 (by decide) (in_V _ bY zY) (in_N _ 1 3 (by decide) (by decide))).mono ?_
  rintro e w4 ⟨z0, rfl, Hz0, HB4⟩
  have F4t := Lib.hid (F3t.out.belowW HB4.out)
  have HL4 := Lib.hid (HL3.out.trans (HB4.out.mono HL3.out.size))
  have F4z0 := Lib.hid (Hz0.out)
  go_wp2_with fail
  refine (two_any 4 (eV bX) (e2 4 (eV bY) (eN 1 3)) (ndV bX) (z0) w4 (by decide) (in_V _ bX zX) F4z0.out).mono ?_
  rintro e w5 ⟨z1, rfl, Hz1, HB5⟩
  have F5t := Lib.hid (F4t.out.belowW HB5.out)
  have F5z0 := Lib.hid (F4z0.out.belowW HB5.out)
  have HL5 := Lib.hid (HL4.out.trans (HB5.out.mono HL4.out.size))
  have F5z1 := Lib.hid (Hz1.out)
  go_wp2_with fail
  refine (v_any bX w5).mono ?_
  rw [show (ndV bX).val = Value.agg #[.int .i64 2, .int .i64 0, .int .i64 0, .string ⟨#[120]⟩, .int .i64 0, .slice none 0 0] from rfl]
  rintro e w6 ⟨rfl, HB6⟩
  have F6t := Lib.hid (F5t.out.belowW HB6.out)
  have F6z0 := Lib.hid (F5z0.out.belowW HB6.out)
  have F6z1 := Lib.hid (F5z1.out.belowW HB6.out)
  have HL6 := Lib.hid (HL5.out.trans (HB6.out.mono HL5.out.size))
  go_wp2_with fail
  refine (num_any 1 3 w6).mono ?_
  rw [show (ndN 1 3).val = Value.agg #[.int .i64 1, .int .i64 1, .int .i64 3, .string ⟨#[]⟩, .int .i64 0, .slice none 0 0] from rfl]
  rintro e w7 ⟨rfl, HB7⟩
  have F7t := Lib.hid (F6t.out.belowW HB7.out)
  have F7z0 := Lib.hid (F6z0.out.belowW HB7.out)
  have F7z1 := Lib.hid (F6z1.out.belowW HB7.out)
  have HL7 := Lib.hid (HL6.out.trans (HB7.out.mono HL6.out.size))
  go_wp2_with fail
  refine (two_any 5 (eV bX) (eN 1 3) (ndV bX) (ndN 1 3) w7 (by decide) (in_V _ bX zX) (in_N _ 1 3 (by decide) (by decide))).mono ?_
  rintro e w8 ⟨z2, rfl, Hz2, HB8⟩
  have F8t := Lib.hid (F7t.out.belowW HB8.out)
  have F8z0 := Lib.hid (F7z0.out.belowW HB8.out)
  have F8z1 := Lib.hid (F7z1.out.belowW HB8.out)
  have HL8 := Lib.hid (HL7.out.trans (HB8.out.mono HL7.out.size))
  have F8z2 := Lib.hid (Hz2.out)
  go_wp2_with fail
  refine (num_any 1 3 w8).mono ?_
  rw [show (ndN 1 3).val = Value.agg #[.int .i64 1, .int .i64 1, .int .i64 3, .string ⟨#[]⟩, .int .i64 0, .slice none 0 0] from rfl]
  rintro e w9 ⟨rfl, HB9⟩
  have F9t := Lib.hid (F8t.out.belowW HB9.out)
  have F9z0 := Lib.hid (F8z0.out.belowW HB9.out)
  have F9z1 := Lib.hid (F8z1.out.belowW HB9.out)
  have F9z2 := Lib.hid (F8z2.out.belowW HB9.out)
  have HL9 := Lib.hid (HL8.out.trans (HB9.out.mono HL8.out.size))
  go_wp2_with fail
  refine (v_any bX w9).mono ?_
  rw [show (ndV bX).val = Value.agg #[.int .i64 2, .int .i64 0, .int .i64 0, .string ⟨#[120]⟩, .int .i64 0, .slice none 0 0] from rfl]
  rintro e w10 ⟨rfl, HB10⟩
  have F10t := Lib.hid (F9t.out.belowW HB10.out)
  have F10z0 := Lib.hid (F9z0.out.belowW HB10.out)
  have F10z1 := Lib.hid (F9z1.out.belowW HB10.out)
  have F10z2 := Lib.hid (F9z2.out.belowW HB10.out)
  have HL10 := Lib.hid (HL9.out.trans (HB10.out.mono HL9.out.size))
  go_wp2_with fail
  refine (two_any 5 (eN 1 3) (eV bX) (ndN 1 3) (ndV bX) w10 (by decide) (in_N _ 1 3 (by decide) (by decide)) (in_V _ bX zX)).mono ?_
  rintro e w11 ⟨z3, rfl, Hz3, HB11⟩
  have F11t := Lib.hid (F10t.out.belowW HB11.out)
  have F11z0 := Lib.hid (F10z0.out.belowW HB11.out)
  have F11z1 := Lib.hid (F10z1.out.belowW HB11.out)
  have F11z2 := Lib.hid (F10z2.out.belowW HB11.out)
  have HL11 := Lib.hid (HL10.out.trans (HB11.out.mono HL10.out.size))
  have F11z3 := Lib.hid (Hz3.out)
  go_wp2_with fail
  refine (num_any 1 1 w11).mono ?_
  rw [show (ndN 1 1).val = Value.agg #[.int .i64 1, .int .i64 1, .int .i64 1, .string ⟨#[]⟩, .int .i64 0, .slice none 0 0] from rfl]
  rintro e w12 ⟨rfl, HB12⟩
  have F12t := Lib.hid (F11t.out.belowW HB12.out)
  have F12z0 := Lib.hid (F11z0.out.belowW HB12.out)
  have F12z1 := Lib.hid (F11z1.out.belowW HB12.out)
  have F12z2 := Lib.hid (F11z2.out.belowW HB12.out)
  have F12z3 := Lib.hid (F11z3.out.belowW HB12.out)
  have HL12 := Lib.hid (HL11.out.trans (HB12.out.mono HL11.out.size))
  go_wp2_with fail
  refine (num_any 3 1 w12).mono ?_
  rw [show (ndN 3 1).val = Value.agg #[.int .i64 1, .int .i64 3, .int .i64 1, .string ⟨#[]⟩, .int .i64 0, .slice none 0 0] from rfl]
  rintro e w13 ⟨rfl, HB13⟩
  have F13t := Lib.hid (F12t.out.belowW HB13.out)
  have F13z0 := Lib.hid (F12z0.out.belowW HB13.out)
  have F13z1 := Lib.hid (F12z1.out.belowW HB13.out)
  have F13z2 := Lib.hid (F12z2.out.belowW HB13.out)
  have F13z3 := Lib.hid (F12z3.out.belowW HB13.out)
  have HL13 := Lib.hid (HL12.out.trans (HB13.out.mono HL12.out.size))
  go_wp2_with fail
  refine (two_any 6 (eN 1 1) (eN 3 1) (ndN 1 1) (ndN 3 1) w13 (by decide) (in_N _ 1 1 (by decide) (by decide)) (in_N _ 3 1 (by decide) (by decide))).mono ?_
  rintro e w14 ⟨z4, rfl, Hz4, HB14⟩
  have F14t := Lib.hid (F13t.out.belowW HB14.out)
  have F14z0 := Lib.hid (F13z0.out.belowW HB14.out)
  have F14z1 := Lib.hid (F13z1.out.belowW HB14.out)
  have F14z2 := Lib.hid (F13z2.out.belowW HB14.out)
  have F14z3 := Lib.hid (F13z3.out.belowW HB14.out)
  have HL14 := Lib.hid (HL13.out.trans (HB14.out.mono HL13.out.size))
  have F14z4 := Lib.hid (Hz4.out)
  go_wp2_with fail
  refine (num_any 2 1 w14).mono ?_
  rw [show (ndN 2 1).val = Value.agg #[.int .i64 1, .int .i64 2, .int .i64 1, .string ⟨#[]⟩, .int .i64 0, .slice none 0 0] from rfl]
  rintro e w15 ⟨rfl, HB15⟩
  have F15t := Lib.hid (F14t.out.belowW HB15.out)
  have F15z0 := Lib.hid (F14z0.out.belowW HB15.out)
  have F15z1 := Lib.hid (F14z1.out.belowW HB15.out)
  have F15z2 := Lib.hid (F14z2.out.belowW HB15.out)
  have F15z3 := Lib.hid (F14z3.out.belowW HB15.out)
  have F15z4 := Lib.hid (F14z4.out.belowW HB15.out)
  have HL15 := Lib.hid (HL14.out.trans (HB15.out.mono HL14.out.size))
  go_wp2_with fail
  obtain ⟨w16, hw⟩ : ∃ z9 : World, z9 = w15.alloc (.cells #[.int .i64 1, .int .i64 2, .int .i64 1, .string ⟨#[]⟩, .int .i64 0, .slice none 0 0] 29) := ⟨_, rfl⟩
  have HB16 := Lib.hid (show Below w15.heap.size w15 w16 by rw [hw]; exact below_box _ _)
  have Gz5 := Lib.hid (show InE w16 (e1 7 0 (eN 2 1)) ⟨⟨7, 0, 0, ⟨#[]⟩, 0⟩, some ⟨w15.heap.size, 0, none⟩, 1, 1⟩ by rw [hw]; exact in_new1 w15 7 0 (eN 2 1) (ndN 2 1) 29 (by decide) (by decide) (in_N _ 2 1 (by decide) (by decide)))
  have hszz5 : w16.heap.size = w15.heap.size + 1 := by rw [hw]; exact World.size_alloc _ _
  rw [← hw]
  clear hw
  have F16t := Lib.hid (F15t.out.belowW HB16.out)
  have F16z0 := Lib.hid (F15z0.out.belowW HB16.out)
  have F16z1 := Lib.hid (F15z1.out.belowW HB16.out)
  have F16z2 := Lib.hid (F15z2.out.belowW HB16.out)
  have F16z3 := Lib.hid (F15z3.out.belowW HB16.out)
  have F16z4 := Lib.hid (F15z4.out.belowW HB16.out)
  have HL16 := Lib.hid (HL15.out.trans (HB16.out.mono HL15.out.size))
  refine (num_any (-2) 1 w16).mono ?_
  rw [show (ndN (-2) 1).val = Value.agg #[.int .i64 1, .int .i64 (-2), .int .i64 1, .string ⟨#[]⟩, .int .i64 0, .slice none 0 0] from rfl]
  rintro e w17 ⟨rfl, HB17⟩
  have F17t := Lib.hid (F16t.out.belowW HB17.out)
  have F17z0 := Lib.hid (F16z0.out.belowW HB17.out)
  have F17z1 := Lib.hid (F16z1.out.belowW HB17.out)
  have F17z2 := Lib.hid (F16z2.out.belowW HB17.out)
  have F17z3 := Lib.hid (F16z3.out.belowW HB17.out)
  have F17z4 := Lib.hid (F16z4.out.belowW HB17.out)
  have F17z5 := Lib.hid (Gz5.out.belowW HB17.out)
  have HL17 := Lib.hid (HL16.out.trans (HB17.out.mono HL16.out.size))
  go_wp2_with fail
  obtain ⟨w18, hw⟩ : ∃ z9 : World, z9 = w17.alloc (.cells #[.int .i64 1, .int .i64 (-2), .int .i64 1, .string ⟨#[]⟩, .int .i64 0, .slice none 0 0] 29) := ⟨_, rfl⟩
  have HB18 := Lib.hid (show Below w17.heap.size w17 w18 by rw [hw]; exact below_box _ _)
  have Gz6 := Lib.hid (show InE w18 (e1 8 3 (eN (-2) 1)) ⟨⟨8, 0, 0, ⟨#[]⟩, 3⟩, some ⟨w17.heap.size, 0, none⟩, 1, 1⟩ by rw [hw]; exact in_new1 w17 8 3 (eN (-2) 1) (ndN (-2) 1) 29 (by decide) (by decide) (in_N _ (-2) 1 (by decide) (by decide)))
  have hszz6 : w18.heap.size = w17.heap.size + 1 := by rw [hw]; exact World.size_alloc _ _
  rw [← hw]
  clear hw
  have F18t := Lib.hid (F17t.out.belowW HB18.out)
  have F18z0 := Lib.hid (F17z0.out.belowW HB18.out)
  have F18z1 := Lib.hid (F17z1.out.belowW HB18.out)
  have F18z2 := Lib.hid (F17z2.out.belowW HB18.out)
  have F18z3 := Lib.hid (F17z3.out.belowW HB18.out)
  have F18z4 := Lib.hid (F17z4.out.belowW HB18.out)
  have F18z5 := Lib.hid (F17z5.out.belowW HB18.out)
  have HL18 := Lib.hid (HL17.out.trans (HB18.out.mono HL17.out.size))
  obtain ⟨w19, hw⟩ : ∃ z9 : World, z9 = w18.alloc (.cells #[.int .i64 z1.h.kind, .int .i64 z1.h.n, .int .i64 z1.h.d, .string z1.h.name, .int .i64 z1.h.k, .slice z1.A z1.len z1.cap, .string ⟨#[120, 32, 45, 32, 40, 121, 32, 45, 32, 49, 47, 51, 41]⟩, .int .i64 z2.h.kind, .int .i64 z2.h.n, .int .i64 z2.h.d, .string z2.h.name, .int .i64 z2.h.k, .slice z2.A z2.len z2.cap, .string ⟨#[120, 32, 42, 32, 40, 49, 47, 51, 41]⟩, .int .i64 z3.h.kind, .int .i64 z3.h.n, .int .i64 z3.h.d, .string z3.h.name, .int .i64 z3.h.k, .slice z3.A z3.len z3.cap, .string ⟨#[49, 47, 51, 32, 42, 32, 120]⟩, .int .i64 z4.h.kind, .int .i64 z4.h.n, .int .i64 z4.h.d, .string z4.h.name, .int .i64 z4.h.k, .slice z4.A z4.len z4.cap, .string ⟨#[40, 49, 41, 32, 47, 32, 51]⟩, .int .i64 7, .int .i64 0, .int .i64 0, .string ⟨#[]⟩, .int .i64 0, .slice (some ⟨w15.heap.size, 0, none⟩) 1 1, .string ⟨#[45, 40, 50, 41]⟩, .int .i64 8, .int .i64 0, .int .i64 0, .string ⟨#[]⟩, .int .i64 3, .slice (some ⟨w17.heap.size, 0, none⟩) 1 1, .string ⟨#[40, 45, 50, 41, 94, 51]⟩] 110) := ⟨_, rfl⟩
  have HB19 := Lib.hid (show Below w18.heap.size w18 w19 by rw [hw]; exact below_box _ _)
  have GA := Lib.hid (show Blk w19 (w17.heap.size + 1) 110 #[.int .i64 z1.h.kind, .int .i64 z1.h.n, .int .i64 z1.h.d, .string z1.h.name, .int .i64 z1.h.k, .slice z1.A z1.len z1.cap, .string ⟨#[120, 32, 45, 32, 40, 121, 32, 45, 32, 49, 47, 51, 41]⟩, .int .i64 z2.h.kind, .int .i64 z2.h.n, .int .i64 z2.h.d, .string z2.h.name, .int .i64 z2.h.k, .slice z2.A z2.len z2.cap, .string ⟨#[120, 32, 42, 32, 40, 49, 47, 51, 41]⟩, .int .i64 z3.h.kind, .int .i64 z3.h.n, .int .i64 z3.h.d, .string z3.h.name, .int .i64 z3.h.k, .slice z3.A z3.len z3.cap, .string ⟨#[49, 47, 51, 32, 42, 32, 120]⟩, .int .i64 z4.h.kind, .int .i64 z4.h.n, .int .i64 z4.h.d, .string z4.h.name, .int .i64 z4.h.k, .slice z4.A z4.len z4.cap, .string ⟨#[40, 49, 41, 32, 47, 32, 51]⟩, .int .i64 7, .int .i64 0, .int .i64 0, .string ⟨#[]⟩, .int .i64 0, .slice (some ⟨w15.heap.size, 0, none⟩) 1 1, .string ⟨#[45, 40, 50, 41]⟩, .int .i64 8, .int .i64 0, .int .i64 0, .string ⟨#[]⟩, .int .i64 3, .slice (some ⟨w17.heap.size, 0, none⟩) 1 1, .string ⟨#[40, 45, 50, 41, 94, 51]⟩] by rw [hw, ← hszz6]; exact Blk.new _ _ _)
  rw [← hw]
  clear hw
  have F19t := Lib.hid (F18t.out.belowW HB19.out)
  have F19z0 := Lib.hid (F18z0.out.belowW HB19.out)
  have F19z1 := Lib.hid (F18z1.out.belowW HB19.out)
  have F19z2 := Lib.hid (F18z2.out.belowW HB19.out)
  have F19z3 := Lib.hid (F18z3.out.belowW HB19.out)
  have F19z4 := Lib.hid (F18z4.out.belowW HB19.out)
  have F19z5 := Lib.hid (F18z5.out.belowW HB19.out)
  have F19z6 := Lib.hid (Gz6.out.belowW HB19.out)
  have HL19 := Lib.hid (HL18.out.trans (HB19.out.mono HL18.out.size))
  have HEX := Lib.hid (show ∀ j : Nat, j < 6 → ∃ (T : TE) (x : Nd) (s : ByteArray), InE w19 T x ∧ okE T = true ∧ txt 20 T = s.data.toList ∧ ∀ (r : Nat) (u : Value), (x.cells ++ [.string s])[r]? = some u → w19.cell? ⟨w17.heap.size + 1, j * 7 + r, none⟩ = some u by
    intro j hj
    obtain h | h | h | h | h | h : j = 0 ∨ j = 1 ∨ j = 2 ∨ j = 3 ∨ j = 4 ∨ j = 5 := by omega
    · subst h
      refine ⟨t1, z1, ⟨#[120, 32, 45, 32, 40, 121, 32, 45, 32, 49, 47, 51, 41]⟩, F19z1.out, ok1, tx1, fun r u hr => ?_⟩
      match r with
      | 0 => exact (GA.out.cell 0).trans hr
      | 1 => exact (GA.out.cell 1).trans hr
      | 2 => exact (GA.out.cell 2).trans hr
      | 3 => exact (GA.out.cell 3).trans hr
      | 4 => exact (GA.out.cell 4).trans hr
      | 5 => exact (GA.out.cell 5).trans hr
      | 6 => exact (GA.out.cell 6).trans hr
      | r + 7 => cases hr
    · subst h
      refine ⟨t2, z2, ⟨#[120, 32, 42, 32, 40, 49, 47, 51, 41]⟩, F19z2.out, ok2, tx2, fun r u hr => ?_⟩
      match r with
      | 0 => exact (GA.out.cell 7).trans hr
      | 1 => exact (GA.out.cell 8).trans hr
      | 2 => exact (GA.out.cell 9).trans hr
      | 3 => exact (GA.out.cell 10).trans hr
      | 4 => exact (GA.out.cell 11).trans hr
      | 5 => exact (GA.out.cell 12).trans hr
      | 6 => exact (GA.out.cell 13).trans hr
      | r + 7 => cases hr
    · subst h
      refine ⟨t3, z3, ⟨#[49, 47, 51, 32, 42, 32, 120]⟩, F19z3.out, ok3, tx3, fun r u hr => ?_⟩
      match r with
      | 0 => exact (GA.out.cell 14).trans hr
      | 1 => exact (GA.out.cell 15).trans hr
      | 2 => exact (GA.out.cell 16).trans hr
      | 3 => exact (GA.out.cell 17).trans hr
      | 4 => exact (GA.out.cell 18).trans hr
      | 5 => exact (GA.out.cell 19).trans hr
      | 6 => exact (GA.out.cell 20).trans hr
      | r + 7 => cases hr
    · subst h
      refine ⟨t4, z4, ⟨#[40, 49, 41, 32, 47, 32, 51]⟩, F19z4.out, ok4, tx4, fun r u hr => ?_⟩
      match r with
      | 0 => exact (GA.out.cell 21).trans hr
      | 1 => exact (GA.out.cell 22).trans hr
      | 2 => exact (GA.out.cell 23).trans hr
      | 3 => exact (GA.out.cell 24).trans hr
      | 4 => exact (GA.out.cell 25).trans hr
      | 5 => exact (GA.out.cell 26).trans hr
      | 6 => exact (GA.out.cell 27).trans hr
      | r + 7 => cases hr
    · subst h
      refine ⟨t5, ⟨⟨7, 0, 0, ⟨#[]⟩, 0⟩, some ⟨w15.heap.size, 0, none⟩, 1, 1⟩, ⟨#[45, 40, 50, 41]⟩, F19z5.out, ok5, tx5, fun r u hr => ?_⟩
      match r with
      | 0 => exact (GA.out.cell 28).trans hr
      | 1 => exact (GA.out.cell 29).trans hr
      | 2 => exact (GA.out.cell 30).trans hr
      | 3 => exact (GA.out.cell 31).trans hr
      | 4 => exact (GA.out.cell 32).trans hr
      | 5 => exact (GA.out.cell 33).trans hr
      | 6 => exact (GA.out.cell 34).trans hr
      | r + 7 => cases hr
    · subst h
      refine ⟨t6, ⟨⟨8, 0, 0, ⟨#[]⟩, 3⟩, some ⟨w17.heap.size, 0, none⟩, 1, 1⟩, ⟨#[40, 45, 50, 41, 94, 51]⟩, F19z6.out, ok6, tx6, fun r u hr => ?_⟩
      match r with
      | 0 => exact (GA.out.cell 35).trans hr
      | 1 => exact (GA.out.cell 36).trans hr
      | 2 => exact (GA.out.cell 37).trans hr
      | 3 => exact (GA.out.cell 38).trans hr
      | 4 => exact (GA.out.cell 39).trans hr
      | 5 => exact (GA.out.cell 40).trans hr
      | 6 => exact (GA.out.cell 41).trans hr
      | r + 7 => cases hr
  )
  go_loopg [33] 6 (fun k iv wr => ∃ j : Nat, iv = .int .i64 j ∧ j ≤ 6 ∧ k = 6 - j ∧ Hid (Below w19.heap.size w19 wr))
  case atStart => exact ⟨0, rfl, by omega, rfl, Lib.hid (Below.refl _ _)⟩
  case round =>
    obtain ⟨j, rfl, hj, rfl, HL⟩ := hrel
    by_cases hlt : j < 6
    · obtain ⟨T, x, s, hin, hok, htx, hcell⟩ := HEX.out j hlt
      have HIN := Lib.hid (hin.go HL.out)
      have HTR := Lib.hid (F19t.out.belowW HL.out)
      have HOK := Lib.hid hok
      have HTX := Lib.hid htx
      have hlt2 : w17.heap.size + 1 < w19.heap.size := GA.out.lt
      have q0 : wr.cell? ⟨w17.heap.size + 1, j * 7, none⟩ = some (.int .i64 x.h.kind) := (HL.out.cell (p := ⟨w17.heap.size + 1, _, none⟩) hlt2).trans (hcell 0 _ rfl)
      have q1 : wr.cell? ⟨w17.heap.size + 1, j * 7 + 1, none⟩ = some (.int .i64 x.h.n) := (HL.out.cell (p := ⟨w17.heap.size + 1, _, none⟩) hlt2).trans (hcell 1 _ rfl)
      have q2 : wr.cell? ⟨w17.heap.size + 1, j * 7 + 2, none⟩ = some (.int .i64 x.h.d) := (HL.out.cell (p := ⟨w17.heap.size + 1, _, none⟩) hlt2).trans (hcell 2 _ rfl)
      have q3 : wr.cell? ⟨w17.heap.size + 1, j * 7 + 3, none⟩ = some (.string x.h.name) := (HL.out.cell (p := ⟨w17.heap.size + 1, _, none⟩) hlt2).trans (hcell 3 _ rfl)
      have q4 : wr.cell? ⟨w17.heap.size + 1, j * 7 + 4, none⟩ = some (.int .i64 x.h.k) := (HL.out.cell (p := ⟨w17.heap.size + 1, _, none⟩) hlt2).trans (hcell 4 _ rfl)
      have q5 : wr.cell? ⟨w17.heap.size + 1, j * 7 + 5, none⟩ = some (.slice x.A x.len x.cap) := (HL.out.cell (p := ⟨w17.heap.size + 1, _, none⟩) hlt2).trans (hcell 5 _ rfl)
      have q6 : wr.cell? ⟨w17.heap.size + 1, j * 7 + 6, none⟩ = some (.string s) := (HL.out.cell (p := ⟨w17.heap.size + 1, _, none⟩) hlt2).trans (hcell 6 _ rfl)
      clear hin hok htx hcell
      go_wp2_with fail
      obtain ⟨wt, hwt⟩ : ∃ z9 : World, z9 = wr.alloc (.cells #[.int .i64 x.h.kind, .int .i64 x.h.n, .int .i64 x.h.d, .string x.h.name, .int .i64 x.h.k, .slice x.A x.len x.cap, .string s] 110) := ⟨_, rfl⟩
      have hbt : Below wr.heap.size wr wt := by rw [hwt]; exact below_box _ _
      have GT := Lib.hid (show Blk wt wr.heap.size 110 #[.int .i64 x.h.kind, .int .i64 x.h.n, .int .i64 x.h.d, .string x.h.name, .int .i64 x.h.k, .slice x.A x.len x.cap, .string s] by rw [hwt]; exact Blk.new _ _ _)
      have HLT := Lib.hid (HL.out.trans (hbt.mono HL.out.size))
      have HINT := Lib.hid (HIN.out.go hbt)
      have HTT := Lib.hid (HTR.out.belowW hbt)
      rw [← hwt]
      clear hwt hbt q0 q1 q2 q3 q4 q5 q6
      refine (fexpr_any T x wt HINT.out HTT.out).mono ?_
      rintro e w5 ⟨S, rfl, HS, HB5⟩
      have hS := HS.out
      rw [HOK.out, if_pos rfl, HTX.out] at hS
      have hSs : S = s := by cases S; cases s; simpa using hS
      subst hSs
      rw [HOK.out, if_pos rfl]
      have GT5 := Lib.hid (GT.out.belowW HB5.out)
      have HL5 := Lib.hid (HLT.out.trans (HB5.out.mono HLT.out.size))
      have p6 : w5.cell? ⟨wr.heap.size, 6, none⟩ = some (.string S) := GT5.out.cell 6
      clear hS
      go_wp2_with fail
      go_roundg (6 - (j + 1))
      case measure => omega
      case rel => exact ⟨j + 1, by go_num, by omega, rfl, HL5⟩
    · go_wp2_with fail
      go_ret
      exact ⟨rfl, Lib.hid (HL19.out.trans (HL.out.mono HL19.out.size))⟩
end Go.Proofs.YtkjoohnndobjeaaGreatDoor
