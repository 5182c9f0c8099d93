/-
  The small expressions of the law's examples.
-/
import Derived.Test.YtoogeihbhhcpaaaDoorFmH
set_option linter.unusedVariables false
namespace Go.Proofs.YtoogeihbhhcpaaaDoor
open Go.RowKit Go.Fl Go.Fl.Nm Go.Fl.Fm Go.Fl.Rt
/-- A number, a variable, an operation of two, of one. -/
def eN (n d : Int) : TE := .mk ⟨1, n, d, ⟨#[]⟩, 0⟩ []
def eV (s : ByteArray) : TE := .mk ⟨2, 0, 0, s, 0⟩ []
def e2 (k : Int) (a b : TE) : TE := .mk ⟨k, 0, 0, ⟨#[]⟩, 0⟩ [a, b]
def e1 (k m : Int) (a : TE) : TE := .mk ⟨k, 0, 0, ⟨#[]⟩, m⟩ [a]
def ndN (n d : Int) : Nd := ⟨⟨1, n, d, ⟨#[]⟩, 0⟩, none, 0, 0⟩
def ndV (s : ByteArray) : Nd := ⟨⟨2, 0, 0, s, 0⟩, none, 0, 0⟩
theorem hd_mk (kd n d k : Int) (s : ByteArray) (h1 : -1000 ≤ kd ∧ kd ≤ 1000) (h2 : -1000 ≤ n ∧ n ≤ 1000) (h3 : -1000 ≤ d ∧ d ≤ 1000) (h4 : -1000 ≤ k ∧ k ≤ 1000) (h5 : s.size ≤ maxLen) : HdOk ⟨kd, n, d, s, k⟩ := by
  refine ⟨?_, ?_, ?_, ?_, ?_, ?_, ?_, ?_, h5⟩ <;> simp only <;> omega
theorem d0 : (-1000 : Int) ≤ 0 ∧ (0 : Int) ≤ 1000 := by decide
theorem z0 : (⟨#[]⟩ : ByteArray).size ≤ maxLen := Nat.zero_le _
theorem in_N (w : World) (n d : Int) (hn : -1000 ≤ n ∧ n ≤ 1000) (hd : -1000 ≤ d ∧ d ≤ 1000) : InE w (eN n d) (ndN n d) :=
  .mk _ [] none 0 0 [] (hd_mk 1 n d 0 _ (by decide) hn hd d0 z0) rfl (Nat.le_refl _) (Nat.zero_le _) rfl (Rd.none_ _ _) (fun i T v h => by cases h)
theorem in_V (w : World) (s : ByteArray) (hs : s.size ≤ maxLen) : InE w (eV s) (ndV s) :=
  .mk _ [] none 0 0 [] (hd_mk 2 0 0 0 s (by decide) d0 d0 d0 hs) rfl (Nat.le_refl _) (Nat.zero_le _) rfl (Rd.none_ _ _) (fun i T v h => by cases h)
/-- A new slice of elements. -/
theorem in_new2 (w : World) (k m : Int) (a b : TE) (x y : Nd) (t : TypeId) (hk : -1000 ≤ k ∧ k ≤ 1000) (hm : -1000 ≤ m ∧ m ≤ 1000) (ha : InE w a x) (hb : InE w b y) :
    InE (w.alloc (.cells (x.cells ++ y.cells).toArray t)) (.mk ⟨k, 0, 0, ⟨#[]⟩, m⟩ [a, b]) ⟨⟨k, 0, 0, ⟨#[]⟩, m⟩, some ⟨w.heap.size, 0, none⟩, 2, 2⟩ :=
  .mk _ [a, b] _ 2 2 [x, y] (hd_mk k 0 0 m _ hk d0 d0 hm z0) rfl (Nat.le_refl _) (by decide) rfl
    (by
      refine ⟨rfl, fun _ => ⟨w.heap.size, 0, rfl, by simp, fun j u hu => ?_⟩⟩
      have h := (Blk.new w t (x.cells ++ y.cells).toArray).cell j
      rw [Nat.zero_add, h, List.getElem?_toArray]
      exact hu)
    (fun i T v h1 h2 => by
      match i with
      | 0 => injection h1 with h1; injection h2 with h2; subst h1 h2; exact ha.go (below_box w _)
      | 1 => injection h1 with h1; injection h2 with h2; subst h1 h2; exact hb.go (below_box w _)
      | i + 2 => cases h1)
theorem in_new1 (w : World) (k m : Int) (a : TE) (x : Nd) (t : TypeId) (hk : -1000 ≤ k ∧ k ≤ 1000) (hm : -1000 ≤ m ∧ m ≤ 1000) (ha : InE w a x) :
    InE (w.alloc (.cells x.cells.toArray t)) (.mk ⟨k, 0, 0, ⟨#[]⟩, m⟩ [a]) ⟨⟨k, 0, 0, ⟨#[]⟩, m⟩, some ⟨w.heap.size, 0, none⟩, 1, 1⟩ :=
  .mk _ [a] _ 1 1 [x] (hd_mk k 0 0 m _ hk d0 d0 hm z0) rfl (Nat.le_refl _) (by decide) rfl
    (by
      refine ⟨rfl, fun _ => ⟨w.heap.size, 0, rfl, by simp, fun j u hu => ?_⟩⟩
      have h := (Blk.new w t x.cells.toArray).cell j
      rw [Nat.zero_add, h, List.getElem?_toArray]
      have e : ndsCells [x] = x.cells := by show x.cells ++ [] = _; rw [List.append_nil]
      rw [e] at hu
      exact hu)
    (fun i T v h1 h2 => by
      match i with
      | 0 => injection h1 with h1; injection h2 with h2; subst h1 h2; exact ha.go (below_box w _)
      | i + 1 => cases h1)
theorem box6 (w : World) (a b c d e f : Value) : ∃ w1 : World, w1 = w.alloc (.cells #[a, b, c, d, e, f] 26) ∧ Hid (Below w.heap.size w w1) ∧ w1.cell? ⟨w.heap.size, 0, none⟩ = some a ∧ w1.cell? ⟨w.heap.size, 1, none⟩ = some b ∧ w1.cell? ⟨w.heap.size, 2, none⟩ = some c ∧ w1.cell? ⟨w.heap.size, 3, none⟩ = some d ∧ w1.cell? ⟨w.heap.size, 4, none⟩ = some e ∧ w1.cell? ⟨w.heap.size, 5, none⟩ = some f := by
  have h := Blk.new w 26 #[a, b, c, d, e, f]
  exact ⟨_, rfl, Lib.hid (below_box _ _), h.cell 0, h.cell 1, h.cell 2, h.cell 3, h.cell 4, h.cell 5⟩
set_option maxHeartbeats 1000000 in
theorem num_any (n d : Int) (w : World) : Calls Tryd.prog 10 #[.int .i64 n, .int .i64 d] w (RetB (ndN n d).val w) := by
  go_enter Tryd.func10, Tryd.ntmps10
  go_wp2_with fail
  obtain ⟨w1, hw, HB, p0, p1, p2, p3, p4, p5⟩ := box6 w (.int .i64 1) (.int .i64 n) (.int .i64 d) (.string ⟨#[]⟩) (.int .i64 0) (.slice none 0 0)
  rw [← hw]
  clear hw
  refine bodyPost_ret (v := .agg #[.int .i64 1, .int .i64 n, .int .i64 d, .string ⟨#[]⟩, .int .i64 0, .slice none 0 0]) (by simp [results, Tryd.results10, go_sem, p0, p1, p2, p3, p4, p5]) rfl ?_
  exact ⟨rfl, HB⟩
set_option maxHeartbeats 1000000 in
theorem v_any (s : ByteArray) (w : World) : Calls Tryd.prog 9 #[.string s] w (RetB (ndV s).val w) := by
  go_enter Tryd.func9, Tryd.ntmps9
  go_wp2_with fail
  obtain ⟨w1, hw, HB, p0, p1, p2, p3, p4, p5⟩ := box6 w (.int .i64 2) (.int .i64 0) (.int .i64 0) (.string s) (.int .i64 0) (.slice none 0 0)
  rw [← hw]
  clear hw
  refine bodyPost_ret (v := .agg #[.int .i64 2, .int .i64 0, .int .i64 0, .string s, .int .i64 0, .slice none 0 0]) (by simp [results, Tryd.results9, go_sem, p0, p1, p2, p3, p4, p5]) rfl ?_
  exact ⟨rfl, HB⟩
set_option maxHeartbeats 1000000 in
theorem two_any (k : Int) (a b : TE) (x y : Nd) (w : World) (hk : -1000 ≤ k ∧ k ≤ 1000) (ha : InE w a x) (hb : InE w b y) :
    Calls Tryd.prog 8 #[.int .i64 k, x.val, y.val] w (fun e w' => ∃ z : Nd, e = .returned z.val ∧ Hid (InE w' (e2 k a b) z) ∧ Hid (Below w.heap.size w w')) := by
  have HA := Lib.hid ha
  have HB := Lib.hid hb
  clear ha hb
  go_enter Tryd.func8, Tryd.ntmps8
  go_wp2_with fail
  obtain ⟨w3, hw3⟩ : ∃ z9 : World, z9 = ((w.alloc (.cells #[.int .i64 x.h.kind, .int .i64 x.h.n, .int .i64 x.h.d, .string x.h.name, .int .i64 x.h.k, .slice x.A x.len x.cap] 26)).alloc (.cells #[.int .i64 y.h.kind, .int .i64 y.h.n, .int .i64 y.h.d, .string y.h.name, .int .i64 y.h.k, .slice y.A y.len y.cap] 26)).alloc (.cells #[.int .i64 k, .int .i64 0, .int .i64 0, .string ⟨#[]⟩, .int .i64 0, .slice (some ⟨w.heap.size + 1 + 1 + 1, 0, none⟩) 2 2] 26) := ⟨_, rfl⟩
  have s1 := World.size_alloc w (.cells #[.int .i64 x.h.kind, .int .i64 x.h.n, .int .i64 x.h.d, .string x.h.name, .int .i64 x.h.k, .slice x.A x.len x.cap] 26)
  have hs3 : w3.heap.size = w.heap.size + 1 + 1 + 1 := by rw [hw3, World.size_alloc, World.size_alloc, World.size_alloc]
  have hb3 : Below w.heap.size w w3 := by
    rw [hw3]
    exact (((Below.refl _ _).alloc (Nat.le_refl _) _).alloc (by rw [World.size_alloc]; omega) _).alloc (by rw [World.size_alloc, World.size_alloc]; omega) _
  have hblk : Blk w3 (w.heap.size + 1 + 1) 26 #[.int .i64 k, .int .i64 0, .int .i64 0, .string ⟨#[]⟩, .int .i64 0, .slice (some ⟨w.heap.size + 1 + 1 + 1, 0, none⟩) 2 2] := by
    rw [hw3]
    have h := Blk.new ((w.alloc (.cells #[.int .i64 x.h.kind, .int .i64 x.h.n, .int .i64 x.h.d, .string x.h.name, .int .i64 x.h.k, .slice x.A x.len x.cap] 26)).alloc (.cells #[.int .i64 y.h.kind, .int .i64 y.h.n, .int .i64 y.h.d, .string y.h.name, .int .i64 y.h.k, .slice y.A y.len y.cap] 26)) 26 #[.int .i64 k, .int .i64 0, .int .i64 0, .string ⟨#[]⟩, .int .i64 0, .slice (some ⟨w.heap.size + 1 + 1 + 1, 0, none⟩) 2 2]
    rwa [World.size_alloc, World.size_alloc] at h
  have HI := Lib.hid (in_new2 w3 k 0 a b x y 26 hk d0 (HA.out.go hb3) (HB.out.go hb3))
  rw [hs3] at HI
  rw [← hw3]
  clear hw3 s1
  obtain ⟨w4, hw4⟩ : ∃ z9 : World, z9 = w3.alloc (.cells (x.cells ++ y.cells).toArray 26) := ⟨_, rfl⟩
  have hb4 : Below w3.heap.size w3 w4 := by rw [hw4]; exact below_box _ _
  have HB4 := Lib.hid (hb3.trans (hb4.mono hb3.size))
  have F4 := hblk.belowW hb4
  have p0 : w4.cell? ⟨w.heap.size + 1 + 1, 0, none⟩ = some (.int .i64 k) := F4.cell 0
  have p1 : w4.cell? ⟨w.heap.size + 1 + 1, 1, none⟩ = some (.int .i64 0) := F4.cell 1
  have p2 : w4.cell? ⟨w.heap.size + 1 + 1, 2, none⟩ = some (.int .i64 0) := F4.cell 2
  have p3 : w4.cell? ⟨w.heap.size + 1 + 1, 3, none⟩ = some (.string ⟨#[]⟩) := F4.cell 3
  have p4 : w4.cell? ⟨w.heap.size + 1 + 1, 4, none⟩ = some (.int .i64 0) := F4.cell 4
  have p5 : w4.cell? ⟨w.heap.size + 1 + 1, 5, none⟩ = some (.slice (some ⟨w.heap.size + 1 + 1 + 1, 0, none⟩) 2 2) := F4.cell 5
  rw [← hw4] at HI
  have hw4' : w3.alloc (.cells #[.int .i64 x.h.kind, .int .i64 x.h.n, .int .i64 x.h.d, .string x.h.name, .int .i64 x.h.k, .slice x.A x.len x.cap, .int .i64 y.h.kind, .int .i64 y.h.n, .int .i64 y.h.d, .string y.h.name, .int .i64 y.h.k, .slice y.A y.len y.cap] 26) = w4 := hw4.symm
  rw [hw4']
  clear hw4 hw4' hb4 hblk hb3 hs3 F4
  refine bodyPost_ret (v := .agg #[.int .i64 k, .int .i64 0, .int .i64 0, .string ⟨#[]⟩, .int .i64 0, .slice (some ⟨w.heap.size + 1 + 1 + 1, 0, none⟩) 2 2]) (by simp [results, Tryd.results8, go_sem, p0, p1, p2, p3, p4, p5]) rfl ?_
  exact ⟨⟨⟨k, 0, 0, ⟨#[]⟩, 0⟩, some ⟨w.heap.size + 1 + 1 + 1, 0, none⟩, 2, 2⟩, rfl, HI, HB4⟩
end Go.Proofs.YtoogeihbhhcpaaaDoor
