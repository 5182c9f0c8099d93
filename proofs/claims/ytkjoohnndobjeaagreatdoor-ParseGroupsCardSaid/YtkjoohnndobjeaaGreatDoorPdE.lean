/-
  The closures of ParseGroups.
-/
import Derived.Test.YtkjoohnndobjeaaGreatDoorQN
import Derived.Test.YtkjoohnndobjeaaGreatDoorQA
set_option linter.unusedVariables false
namespace Go.Proofs.YtkjoohnndobjeaaGreatDoor
open Go.RowKit Go.Fl Go.Fl.Nm Go.Fl.Fm Go.Fl.Rt Go.Fl.Pa
set_option maxHeartbeats 1000000 in
theorem g2_any (k : Int) (a b : TE) (x y : Nd) (w : World) (hk : -1000 ≤ k ∧ k ≤ 1000) (ha : InE w a x) (hb : InE w b y) :
    Calls Tryz.prog 24 #[.int .i64 k, x.val, y.val] w (fun e w' => ∃ z : Nd, e = .returned z.val ∧ Hid (InE w' (opE k [a, b]) z) ∧ Hid (Below w.heap.size w w')) := by
  have HA := Lib.hid ha
  have HB := Lib.hid hb
  clear ha hb
  go_enter Tryz.func24, Tryz.ntmps24
  go_wp2_with fail
  obtain ⟨w3, hw3⟩ : ∃ z9 : World, z9 = ((w.alloc (.cells #[.int .i64 x.h.kind, .int .i64 x.h.n, .int .i64 x.h.d, .string x.h.name, .int .i64 x.h.k, .slice x.A x.len x.cap] 29)).alloc (.cells #[.int .i64 y.h.kind, .int .i64 y.h.n, .int .i64 y.h.d, .string y.h.name, .int .i64 y.h.k, .slice y.A y.len y.cap] 29)).alloc (.cells #[.int .i64 k, .int .i64 0, .int .i64 0, .string ⟨#[]⟩, .int .i64 0, .slice (some ⟨w.heap.size + 1 + 1 + 1, 0, none⟩) 2 2] 29) := ⟨_, rfl⟩
  have s1 := World.size_alloc w (.cells #[.int .i64 x.h.kind, .int .i64 x.h.n, .int .i64 x.h.d, .string x.h.name, .int .i64 x.h.k, .slice x.A x.len x.cap] 29)
  have hs3 : w3.heap.size = w.heap.size + 1 + 1 + 1 := by rw [hw3, World.size_alloc, World.size_alloc, World.size_alloc]
  have hb3 : Below w.heap.size w w3 := by
    rw [hw3]
    exact (((Below.refl _ _).alloc (Nat.le_refl _) _).alloc (by rw [World.size_alloc]; omega) _).alloc (by rw [World.size_alloc, World.size_alloc]; omega) _
  have hblk : Blk w3 (w.heap.size + 1 + 1) 29 #[.int .i64 k, .int .i64 0, .int .i64 0, .string ⟨#[]⟩, .int .i64 0, .slice (some ⟨w.heap.size + 1 + 1 + 1, 0, none⟩) 2 2] := by
    rw [hw3]
    have h := Blk.new ((w.alloc (.cells #[.int .i64 x.h.kind, .int .i64 x.h.n, .int .i64 x.h.d, .string x.h.name, .int .i64 x.h.k, .slice x.A x.len x.cap] 29)).alloc (.cells #[.int .i64 y.h.kind, .int .i64 y.h.n, .int .i64 y.h.d, .string y.h.name, .int .i64 y.h.k, .slice y.A y.len y.cap] 29)) 29 #[.int .i64 k, .int .i64 0, .int .i64 0, .string ⟨#[]⟩, .int .i64 0, .slice (some ⟨w.heap.size + 1 + 1 + 1, 0, none⟩) 2 2]
    rwa [World.size_alloc, World.size_alloc] at h
  have HI := Lib.hid (in_new2 w3 k 0 a b x y 29 hk d0 (HA.out.go hb3) (HB.out.go hb3))
  rw [hs3] at HI
  rw [← hw3]
  clear hw3 s1
  obtain ⟨w4, hw4⟩ : ∃ z9 : World, z9 = w3.alloc (.cells (x.cells ++ y.cells).toArray 29) := ⟨_, rfl⟩
  have hb4 : Below w3.heap.size w3 w4 := by rw [hw4]; exact below_box _ _
  have HB4 := Lib.hid (hb3.trans (hb4.mono hb3.size))
  have F4 := hblk.belowW hb4
  have p0 : w4.cell? ⟨w.heap.size + 1 + 1, 0, none⟩ = some (.int .i64 k) := F4.cell 0
  have p1 : w4.cell? ⟨w.heap.size + 1 + 1, 1, none⟩ = some (.int .i64 0) := F4.cell 1
  have p2 : w4.cell? ⟨w.heap.size + 1 + 1, 2, none⟩ = some (.int .i64 0) := F4.cell 2
  have p3 : w4.cell? ⟨w.heap.size + 1 + 1, 3, none⟩ = some (.string ⟨#[]⟩) := F4.cell 3
  have p4 : w4.cell? ⟨w.heap.size + 1 + 1, 4, none⟩ = some (.int .i64 0) := F4.cell 4
  have p5 : w4.cell? ⟨w.heap.size + 1 + 1, 5, none⟩ = some (.slice (some ⟨w.heap.size + 1 + 1 + 1, 0, none⟩) 2 2) := F4.cell 5
  rw [← hw4] at HI
  have hw4' : w3.alloc (.cells #[.int .i64 x.h.kind, .int .i64 x.h.n, .int .i64 x.h.d, .string x.h.name, .int .i64 x.h.k, .slice x.A x.len x.cap, .int .i64 y.h.kind, .int .i64 y.h.n, .int .i64 y.h.d, .string y.h.name, .int .i64 y.h.k, .slice y.A y.len y.cap] 29) = w4 := hw4.symm
  rw [hw4']
  clear hw4 hw4' hb4 hblk hb3 hs3 F4
  refine bodyPost_ret (v := .agg #[.int .i64 k, .int .i64 0, .int .i64 0, .string ⟨#[]⟩, .int .i64 0, .slice (some ⟨w.heap.size + 1 + 1 + 1, 0, none⟩) 2 2]) (by simp [results, Tryz.results24, go_sem, p0, p1, p2, p3, p4, p5]) rfl ?_
  exact ⟨⟨⟨k, 0, 0, ⟨#[]⟩, 0⟩, some ⟨w.heap.size + 1 + 1 + 1, 0, none⟩, 2, 2⟩, rfl, HI, HB4⟩
set_option maxHeartbeats 1000000 in
theorem g1_any (k : Int) (a : TE) (x : Nd) (w : World) (hk : -1000 ≤ k ∧ k ≤ 1000) (ha : InE w a x) :
    Calls Tryz.prog 25 #[.int .i64 k, x.val] w (fun e w' => ∃ z : Nd, e = .returned z.val ∧ Hid (InE w' (opE k [a]) z) ∧ Hid (Below w.heap.size w w')) := by
  have HA := Lib.hid ha
  clear ha
  go_enter Tryz.func25, Tryz.ntmps25
  go_wp2_with fail
  obtain ⟨w3, hw3⟩ : ∃ z9 : World, z9 = (w.alloc (.cells #[.int .i64 x.h.kind, .int .i64 x.h.n, .int .i64 x.h.d, .string x.h.name, .int .i64 x.h.k, .slice x.A x.len x.cap] 29)).alloc (.cells #[.int .i64 k, .int .i64 0, .int .i64 0, .string ⟨#[]⟩, .int .i64 0, .slice (some ⟨w.heap.size + 1 + 1, 0, none⟩) 1 1] 29) := ⟨_, rfl⟩
  have s1 := World.size_alloc w (.cells #[.int .i64 x.h.kind, .int .i64 x.h.n, .int .i64 x.h.d, .string x.h.name, .int .i64 x.h.k, .slice x.A x.len x.cap] 29)
  have hs3 : w3.heap.size = w.heap.size + 1 + 1 := by rw [hw3, World.size_alloc, World.size_alloc]
  have hb3 : Below w.heap.size w w3 := by
    rw [hw3]
    exact ((Below.refl _ _).alloc (Nat.le_refl _) _).alloc (by rw [World.size_alloc]; omega) _
  have hblk : Blk w3 (w.heap.size + 1) 29 #[.int .i64 k, .int .i64 0, .int .i64 0, .string ⟨#[]⟩, .int .i64 0, .slice (some ⟨w.heap.size + 1 + 1, 0, none⟩) 1 1] := by
    rw [hw3]
    have h := Blk.new (w.alloc (.cells #[.int .i64 x.h.kind, .int .i64 x.h.n, .int .i64 x.h.d, .string x.h.name, .int .i64 x.h.k, .slice x.A x.len x.cap] 29)) 29 #[.int .i64 k, .int .i64 0, .int .i64 0, .string ⟨#[]⟩, .int .i64 0, .slice (some ⟨w.heap.size + 1 + 1, 0, none⟩) 1 1]
    rwa [World.size_alloc] at h
  have HI := Lib.hid (in_new1 w3 k 0 a x 29 hk d0 (HA.out.go hb3))
  rw [hs3] at HI
  rw [← hw3]
  clear hw3 s1
  obtain ⟨w4, hw4⟩ : ∃ z9 : World, z9 = w3.alloc (.cells x.cells.toArray 29) := ⟨_, rfl⟩
  have hb4 : Below w3.heap.size w3 w4 := by rw [hw4]; exact below_box _ _
  have HB4 := Lib.hid (hb3.trans (hb4.mono hb3.size))
  have F4 := hblk.belowW hb4
  have p0 : w4.cell? ⟨w.heap.size + 1, 0, none⟩ = some (.int .i64 k) := F4.cell 0
  have p1 : w4.cell? ⟨w.heap.size + 1, 1, none⟩ = some (.int .i64 0) := F4.cell 1
  have p2 : w4.cell? ⟨w.heap.size + 1, 2, none⟩ = some (.int .i64 0) := F4.cell 2
  have p3 : w4.cell? ⟨w.heap.size + 1, 3, none⟩ = some (.string ⟨#[]⟩) := F4.cell 3
  have p4 : w4.cell? ⟨w.heap.size + 1, 4, none⟩ = some (.int .i64 0) := F4.cell 4
  have p5 : w4.cell? ⟨w.heap.size + 1, 5, none⟩ = some (.slice (some ⟨w.heap.size + 1 + 1, 0, none⟩) 1 1) := F4.cell 5
  rw [← hw4] at HI
  have hw4' : w3.alloc (.cells #[.int .i64 x.h.kind, .int .i64 x.h.n, .int .i64 x.h.d, .string x.h.name, .int .i64 x.h.k, .slice x.A x.len x.cap] 29) = w4 := hw4.symm
  rw [hw4']
  clear hw4 hw4' hb4 hblk hb3 hs3 F4
  refine bodyPost_ret (v := .agg #[.int .i64 k, .int .i64 0, .int .i64 0, .string ⟨#[]⟩, .int .i64 0, .slice (some ⟨w.heap.size + 1 + 1, 0, none⟩) 1 1]) (by simp [results, Tryz.results25, go_sem, p0, p1, p2, p3, p4, p5]) rfl ?_
  exact ⟨⟨⟨k, 0, 0, ⟨#[]⟩, 0⟩, some ⟨w.heap.size + 1 + 1, 0, none⟩, 1, 1⟩, rfl, HI, HB4⟩
end Go.Proofs.YtkjoohnndobjeaaGreatDoor
