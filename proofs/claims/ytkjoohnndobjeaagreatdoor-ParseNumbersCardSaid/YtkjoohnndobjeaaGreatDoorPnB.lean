/-
  The small functions of ParseNumbers.
-/
import Derived.Test.YtkjoohnndobjeaaGreatDoorPnA
import Derived.Test.YtkjoohnndobjeaaGreatDoorQN
import Derived.Test.YtkjoohnndobjeaaGreatDoorFmQ
set_option linter.unusedVariables false
namespace Go.Proofs.YtkjoohnndobjeaaGreatDoor
open Go.RowKit Go.Fl Go.Fl.Lx Go.Fl.Nm Go.Fl.Fm Go.Fl.Rt Go.Fl.Pa
set_option maxHeartbeats 1000000 in
theorem prod_any (a b : TE) (x y : Nd) (w : World) (ha : InE w a x) (hb : InE w b y) :
    Calls Tryz.prog 15 #[x.val, y.val] w (fun e w' => ∃ z : Nd, e = .returned z.val ∧ Hid (InE w' (opE 5 [a, b]) z) ∧ Hid (Below w.heap.size w w')) := by
  have HA := Lib.hid ha
  have HB := Lib.hid hb
  clear ha hb
  go_enter Tryz.func15, Tryz.ntmps15
  go_wp2_with fail
  obtain ⟨w3, hw3⟩ : ∃ z9 : World, z9 = ((w.alloc (.cells #[.int .i64 x.h.kind, .int .i64 x.h.n, .int .i64 x.h.d, .string x.h.name, .int .i64 x.h.k, .slice x.A x.len x.cap] 29)).alloc (.cells #[.int .i64 y.h.kind, .int .i64 y.h.n, .int .i64 y.h.d, .string y.h.name, .int .i64 y.h.k, .slice y.A y.len y.cap] 29)).alloc (.cells #[.int .i64 5, .int .i64 0, .int .i64 0, .string ⟨#[]⟩, .int .i64 0, .slice (some ⟨w.heap.size + 1 + 1 + 1, 0, none⟩) 2 2] 29) := ⟨_, rfl⟩
  have s1 := World.size_alloc w (.cells #[.int .i64 x.h.kind, .int .i64 x.h.n, .int .i64 x.h.d, .string x.h.name, .int .i64 x.h.k, .slice x.A x.len x.cap] 29)
  have hs3 : w3.heap.size = w.heap.size + 1 + 1 + 1 := by rw [hw3, World.size_alloc, World.size_alloc, World.size_alloc]
  have hb3 : Below w.heap.size w w3 := by
    rw [hw3]
    exact (((Below.refl _ _).alloc (Nat.le_refl _) _).alloc (by rw [World.size_alloc]; omega) _).alloc (by rw [World.size_alloc, World.size_alloc]; omega) _
  have hblk : Blk w3 (w.heap.size + 1 + 1) 29 #[.int .i64 5, .int .i64 0, .int .i64 0, .string ⟨#[]⟩, .int .i64 0, .slice (some ⟨w.heap.size + 1 + 1 + 1, 0, none⟩) 2 2] := by
    rw [hw3]
    have h := Blk.new ((w.alloc (.cells #[.int .i64 x.h.kind, .int .i64 x.h.n, .int .i64 x.h.d, .string x.h.name, .int .i64 x.h.k, .slice x.A x.len x.cap] 29)).alloc (.cells #[.int .i64 y.h.kind, .int .i64 y.h.n, .int .i64 y.h.d, .string y.h.name, .int .i64 y.h.k, .slice y.A y.len y.cap] 29)) 29 #[.int .i64 5, .int .i64 0, .int .i64 0, .string ⟨#[]⟩, .int .i64 0, .slice (some ⟨w.heap.size + 1 + 1 + 1, 0, none⟩) 2 2]
    rwa [World.size_alloc, World.size_alloc] at h
  have HI := Lib.hid (in_new2 w3 5 0 a b x y 29 (by decide) d0 (HA.out.go hb3) (HB.out.go hb3))
  rw [hs3] at HI
  rw [← hw3]
  clear hw3 s1
  obtain ⟨w4, hw4⟩ : ∃ z9 : World, z9 = w3.alloc (.cells (x.cells ++ y.cells).toArray 29) := ⟨_, rfl⟩
  have hb4 : Below w3.heap.size w3 w4 := by rw [hw4]; exact below_box _ _
  have HB4 := Lib.hid (hb3.trans (hb4.mono hb3.size))
  have F4 := hblk.belowW hb4
  have p0 : w4.cell? ⟨w.heap.size + 1 + 1, 0, none⟩ = some (.int .i64 5) := F4.cell 0
  have p1 : w4.cell? ⟨w.heap.size + 1 + 1, 1, none⟩ = some (.int .i64 0) := F4.cell 1
  have p2 : w4.cell? ⟨w.heap.size + 1 + 1, 2, none⟩ = some (.int .i64 0) := F4.cell 2
  have p3 : w4.cell? ⟨w.heap.size + 1 + 1, 3, none⟩ = some (.string ⟨#[]⟩) := F4.cell 3
  have p4 : w4.cell? ⟨w.heap.size + 1 + 1, 4, none⟩ = some (.int .i64 0) := F4.cell 4
  have p5 : w4.cell? ⟨w.heap.size + 1 + 1, 5, none⟩ = some (.slice (some ⟨w.heap.size + 1 + 1 + 1, 0, none⟩) 2 2) := F4.cell 5
  rw [← hw4] at HI
  have hw4' : w3.alloc (.cells #[.int .i64 x.h.kind, .int .i64 x.h.n, .int .i64 x.h.d, .string x.h.name, .int .i64 x.h.k, .slice x.A x.len x.cap, .int .i64 y.h.kind, .int .i64 y.h.n, .int .i64 y.h.d, .string y.h.name, .int .i64 y.h.k, .slice y.A y.len y.cap] 29) = w4 := hw4.symm
  rw [hw4']
  clear hw4 hw4' hb4 hblk hb3 hs3 F4
  refine bodyPost_ret (v := .agg #[.int .i64 5, .int .i64 0, .int .i64 0, .string ⟨#[]⟩, .int .i64 0, .slice (some ⟨w.heap.size + 1 + 1 + 1, 0, none⟩) 2 2]) (by simp [results, Tryz.results15, go_sem, p0, p1, p2, p3, p4, p5]) rfl ?_
  exact ⟨⟨⟨5, 0, 0, ⟨#[]⟩, 0⟩, some ⟨w.heap.size + 1 + 1 + 1, 0, none⟩, 2, 2⟩, rfl, HI, HB4⟩
set_option maxHeartbeats 1000000 in
theorem quo_any (a b : TE) (x y : Nd) (w : World) (ha : InE w a x) (hb : InE w b y) :
    Calls Tryz.prog 16 #[x.val, y.val] w (fun e w' => ∃ z : Nd, e = .returned z.val ∧ Hid (InE w' (opE 6 [a, b]) z) ∧ Hid (Below w.heap.size w w')) := by
  have HA := Lib.hid ha
  have HB := Lib.hid hb
  clear ha hb
  go_enter Tryz.func16, Tryz.ntmps16
  go_wp2_with fail
  obtain ⟨w3, hw3⟩ : ∃ z9 : World, z9 = ((w.alloc (.cells #[.int .i64 x.h.kind, .int .i64 x.h.n, .int .i64 x.h.d, .string x.h.name, .int .i64 x.h.k, .slice x.A x.len x.cap] 29)).alloc (.cells #[.int .i64 y.h.kind, .int .i64 y.h.n, .int .i64 y.h.d, .string y.h.name, .int .i64 y.h.k, .slice y.A y.len y.cap] 29)).alloc (.cells #[.int .i64 6, .int .i64 0, .int .i64 0, .string ⟨#[]⟩, .int .i64 0, .slice (some ⟨w.heap.size + 1 + 1 + 1, 0, none⟩) 2 2] 29) := ⟨_, rfl⟩
  have s1 := World.size_alloc w (.cells #[.int .i64 x.h.kind, .int .i64 x.h.n, .int .i64 x.h.d, .string x.h.name, .int .i64 x.h.k, .slice x.A x.len x.cap] 29)
  have hs3 : w3.heap.size = w.heap.size + 1 + 1 + 1 := by rw [hw3, World.size_alloc, World.size_alloc, World.size_alloc]
  have hb3 : Below w.heap.size w w3 := by
    rw [hw3]
    exact (((Below.refl _ _).alloc (Nat.le_refl _) _).alloc (by rw [World.size_alloc]; omega) _).alloc (by rw [World.size_alloc, World.size_alloc]; omega) _
  have hblk : Blk w3 (w.heap.size + 1 + 1) 29 #[.int .i64 6, .int .i64 0, .int .i64 0, .string ⟨#[]⟩, .int .i64 0, .slice (some ⟨w.heap.size + 1 + 1 + 1, 0, none⟩) 2 2] := by
    rw [hw3]
    have h := Blk.new ((w.alloc (.cells #[.int .i64 x.h.kind, .int .i64 x.h.n, .int .i64 x.h.d, .string x.h.name, .int .i64 x.h.k, .slice x.A x.len x.cap] 29)).alloc (.cells #[.int .i64 y.h.kind, .int .i64 y.h.n, .int .i64 y.h.d, .string y.h.name, .int .i64 y.h.k, .slice y.A y.len y.cap] 29)) 29 #[.int .i64 6, .int .i64 0, .int .i64 0, .string ⟨#[]⟩, .int .i64 0, .slice (some ⟨w.heap.size + 1 + 1 + 1, 0, none⟩) 2 2]
    rwa [World.size_alloc, World.size_alloc] at h
  have HI := Lib.hid (in_new2 w3 6 0 a b x y 29 (by decide) d0 (HA.out.go hb3) (HB.out.go hb3))
  rw [hs3] at HI
  rw [← hw3]
  clear hw3 s1
  obtain ⟨w4, hw4⟩ : ∃ z9 : World, z9 = w3.alloc (.cells (x.cells ++ y.cells).toArray 29) := ⟨_, rfl⟩
  have hb4 : Below w3.heap.size w3 w4 := by rw [hw4]; exact below_box _ _
  have HB4 := Lib.hid (hb3.trans (hb4.mono hb3.size))
  have F4 := hblk.belowW hb4
  have p0 : w4.cell? ⟨w.heap.size + 1 + 1, 0, none⟩ = some (.int .i64 6) := F4.cell 0
  have p1 : w4.cell? ⟨w.heap.size + 1 + 1, 1, none⟩ = some (.int .i64 0) := F4.cell 1
  have p2 : w4.cell? ⟨w.heap.size + 1 + 1, 2, none⟩ = some (.int .i64 0) := F4.cell 2
  have p3 : w4.cell? ⟨w.heap.size + 1 + 1, 3, none⟩ = some (.string ⟨#[]⟩) := F4.cell 3
  have p4 : w4.cell? ⟨w.heap.size + 1 + 1, 4, none⟩ = some (.int .i64 0) := F4.cell 4
  have p5 : w4.cell? ⟨w.heap.size + 1 + 1, 5, none⟩ = some (.slice (some ⟨w.heap.size + 1 + 1 + 1, 0, none⟩) 2 2) := F4.cell 5
  rw [← hw4] at HI
  have hw4' : w3.alloc (.cells #[.int .i64 x.h.kind, .int .i64 x.h.n, .int .i64 x.h.d, .string x.h.name, .int .i64 x.h.k, .slice x.A x.len x.cap, .int .i64 y.h.kind, .int .i64 y.h.n, .int .i64 y.h.d, .string y.h.name, .int .i64 y.h.k, .slice y.A y.len y.cap] 29) = w4 := hw4.symm
  rw [hw4']
  clear hw4 hw4' hb4 hblk hb3 hs3 F4
  refine bodyPost_ret (v := .agg #[.int .i64 6, .int .i64 0, .int .i64 0, .string ⟨#[]⟩, .int .i64 0, .slice (some ⟨w.heap.size + 1 + 1 + 1, 0, none⟩) 2 2]) (by simp [results, Tryz.results16, go_sem, p0, p1, p2, p3, p4, p5]) rfl ?_
  exact ⟨⟨⟨6, 0, 0, ⟨#[]⟩, 0⟩, some ⟨w.heap.size + 1 + 1 + 1, 0, none⟩, 2, 2⟩, rfl, HI, HB4⟩
set_option maxHeartbeats 1000000 in
theorem num14_any (n d : Int) (w : World) : Calls Tryz.prog 13 #[.int .i64 n, .int .i64 d] w (RetB (ndN n d).val w) := by
  go_enter Tryz.func13, Tryz.ntmps13
  go_wp2_with fail
  obtain ⟨w1, hw, HB, p0, p1, p2, p3, p4, p5⟩ := box6 w (.int .i64 1) (.int .i64 n) (.int .i64 d) (.string ⟨#[]⟩) (.int .i64 0) (.slice none 0 0)
  rw [← hw]
  clear hw
  refine bodyPost_ret (v := .agg #[.int .i64 1, .int .i64 n, .int .i64 d, .string ⟨#[]⟩, .int .i64 0, .slice none 0 0]) (by simp [results, Tryz.results13, go_sem, p0, p1, p2, p3, p4, p5]) rfl ?_
  exact ⟨rfl, HB⟩
set_option maxHeartbeats 1000000 in
theorem lowest_any (n d : Int) (w : World) : Calls Tryz.prog 19 #[.int .i64 n, .int .i64 d] w (fun e w' => e = .returned (.tuple #[.int .i64 n, .int .i64 d]) ∧ w' = w) := by
  go_enter Tryz.func19, Tryz.ntmps19
  go_wp2_with fail
  refine bodyPost_ret (v := .tuple #[.int .i64 n, .int .i64 d]) (by simp [results, Tryz.results19, go_sem]) rfl ?_
  exact ⟨rfl, rfl⟩
def dcB (n : Nat) : ByteArray := ⟨(Lib.decDigits n).toArray⟩
set_option maxRecDepth 100000 in
set_option maxHeartbeats 2000000 in
theorem decimal_nat (n : Nat) : ∀ (w : World), n ≤ 100000 → Calls Tryz.prog 14 #[.int .i64 n] w (fun e w' => e = .returned (.string (dcB n)) ∧ w' = w) := by
  induction n using Nat.strongRecOn with
  | ind n ih =>
    intro w hn
    have IH := Lib.hid (fun (hbig : ¬ n < 10) => ih (n / 10) (by omega) w (by omega))
    clear ih
    have d0 : decide ((n : Int) < 0) = false := decide_eq_false (by omega)
    have kc := rune1 n w
    have ed : (n : Int).tdiv 10 = ((n / 10 : Nat) : Int) := by
      rw [Int.tdiv_eq_ediv_of_nonneg (by omega)]; rfl
    have em : (n : Int).tmod 10 = (n : Int) % 10 := by
      rw [Int.tmod_eq_emod_of_nonneg (by omega)]
    by_cases h : n < 10
    · have d1 : decide ((n : Int) < 10) = true := decide_eq_true (by omega)
      have e1 : (n : Int) % 10 = (n : Int) := by omega
      rw [e1] at kc
      have HE := Lib.hid (show dgB n = dcB n by
        unfold dgB dcB
        rw [Lib.decDigits_one h, Nat.mod_eq_of_lt h])
      clear h e1 IH
      go_enter Tryz.func14, Tryz.ntmps14
      go_wp2_with fail
      go_ret
      exact ⟨by rw [HE.out]; rfl, rfl⟩
    · have d1 : decide ((n : Int) < 10) = false := decide_eq_false (by omega)
      have KI := Lib.hid (IH.out h)
      have hsz : (dcB (n / 10)).size ≤ 21 := by
        have h2 := Lib.itoa_length_le ((n / 10 : Nat) : Int) (by omega) (by omega)
        rw [Lib.itoa_nonneg] at h2
        unfold dcB
        rw [bytes_size]
        exact h2
      have c2 : ¬ (9223372036854775807 < (dcB (n / 10)).size + (dgB n).size) := by rw [dgB_size]; omega
      have HE := Lib.hid (show dcB (n / 10) ++ dgB n = dcB n by
        apply bytes_ext
        rw [data_app, dgB_list]
        unfold dcB
        show Lib.decDigits (n / 10) ++ _ = Lib.decDigits n
        rw [Rt.dec_big h])
      clear h IH
      go_enter Tryz.func14, Tryz.ntmps14
      go_wp2_with fail
      refine KI.out.mono ?_
      rintro e w' ⟨rfl, rfl⟩
      go_wp2_with fail
      go_ret
      exact ⟨by rw [HE.out]; rfl, rfl⟩
def itB (a : Int) : ByteArray := ⟨(Lib.itoa a).toArray⟩
set_option maxRecDepth 100000 in
set_option maxHeartbeats 2000000 in
theorem decimal_any (a : Int) (w : World) (h1 : -100000 ≤ a) (h2 : a ≤ 100000) : Calls Tryz.prog 14 #[.int .i64 a] w (fun e w' => e = .returned (.string (itB a)) ∧ w' = w) := by
  by_cases h : a < 0
  · have d0 : decide (a < 0) = true := decide_eq_true h
    obtain ⟨m, hm⟩ : ∃ m : Nat, -a = (m : Int) := ⟨a.natAbs, by omega⟩
    have hw : IntKind.i64.wrap (-a) = (m : Int) := by rw [IntKind.wrap_i64]; omega
    have KI := Lib.hid (decimal_nat m w (by omega))
    have hsz : (dcB m).size ≤ 21 := by
      have h2 := Lib.itoa_length_le (m : Int) (by omega) (by omega)
      rw [Lib.itoa_nonneg] at h2
      unfold dcB
      rw [bytes_size]
      exact h2
    have c2 : ¬ (9223372036854775807 < 1 + (dcB m).size) := by omega
    have HE := Lib.hid (show (⟨#[45]⟩ : ByteArray) ++ dcB m = itB a by
      apply bytes_ext
      rw [data_app]
      unfold dcB itB
      show [45] ++ Lib.decDigits m = Lib.itoa a
      unfold Lib.itoa
      rw [if_pos h, show a.natAbs = m by omega]
      rfl)
    clear h
    go_enter Tryz.func14, Tryz.ntmps14
    go_wp2_with fail
    refine KI.out.mono ?_
    rintro e w' ⟨rfl, rfl⟩
    go_wp2_with fail
    go_ret
    exact ⟨by rw [HE.out]; rfl, rfl⟩
  · obtain ⟨m, rfl⟩ : ∃ m : Nat, a = (m : Int) := ⟨a.toNat, by omega⟩
    have e : itB (m : Int) = dcB m := by unfold itB dcB; rw [Lib.itoa_nonneg]
    rw [e]
    exact decimal_nat m w (by omega)
/-- What read answers to the text of a valid expression. -/
def ReadP (T : TE) (w : World) (e : Ending) (w' : World) : Prop := ∃ v : Nd, e = .returned v.val ∧ Hid (InE w' T v) ∧ Hid (Below w.heap.size w w')
set_option maxHeartbeats 4000000 in
set_option maxRecDepth 100000 in
theorem read_any (s : ByteArray) (T : TE) (w : World) (hs : s.size ≤ maxLen) (hR : RX w) (hX : FX w) (he : exprR s.data.toList = ((0, 0, 0), some T)) : Calls Tryz.prog 18 #[.string s] w (ReadP T w) := by
  have HR := Lib.hid hR
  have HX := Lib.hid hX
  have HEX := Lib.hid he
  clear hR hX he
  go_enter Tryz.func18, Tryz.ntmps18
  go_upto_region 1 with (fail)
  obtain ⟨w1, hw1⟩ : ∃ z9 : World, z9 = w.alloc (Obj.cells #[.int .i64 0, .int .i64 0, .int .i64 0, .string ⟨#[]⟩, .int .i64 0, .slice none 0 0] 29) := ⟨_, rfl⟩
  have O1 := Lib.hid (show Below w.heap.size w w1 by rw [hw1]; exact below_box _ _)
  have F1 := Lib.hid (show Blk w1 w.heap.size 29 #[.int .i64 0, .int .i64 0, .int .i64 0, .string ⟨#[]⟩, .int .i64 0, .slice none 0 0] by rw [hw1]; exact Blk.new _ _ _)
  rw [← hw1]
  clear hw1
  go_wp2_with fail
  refine (pExpr s w1 hs (HR.out.belowW O1.out) (HX.out.belowW O1.out)).mono ?_
  rintro e w4 ⟨x, rfl, HB4, HO4⟩
  rw [HEX.out] at HO4
  rw [HEX.out]
  obtain ⟨T1, hT1, hx1⟩ := HO4.2 rfl
  injection hT1 with hT1
  subst hT1
  have HX4 := Lib.hid (InA.lt hx1)
  have O4 := Lib.hid (O1.out.trans (HB4.out.mono O1.out.size))
  have F4 := Lib.hid (F1.out.belowW HB4.out)
  clear HO4 hx1
  go_upto_region 2 with (fail)
  obtain ⟨w5, hw5⟩ : ∃ z9 : World, z9 = (w4.alloc (Obj.cells #[.int .i64 x.h.kind, .int .i64 x.h.n, .int .i64 x.h.d, .string x.h.name, .int .i64 x.h.k, .slice x.A x.len x.cap] 29)).alloc (Obj.cells #[.int .i64 0, .int .i64 0] 40) := ⟨_, rfl⟩
  have HB5 := Lib.hid (show Below w4.heap.size w4 w5 by rw [hw5]; exact (below_box _ _).trans ((below_box _ _).mono (by simp)))
  have E5 := Lib.hid (show Blk w5 w4.heap.size 29 #[.int .i64 x.h.kind, .int .i64 x.h.n, .int .i64 x.h.d, .string x.h.name, .int .i64 x.h.k, .slice x.A x.len x.cap] by rw [hw5]; exact (Blk.new w4 29 #[.int .i64 x.h.kind, .int .i64 x.h.n, .int .i64 x.h.d, .string x.h.name, .int .i64 x.h.k, .slice x.A x.len x.cap]).belowW (below_box _ _))
  rw [← hw5]
  clear hw5
  have O5 := Lib.hid (O4.out.trans (HB5.out.mono O4.out.size))
  have F5 := Lib.hid (F4.out.belowW HB5.out)
  have HX5 := Lib.hid (HX4.out.belowW HB5.out)
  have hr1 := F1.out.lt
  obtain ⟨c0, _, c1, _, c2, _, c3, _, c4, _, c5, _⟩ := E5.out.all6
  obtain ⟨r0, h0, r1, h1, r2, h2, r3, h3, r4, h4, r5, h5⟩ := F5.out.all6
  go_wp2_with fail
  rw [pst6 F5.out]
  have FZ := Lib.hid (F5.out.put #[.int .i64 x.h.kind, .int .i64 x.h.n, .int .i64 x.h.d, .string x.h.name, .int .i64 x.h.k, .slice x.A x.len x.cap])
  obtain ⟨z0, _, z1, _, z2, _, z3, _, z4, _, z5, _⟩ := FZ.out.all6
  refine bodyPost_ret (v := .agg #[.int .i64 x.h.kind, .int .i64 x.h.n, .int .i64 x.h.d, .string x.h.name, .int .i64 x.h.k, .slice x.A x.len x.cap]) (by simp [results, Tryz.results18, go_sem, z0, z1, z2, z3, z4, z5]) rfl ?_
  exact ⟨x, rfl, Lib.hid (InA.toE (HX5.out.far (by rintro ⟨h1, _⟩; omega) 29 #[.int .i64 x.h.kind, .int .i64 x.h.n, .int .i64 x.h.d, .string x.h.name, .int .i64 x.h.k, .slice x.A x.len x.cap])), Lib.hid (O5.out.trans (putB_below w5 w.heap.size 29 #[.int .i64 x.h.kind, .int .i64 x.h.n, .int .i64 x.h.d, .string x.h.name, .int .i64 x.h.k, .slice x.A x.len x.cap] (Nat.le_refl _)))⟩
end Go.Proofs.YtkjoohnndobjeaaGreatDoor
