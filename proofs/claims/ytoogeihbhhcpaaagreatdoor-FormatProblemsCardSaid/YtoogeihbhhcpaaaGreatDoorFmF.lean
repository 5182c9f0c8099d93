/-
  The walk of the program's count of nodes.
-/
import Derived.Test.YtoogeihbhhcpaaaGreatDoorFmC
set_option linter.unusedVariables false
namespace Go.Proofs.YtoogeihbhhcpaaaGreatDoor
open Go.RowKit Go.Fl Go.Fl.Fm Go.Fl.Rt
def cR (f : Nat) (T : TE) : Nat := cntR nameP f T
theorem cR_succ (f : Nat) (T : TE) : cR (f + 1) T = if nodeB nameP T.h T.l.length = true then goR (cR f) T.l 1 else 1048576 := rfl
theorem cR_le (f : Nat) (T : TE) (h : f ≤ 21) : cR f T ≤ 1060000 := by
  have := cntR_le nameP f T
  unfold cR
  omega
theorem drop_get {α : Type} [Inhabited α] (l : List α) (j : Nat) (h : j < l.length) : l.drop j = l.getD j default :: l.drop (j + 1) := by
  rw [List.drop_eq_getElem_cons h, List.getD_eq_getElem?_getD, List.getElem?_eq_getElem h]
  rfl
/-- A node's box. -/
theorem box_nd (w : World) (x : Nd) : Blk (w.alloc (Obj.cells #[.int .i64 x.h.kind, .int .i64 x.h.n, .int .i64 x.h.d, .string x.h.name, .int .i64 x.h.k, .slice x.A x.len x.cap] 51)) w.heap.size 51 #[.int .i64 x.h.kind, .int .i64 x.h.n, .int .i64 x.h.d, .string x.h.name, .int .i64 x.h.k, .slice x.A x.len x.cap] := Blk.new _ _ _

def cP (f : Nat) (T : TE) (m : Nat) : Bool × Nat := cntP nameP f T m
theorem cP_succ (f : Nat) (T : TE) (m : Nat) : cP (f + 1) T m = if m + 1 ≤ 200 ∧ nodeB nameP T.h T.l.length = true then goP (cP f) T.l (m + 1) else (false, m + 1) := rfl
theorem cP_le (f : Nat) (T : TE) (m : Nat) (h : m ≤ 200) : (cP f T m).2 ≤ 201 ∧ ((cP f T m).1 = true → (cP f T m).2 ≤ 200) := cntP_le nameP f T m h
theorem grown_trans {a b c : World} {r : Option Nat} (h : a.grownBy b r) (h2 : b.grownBy c r) : a.grownBy c r :=
  ⟨h2.os.trans h.os, h2.tape.trans h.tape, h2.output.trans h.output, Nat.le_trans h.size h2.size, fun k hk hr => (h2.block k (Nat.lt_of_lt_of_le hk h.size) hr).trans (h.block k hk hr)⟩
theorem grown_below {a b : World} (r : Option Nat) (h : Below a.heap.size a b) : a.grownBy b r := ⟨h.os, h.tape, h.output, h.size, fun k hk _ => h.block k hk⟩
/-- What a count answers: a Bool, and the counter in block g. -/
def CntE (r : Bool × Nat) (g : Nat) (w : World) (e : Ending) (w' : World) : Prop :=
  e = .returned (.bool r.1) ∧ Hid (w.grownBy w' (some g)) ∧ Hid (Blk w' g 3 #[.int .i64 (r.2 : Nat)])
/-- The count's contract at so many levels. -/
def CntAt (f : Nat) : Prop := ∀ (T : TE) (v : Nd) (w0 w : World) (g m : Nat), InE w0 T v → Below w0.heap.size w0 w → w0.heap.size ≤ g → Blk w g 3 #[.int .i64 (m : Int)] → m ≤ 200 → f ≤ 20 →
  Calls Tryz.prog 75 #[v.val, .int .i64 (21 - (f : Int)), .pointer (some ⟨g, 0, none⟩)] w (CntE (cP f T m) g w)

set_option maxHeartbeats 4000000 in
set_option maxRecDepth 100000 in
theorem cnt1_p (f : Nat) (ih : CntAt f) (T : TE) (v : Nd) (w0 w : World) (g m bd bp : Nat) (hin : InE w0 T v) (hb : Below w0.heap.size w0 w) (hg : w0.heap.size ≤ g) (hB : Blk w g 3 #[.int .i64 (m : Int)]) (hm : m ≤ 200) (hf : f ≤ 19)
    (hd : Blk w bd 3 #[.int .i64 (20 - (f : Int))]) (hp : Blk w bp 115 #[.pointer (some ⟨g, 0, none⟩)]) :
    Calls Tryz.prog 121 #[v.val, .pointer (some ⟨bd, 0, none⟩), .pointer (some ⟨bp, 0, none⟩)] w (CntE (!(cP f T m).1, (cP f T m).2) g w) := by
  have HIN := Lib.hid hin
  have HBW := Lib.hid hb
  have HB := Lib.hid hB
  have HD := Lib.hid hd
  have HP := Lib.hid hp
  have IH := Lib.hid ih
  clear hin hb hB hd hp ih
  obtain ⟨⟨kd, n, d, nm, k⟩, A, len, cap⟩ := v
  obtain ⟨D, hD⟩ : ∃ D : Int, D = 20 - (f : Int) := ⟨_, rfl⟩
  rw [← hD] at HD
  have hD1 : 1 ≤ D ∧ D ≤ 20 := by omega
  have hD2 : D + 1 = 21 - (f : Int) := by omega
  have HD2 := Lib.hid hD2
  clear hD hD2
  simp only [Nd.val]
  go_enter Tryz.func121, Tryz.ntmps121
  go_upto_region 1 with (fail)
  obtain ⟨w1, hw1⟩ : ∃ z9 : World, z9 = w.alloc (Obj.cells #[.int .i64 kd, .int .i64 n, .int .i64 d, .string nm, .int .i64 k, .slice A len cap] 51) := ⟨_, rfl⟩
  have HW1 := Lib.hid (show Below w.heap.size w w1 by rw [hw1]; exact below_box _ _)
  have F1 := Lib.hid (show Blk w1 w.heap.size 51 #[.int .i64 kd, .int .i64 n, .int .i64 d, .string nm, .int .i64 k, .slice A len cap] by rw [hw1]; exact Blk.new _ _ _)
  rw [← hw1]
  clear hw1
  have HD1 := Lib.hid (HD.out.belowW HW1.out)
  have HP1 := Lib.hid (HP.out.belowW HW1.out)
  have HB1 := Lib.hid (HB.out.belowW HW1.out)
  have pr0 : w1.cell? ⟨w.heap.size, 0, none⟩ = some (.int .i64 kd) := F1.out.cell 0
  have pr1 : w1.cell? ⟨w.heap.size, 1, none⟩ = some (.int .i64 n) := F1.out.cell 1
  have pr2 : w1.cell? ⟨w.heap.size, 2, none⟩ = some (.int .i64 d) := F1.out.cell 2
  have pr3 : w1.cell? ⟨w.heap.size, 3, none⟩ = some (.string nm) := F1.out.cell 3
  have pr4 : w1.cell? ⟨w.heap.size, 4, none⟩ = some (.int .i64 k) := F1.out.cell 4
  have pr5 : w1.cell? ⟨w.heap.size, 5, none⟩ = some (.slice A len cap) := F1.out.cell 5
  have pd : w1.cell? ⟨bd, 0, none⟩ = some (.int .i64 D) := HD1.out.cell 0
  have pp : w1.cell? ⟨bp, 0, none⟩ = some (.pointer (some ⟨g, 0, none⟩)) := HP1.out.cell 0
  have K := Lib.hid (IH.out T ⟨⟨kd, n, d, nm, k⟩, A, len, cap⟩ w0 w1 g m HIN.out (HBW.out.trans (HW1.out.mono HBW.out.size)) hg HB1.out hm (by omega))
  rw [← HD2.out] at K
  clear pr0 pr1 pr2 pr3 pr4
  have pr0 : w1.cell? ⟨w.heap.size, 0, none⟩ = some (.int .i64 kd) := F1.out.cell 0
  have pr1 : w1.cell? ⟨w.heap.size, 1, none⟩ = some (.int .i64 n) := F1.out.cell 1
  have pr2 : w1.cell? ⟨w.heap.size, 2, none⟩ = some (.int .i64 d) := F1.out.cell 2
  have pr3 : w1.cell? ⟨w.heap.size, 3, none⟩ = some (.string nm) := F1.out.cell 3
  have pr4 : w1.cell? ⟨w.heap.size, 4, none⟩ = some (.int .i64 k) := F1.out.cell 4
  go_wp2_with fail
  refine K.out.mono ?_
  rintro e w5 ⟨rfl, HG5, HB5⟩
  go_wp2_with fail
  go_ret
  exact ⟨rfl, Lib.hid (grown_trans (grown_below _ HW1.out) HG5.out), HB5⟩

set_option maxHeartbeats 4000000 in
set_option maxRecDepth 100000 in
/-- slices.IndexFunc at the count's closure. -/
theorem idx_p (f : Nat) (ih : CntAt f) (T : TE) (v : Nd) (w0 w : World) (g m bd bp : Nat) (hin : InE w0 T v) (hb : Below w0.heap.size w0 w) (hg : w0.heap.size ≤ g) (hB : Blk w g 3 #[.int .i64 (m : Int)]) (hm : m ≤ 200) (hf : f ≤ 19)
    (hd : Blk w bd 3 #[.int .i64 (20 - (f : Int))]) (hp : Blk w bp 115 #[.pointer (some ⟨g, 0, none⟩)]) (hgd : g ≠ bd) (hgp : g ≠ bp) :
    Calls Tryz.prog 159 #[.slice v.A v.len v.cap, .func (.func 121) #[] #[.pointer (some ⟨bd, 0, none⟩), .pointer (some ⟨bp, 0, none⟩)]] w
      fun e w' => ∃ r : Int, e = .returned (.int .i64 r) ∧ Hid (decide (0 ≤ r) = !(goP (cP f) T.l m).1) ∧ Hid (w.grownBy w' (some g)) ∧ Hid (Blk w' g 3 #[.int .i64 ((goP (cP f) T.l m).2 : Nat)]) := by
  have HIN := Lib.hid hin
  have HBW := Lib.hid hb
  have HB := Lib.hid hB
  have HD := Lib.hid hd
  have HP := Lib.hid hp
  have IH := Lib.hid ih
  have HLN := Lib.hid hin.length
  have HCM := Lib.hid (Nat.le_trans hin.caps.1 hin.caps.2)
  clear hin hb hB hd hp ih
  obtain ⟨⟨kd, n, d, nm, k⟩, A, len, cap⟩ := v
  simp only at HLN HCM
  obtain ⟨⟨R1, R2⟩, hR⟩ : ∃ r, goP (cP f) T.l m = r := ⟨_, rfl⟩
  rw [hR]
  have HR := Lib.hid hR
  clear hR
  go_enter Tryz.func159, Tryz.ntmps159
  go_wp2_with fail
  go_loopg [8] len (fun gg iv wr => ∃ (j mj : Nat), iv = .int .i64 j ∧ j ≤ len ∧ gg = len - j ∧ mj ≤ 200 ∧ Hid (goP (cP f) (T.l.drop j) mj = (R1, R2)) ∧ Hid (w.grownBy wr (some g)) ∧ Hid (Blk wr g 3 #[.int .i64 (mj : Int)]))
  case atStart => exact ⟨0, m, rfl, by omega, by omega, hm, HR, Lib.hid (World.grownBy.refl _ _), HB⟩
  case round =>
    obtain ⟨j, mj, rfl, hj, rfl, hmj, HG, HL, HBR⟩ := hrel
    have HWR := Lib.hid (HBW.out.grown HL.out HBW.out.size (fun k hk => by injection hk with hk; omega))
    have HDR := Lib.hid (HD.out.grown HL.out (by intro e; injection e with e; omega))
    have HPR := Lib.hid (HP.out.grown HL.out (by intro e; injection e with e; omega))
    by_cases hjl : j < len
    · obtain ⟨b, o, x, hA, hbl, hx, hcell⟩ := HIN.out.at_ j hjl
      simp only at hA
      subst hA
      have HX := Lib.hid hx
      have q0 : wr.cell? ⟨b, o + j * 6, none⟩ = some (.int .i64 x.h.kind) := (HWR.out.cell (p := ⟨b, _, none⟩) hbl).trans (hcell 0 _ rfl (by omega))
      have q1 : wr.cell? ⟨b, o + j * 6 + 1, none⟩ = some (.int .i64 x.h.n) := (HWR.out.cell (p := ⟨b, _, none⟩) hbl).trans (hcell 1 _ rfl (by omega))
      have q2 : wr.cell? ⟨b, o + j * 6 + 2, none⟩ = some (.int .i64 x.h.d) := (HWR.out.cell (p := ⟨b, _, none⟩) hbl).trans (hcell 2 _ rfl (by omega))
      have q3 : wr.cell? ⟨b, o + j * 6 + 3, none⟩ = some (.string x.h.name) := (HWR.out.cell (p := ⟨b, _, none⟩) hbl).trans (hcell 3 _ rfl (by omega))
      have q4 : wr.cell? ⟨b, o + j * 6 + 4, none⟩ = some (.int .i64 x.h.k) := (HWR.out.cell (p := ⟨b, _, none⟩) hbl).trans (hcell 4 _ rfl (by omega))
      have q5 : wr.cell? ⟨b, o + j * 6 + 5, none⟩ = some (.slice x.A x.len x.cap) := (HWR.out.cell (p := ⟨b, _, none⟩) hbl).trans (hcell 5 _ rfl (by omega))
      have n1 : decide (j < len) = true := decide_eq_true hjl
      have hlm : len ≤ 9223372036854775807 := by have := HCM.out; unfold maxLen at this; omega
      have K := Lib.hid (cnt1_p f IH.out _ x w0 wr g mj bd bp HX.out HWR.out hg HBR.out hmj hf HDR.out HPR.out)
      have HLE := Lib.hid (cP_le f (T.l.getD j default) mj hmj)
      have HG2 := Lib.hid (show (if (cP f (T.l.getD j default) mj).1 = true then goP (cP f) (T.l.drop (j + 1)) (cP f (T.l.getD j default) mj).2 else (false, (cP f (T.l.getD j default) mj).2)) = (R1, R2) by
        have h := HG.out
        rw [drop_get T.l j (by rw [HLN.out]; exact hjl)] at h
        unfold goP at h
        exact h)
      obtain ⟨⟨r1, r2⟩, hr⟩ : ∃ r, cP f (T.l.getD j default) mj = r := ⟨_, rfl⟩
      rw [hr] at HLE HG2 K
      clear hx hcell hr hbl HG
      cases r1 with
      | true =>
        have hr2 : r2 ≤ 200 := HLE.out.2 rfl
        have HG3 := Lib.hid (show goP (cP f) (T.l.drop (j + 1)) r2 = (R1, R2) from HG2.out)
        go_wp2_with fail
        refine K.out.mono ?_
        rintro e w5 ⟨rfl, HG5, HB5⟩
        go_wp2_with fail
        go_roundg (len - (j + 1))
        case measure => omega
        case rel => exact ⟨j + 1, r2, by go_num, by omega, rfl, hr2, HG3, Lib.hid (grown_trans HL.out HG5.out), HB5⟩
      | false =>
        have HG3 := Lib.hid (show (false, r2) = (R1, R2) from HG2.out)
        go_wp2_with fail
        refine K.out.mono ?_
        rintro e w5 ⟨rfl, HG5, HB5⟩
        go_wp2_with fail
        go_ret
        obtain ⟨h1, h2⟩ := Prod.mk.inj HG3.out
        exact ⟨j, rfl, Lib.hid (by rw [← h1]; simp), Lib.hid (grown_trans HL.out HG5.out), by rw [← h2]; exact HB5⟩
    · have HG3 := Lib.hid (show (true, mj) = (R1, R2) by
        have h := HG.out
        rw [List.drop_eq_nil_of_le (by rw [HLN.out]; omega)] at h
        exact h)
      have n1 : decide (j < len) = false := decide_eq_false hjl
      go_wp2_with fail
      go_ret
      obtain ⟨h1, h2⟩ := Prod.mk.inj HG3.out
      exact ⟨-1, rfl, Lib.hid (by rw [← h1]; rfl), HL, by rw [← h2]; exact HBR⟩

set_option maxHeartbeats 1000000 in
theorem has_p (f : Nat) (ih : CntAt f) (T : TE) (v : Nd) (w0 w : World) (g m bd bp : Nat) (hin : InE w0 T v) (hb : Below w0.heap.size w0 w) (hg : w0.heap.size ≤ g) (hB : Blk w g 3 #[.int .i64 (m : Int)]) (hm : m ≤ 200) (hf : f ≤ 19)
    (hd : Blk w bd 3 #[.int .i64 (20 - (f : Int))]) (hp : Blk w bp 115 #[.pointer (some ⟨g, 0, none⟩)]) (hgd : g ≠ bd) (hgp : g ≠ bp) :
    Calls Tryz.prog 120 #[.slice v.A v.len v.cap, .func (.func 121) #[] #[.pointer (some ⟨bd, 0, none⟩), .pointer (some ⟨bp, 0, none⟩)]] w
      fun e w' => e = .returned (.bool (!(goP (cP f) T.l m).1)) ∧ Hid (w.grownBy w' (some g)) ∧ Hid (Blk w' g 3 #[.int .i64 ((goP (cP f) T.l m).2 : Nat)]) := by
  have K := Lib.hid (idx_p f ih T v w0 w g m bd bp hin hb hg hB hm hf hd hp hgd hgp)
  clear hin hb hB hd hp ih hgd hgp
  obtain ⟨R, hR⟩ : ∃ R, R = goP (cP f) T.l m := ⟨_, rfl⟩
  rw [← hR] at K ⊢
  clear hR
  go_enter Tryz.func120, Tryz.ntmps120
  go_wp2_with fail
  refine K.out.mono ?_
  rintro e w2 ⟨r, rfl, HR, HG, HB⟩
  go_wp2_with fail
  go_ret
  exact ⟨ret_bool HR.out, HG, HB⟩

theorem boxes3 (w : World) (c : Array Value) (t : TypeId) (D : Value) (t2 : TypeId) (p : Value) (t3 : TypeId) (w1 : World) (h : w1 = ((w.alloc (Obj.cells c t)).alloc (Obj.cells #[D] t2)).alloc (Obj.cells #[p] t3)) :
    Below w.heap.size w w1 ∧ Blk w1 w.heap.size t c ∧ Blk w1 (w.heap.size + 1) t2 #[D] ∧ Blk w1 (w.heap.size + 1 + 1) t3 #[p] := by
  subst h
  have s1 : (w.alloc (Obj.cells c t)).heap.size = w.heap.size + 1 := World.size_alloc _ _
  have s2 : ((w.alloc (Obj.cells c t)).alloc (Obj.cells #[D] t2)).heap.size = w.heap.size + 1 + 1 := by rw [World.size_alloc, s1]
  refine ⟨(((Below.refl _ _).alloc (Nat.le_refl _) _).alloc (by rw [s1]; omega) _).alloc (by rw [s2]; omega) _, ((Blk.new w t c).alloc _).alloc _, ?_, ?_⟩
  · have := (Blk.new (w.alloc (Obj.cells c t)) t2 #[D]).alloc (Obj.cells #[p] t3)
    rwa [s1] at this
  · have := Blk.new ((w.alloc (Obj.cells c t)).alloc (Obj.cells #[D] t2)) t3 #[p]
    rwa [s2] at this

set_option maxHeartbeats 8000000 in
set_option maxRecDepth 100000 in
theorem count_at : ∀ f, CntAt f := by
  intro f
  induction f with
  | zero =>
    intro T v w0 w g m hin hb hg hB hm hf
    have HB := Lib.hid hB
    clear hin hb hB
    have e0 : cP 0 T m = (false, m + 1) := rfl
    rw [e0]
    rw [show (21 : Int) - ((0 : Nat) : Int) = 21 by rfl]
    obtain ⟨⟨kd, n, d, nm, k⟩, A, len, cap⟩ := v
    simp only [Nd.val]
    have hgw : g < w.heap.size := HB.out.lt
    go_enter Tryz.func75, Tryz.ntmps75
    go_upto_region 1 with (fail)
    obtain ⟨w1, hw1⟩ : ∃ z9 : World, z9 = ((w.alloc (Obj.cells #[.int .i64 kd, .int .i64 n, .int .i64 d, .string nm, .int .i64 k, .slice A len cap] 51)).alloc (Obj.cells #[.int .i64 21] 3)).alloc (Obj.cells #[.pointer (some ⟨g, 0, none⟩)] 115) := ⟨_, rfl⟩
    obtain ⟨bw1, f1, d1, p1⟩ := boxes3 _ _ _ _ _ _ _ _ hw1
    rw [← hw1]
    clear hw1
    have HW1 := Lib.hid bw1
    have F1 := Lib.hid f1
    have D1 := Lib.hid d1
    have P1 := Lib.hid p1
    have HB1 := Lib.hid (HB.out.belowW bw1)
    clear bw1 f1 d1 p1
    have pp : w1.cell? ⟨w.heap.size + 1 + 1, 0, none⟩ = some (.pointer (some ⟨g, 0, none⟩)) := P1.out.cell 0
    have pg : w1.cell? ⟨g, 0, none⟩ = some (.int .i64 m) := HB1.out.cell 0
    have fg : w1.frozen? ⟨g, 0, none⟩ = false := HB1.out.frozen 0
    go_upto_region 2 with (fail)
    rw [HB1.out.setCell_eq]
    obtain ⟨w2, hw2⟩ : ∃ z9 : World, z9 = putB w1 g 3 (#[Value.int .i64 (m : Int)].setIfInBounds 0 (.int .i64 ((m : Int) + 1))) := ⟨_, rfl⟩
    have HG2 := Lib.hid (show w.grownBy w2 (some g) by rw [hw2]; exact grown_trans (grown_below _ HW1.out) (putB_grown _ _ _ _))
    have HW12 := Lib.hid (show w1.grownBy w2 (some g) by rw [hw2]; exact putB_grown _ _ _ _)
    have B2 := Lib.hid (show Blk w2 g 3 #[.int .i64 ((m + 1 : Nat) : Int)] by rw [hw2]; exact HB1.out.put _)
    rw [← hw2]
    clear hw2 pp pg fg
    have F2 := Lib.hid (F1.out.grown HW12.out (by intro e; injection e with e; omega))
    have D2 := Lib.hid (D1.out.grown HW12.out (by intro e; injection e with e; omega))
    have P2 := Lib.hid (P1.out.grown HW12.out (by intro e; injection e with e; omega))
    have pp : w2.cell? ⟨w.heap.size + 1 + 1, 0, none⟩ = some (.pointer (some ⟨g, 0, none⟩)) := P2.out.cell 0
    have pd : w2.cell? ⟨w.heap.size + 1, 0, none⟩ = some (.int .i64 21) := D2.out.cell 0
    have pg : w2.cell? ⟨g, 0, none⟩ = some (.int .i64 ((m : Int) + 1)) := B2.out.cell 0
    have pr0 : w2.cell? ⟨w.heap.size, 0, none⟩ = some (.int .i64 kd) := F2.out.cell 0
    have pr1 : w2.cell? ⟨w.heap.size, 1, none⟩ = some (.int .i64 n) := F2.out.cell 1
    have pr2 : w2.cell? ⟨w.heap.size, 2, none⟩ = some (.int .i64 d) := F2.out.cell 2
    have pr3 : w2.cell? ⟨w.heap.size, 3, none⟩ = some (.string nm) := F2.out.cell 3
    have pr4 : w2.cell? ⟨w.heap.size, 4, none⟩ = some (.int .i64 k) := F2.out.cell 4
    have pr5 : w2.cell? ⟨w.heap.size, 5, none⟩ = some (.slice A len cap) := F2.out.cell 5
    go_wp2_with fail
    go_ret
    exact ⟨rfl, HG2, B2⟩
  | succ f ih =>
    intro T v w0 w g m hin hb hg hB hm hf
    have HB := Lib.hid hB
    have HIN := Lib.hid hin
    have HBW := Lib.hid hb
    have HOK := Lib.hid hin.ok
    have HC := Lib.hid (show cP (f + 1) T m = if m + 1 ≤ 200 ∧ nodeB nameP v.h v.len = true then goP (cP f) T.l (m + 1) else (false, m + 1) by rw [cP_succ, hin.hd, hin.length])
    have IH := Lib.hid ih
    obtain ⟨C, hC⟩ : ∃ C, C = cP (f + 1) T m := ⟨_, rfl⟩
    rw [← hC] at HC ⊢
    obtain ⟨D, hD⟩ : ∃ D : Int, D = 21 - ((f + 1 : Nat) : Int) := ⟨_, rfl⟩
    rw [← hD]
    have HD := Lib.hid (show D = 20 - (f : Int) by omega)
    have hD1 : 1 ≤ D ∧ D ≤ 20 := by omega
    have hd20 : decide (20 < D) = false := decide_eq_false (by omega)
    clear hin hb hB ih hC hD
    by_cases h2 : m + 1 ≤ 200
    case neg =>
      have HC2 := Lib.hid (show C = (false, m + 1) by rw [HC.out, if_neg (fun h => h2 h.1)])
      have hm2 : decide ((200 : Int) < (m : Int) + 1) = true := decide_eq_true (by omega)
      obtain ⟨⟨kd, n, d, nm, k⟩, A, len, cap⟩ := v
      simp only [Nd.val]
      have hgw : g < w.heap.size := HB.out.lt
      go_enter Tryz.func75, Tryz.ntmps75
      go_upto_region 1 with (fail)
      obtain ⟨w1, hw1⟩ : ∃ z9 : World, z9 = ((w.alloc (Obj.cells #[.int .i64 kd, .int .i64 n, .int .i64 d, .string nm, .int .i64 k, .slice A len cap] 51)).alloc (Obj.cells #[.int .i64 D] 3)).alloc (Obj.cells #[.pointer (some ⟨g, 0, none⟩)] 115) := ⟨_, rfl⟩
      obtain ⟨bw1, f1, d1, p1⟩ := boxes3 _ _ _ _ _ _ _ _ hw1
      rw [← hw1]
      clear hw1
      have HW1 := Lib.hid bw1
      have F1 := Lib.hid f1
      have D1 := Lib.hid d1
      have P1 := Lib.hid p1
      have HB1 := Lib.hid (HB.out.belowW bw1)
      clear bw1 f1 d1 p1
      have pp : w1.cell? ⟨w.heap.size + 1 + 1, 0, none⟩ = some (.pointer (some ⟨g, 0, none⟩)) := P1.out.cell 0
      have pg : w1.cell? ⟨g, 0, none⟩ = some (.int .i64 m) := HB1.out.cell 0
      have fg : w1.frozen? ⟨g, 0, none⟩ = false := HB1.out.frozen 0
      go_upto_region 2 with (fail)
      rw [HB1.out.setCell_eq]
      obtain ⟨w2, hw2⟩ : ∃ z9 : World, z9 = putB w1 g 3 (#[Value.int .i64 (m : Int)].setIfInBounds 0 (.int .i64 ((m : Int) + 1))) := ⟨_, rfl⟩
      have HG2 := Lib.hid (show w.grownBy w2 (some g) by rw [hw2]; exact grown_trans (grown_below _ HW1.out) (putB_grown _ _ _ _))
      have HW12 := Lib.hid (show w1.grownBy w2 (some g) by rw [hw2]; exact putB_grown _ _ _ _)
      have B2 := Lib.hid (show Blk w2 g 3 #[.int .i64 ((m + 1 : Nat) : Int)] by rw [hw2]; exact HB1.out.put _)
      rw [← hw2]
      clear hw2 pp pg fg
      have F2 := Lib.hid (F1.out.grown HW12.out (by intro e; injection e with e; omega))
      have D2 := Lib.hid (D1.out.grown HW12.out (by intro e; injection e with e; omega))
      have P2 := Lib.hid (P1.out.grown HW12.out (by intro e; injection e with e; omega))
      have pp : w2.cell? ⟨w.heap.size + 1 + 1, 0, none⟩ = some (.pointer (some ⟨g, 0, none⟩)) := P2.out.cell 0
      have pd : w2.cell? ⟨w.heap.size + 1, 0, none⟩ = some (.int .i64 D) := D2.out.cell 0
      have pg : w2.cell? ⟨g, 0, none⟩ = some (.int .i64 ((m : Int) + 1)) := B2.out.cell 0
      have pr0 : w2.cell? ⟨w.heap.size, 0, none⟩ = some (.int .i64 kd) := F2.out.cell 0
      have pr1 : w2.cell? ⟨w.heap.size, 1, none⟩ = some (.int .i64 n) := F2.out.cell 1
      have pr2 : w2.cell? ⟨w.heap.size, 2, none⟩ = some (.int .i64 d) := F2.out.cell 2
      have pr3 : w2.cell? ⟨w.heap.size, 3, none⟩ = some (.string nm) := F2.out.cell 3
      have pr4 : w2.cell? ⟨w.heap.size, 4, none⟩ = some (.int .i64 k) := F2.out.cell 4
      have pr5 : w2.cell? ⟨w.heap.size, 5, none⟩ = some (.slice A len cap) := F2.out.cell 5
      go_wp2_with fail
      go_ret
      rw [HC2.out]
      exact ⟨rfl, HG2, B2⟩
    case pos =>
      have hm2 : decide ((200 : Int) < (m : Int) + 1) = false := decide_eq_false (by omega)
      cases hnd : nodeB nameP v.h v.len with
      | false =>
        have HC2 := Lib.hid (show C = (false, m + 1) by rw [HC.out, hnd, if_neg (by simp)])
        have HND := Lib.hid hnd
        clear hnd
        obtain ⟨⟨kd, n, d, nm, k⟩, A, len, cap⟩ := v
        simp only [Nd.val]
        have hgw : g < w.heap.size := HB.out.lt
        go_enter Tryz.func75, Tryz.ntmps75
        go_upto_region 1 with (fail)
        obtain ⟨w1, hw1⟩ : ∃ z9 : World, z9 = ((w.alloc (Obj.cells #[.int .i64 kd, .int .i64 n, .int .i64 d, .string nm, .int .i64 k, .slice A len cap] 51)).alloc (Obj.cells #[.int .i64 D] 3)).alloc (Obj.cells #[.pointer (some ⟨g, 0, none⟩)] 115) := ⟨_, rfl⟩
        obtain ⟨bw1, f1, d1, p1⟩ := boxes3 _ _ _ _ _ _ _ _ hw1
        rw [← hw1]
        clear hw1
        have HW1 := Lib.hid bw1
        have F1 := Lib.hid f1
        have D1 := Lib.hid d1
        have P1 := Lib.hid p1
        have HB1 := Lib.hid (HB.out.belowW bw1)
        clear bw1 f1 d1 p1
        have pp : w1.cell? ⟨w.heap.size + 1 + 1, 0, none⟩ = some (.pointer (some ⟨g, 0, none⟩)) := P1.out.cell 0
        have pg : w1.cell? ⟨g, 0, none⟩ = some (.int .i64 m) := HB1.out.cell 0
        have fg : w1.frozen? ⟨g, 0, none⟩ = false := HB1.out.frozen 0
        go_upto_region 2 with (fail)
        rw [HB1.out.setCell_eq]
        obtain ⟨w2, hw2⟩ : ∃ z9 : World, z9 = putB w1 g 3 (#[Value.int .i64 (m : Int)].setIfInBounds 0 (.int .i64 ((m : Int) + 1))) := ⟨_, rfl⟩
        have HG2 := Lib.hid (show w.grownBy w2 (some g) by rw [hw2]; exact grown_trans (grown_below _ HW1.out) (putB_grown _ _ _ _))
        have HW12 := Lib.hid (show w1.grownBy w2 (some g) by rw [hw2]; exact putB_grown _ _ _ _)
        have B2 := Lib.hid (show Blk w2 g 3 #[.int .i64 ((m + 1 : Nat) : Int)] by rw [hw2]; exact HB1.out.put _)
        rw [← hw2]
        clear hw2 pp pg fg
        have F2 := Lib.hid (F1.out.grown HW12.out (by intro e; injection e with e; omega))
        have D2 := Lib.hid (D1.out.grown HW12.out (by intro e; injection e with e; omega))
        have P2 := Lib.hid (P1.out.grown HW12.out (by intro e; injection e with e; omega))
        have pp : w2.cell? ⟨w.heap.size + 1 + 1, 0, none⟩ = some (.pointer (some ⟨g, 0, none⟩)) := P2.out.cell 0
        have pd : w2.cell? ⟨w.heap.size + 1, 0, none⟩ = some (.int .i64 D) := D2.out.cell 0
        have pg : w2.cell? ⟨g, 0, none⟩ = some (.int .i64 ((m : Int) + 1)) := B2.out.cell 0
        have pr0 : w2.cell? ⟨w.heap.size, 0, none⟩ = some (.int .i64 kd) := F2.out.cell 0
        have pr1 : w2.cell? ⟨w.heap.size, 1, none⟩ = some (.int .i64 n) := F2.out.cell 1
        have pr2 : w2.cell? ⟨w.heap.size, 2, none⟩ = some (.int .i64 d) := F2.out.cell 2
        have pr3 : w2.cell? ⟨w.heap.size, 3, none⟩ = some (.string nm) := F2.out.cell 3
        have pr4 : w2.cell? ⟨w.heap.size, 4, none⟩ = some (.int .i64 k) := F2.out.cell 4
        have pr5 : w2.cell? ⟨w.heap.size, 5, none⟩ = some (.slice A len cap) := F2.out.cell 5
        go_wp2_with fail
        refine (node_p ⟨⟨kd, n, d, nm, k⟩, A, len, cap⟩ w2 HOK.out).mono ?_
        rintro e w3 ⟨rfl, HB3⟩
        rw [HND.out]
        go_wp2_with fail
        go_ret
        rw [HC2.out]
        exact ⟨rfl, Lib.hid (grown_trans HG2.out (grown_below _ HB3.out)), Lib.hid (B2.out.belowW HB3.out)⟩
      | true =>
        have HC2 := Lib.hid (show C = goP (cP f) T.l (m + 1) by rw [HC.out, hnd, if_pos ⟨h2, rfl⟩])
        have HND := Lib.hid hnd
        clear hnd
        obtain ⟨⟨kd, n, d, nm, k⟩, A, len, cap⟩ := v
        simp only [Nd.val]
        have hgw : g < w.heap.size := HB.out.lt
        go_enter Tryz.func75, Tryz.ntmps75
        go_upto_region 1 with (fail)
        obtain ⟨w1, hw1⟩ : ∃ z9 : World, z9 = ((w.alloc (Obj.cells #[.int .i64 kd, .int .i64 n, .int .i64 d, .string nm, .int .i64 k, .slice A len cap] 51)).alloc (Obj.cells #[.int .i64 D] 3)).alloc (Obj.cells #[.pointer (some ⟨g, 0, none⟩)] 115) := ⟨_, rfl⟩
        obtain ⟨bw1, f1, d1, p1⟩ := boxes3 _ _ _ _ _ _ _ _ hw1
        rw [← hw1]
        clear hw1
        have HW1 := Lib.hid bw1
        have F1 := Lib.hid f1
        have D1 := Lib.hid d1
        have P1 := Lib.hid p1
        have HB1 := Lib.hid (HB.out.belowW bw1)
        clear bw1 f1 d1 p1
        have pp : w1.cell? ⟨w.heap.size + 1 + 1, 0, none⟩ = some (.pointer (some ⟨g, 0, none⟩)) := P1.out.cell 0
        have pg : w1.cell? ⟨g, 0, none⟩ = some (.int .i64 m) := HB1.out.cell 0
        have fg : w1.frozen? ⟨g, 0, none⟩ = false := HB1.out.frozen 0
        go_upto_region 2 with (fail)
        rw [HB1.out.setCell_eq]
        obtain ⟨w2, hw2⟩ : ∃ z9 : World, z9 = putB w1 g 3 (#[Value.int .i64 (m : Int)].setIfInBounds 0 (.int .i64 ((m : Int) + 1))) := ⟨_, rfl⟩
        have HG2 := Lib.hid (show w.grownBy w2 (some g) by rw [hw2]; exact grown_trans (grown_below _ HW1.out) (putB_grown _ _ _ _))
        have HW12 := Lib.hid (show w1.grownBy w2 (some g) by rw [hw2]; exact putB_grown _ _ _ _)
        have B2 := Lib.hid (show Blk w2 g 3 #[.int .i64 ((m + 1 : Nat) : Int)] by rw [hw2]; exact HB1.out.put _)
        rw [← hw2]
        clear hw2 pp pg fg
        have F2 := Lib.hid (F1.out.grown HW12.out (by intro e; injection e with e; omega))
        have D2 := Lib.hid (D1.out.grown HW12.out (by intro e; injection e with e; omega))
        have P2 := Lib.hid (P1.out.grown HW12.out (by intro e; injection e with e; omega))
        have pp : w2.cell? ⟨w.heap.size + 1 + 1, 0, none⟩ = some (.pointer (some ⟨g, 0, none⟩)) := P2.out.cell 0
        have pd : w2.cell? ⟨w.heap.size + 1, 0, none⟩ = some (.int .i64 D) := D2.out.cell 0
        have pg : w2.cell? ⟨g, 0, none⟩ = some (.int .i64 ((m : Int) + 1)) := B2.out.cell 0
        have pr0 : w2.cell? ⟨w.heap.size, 0, none⟩ = some (.int .i64 kd) := F2.out.cell 0
        have pr1 : w2.cell? ⟨w.heap.size, 1, none⟩ = some (.int .i64 n) := F2.out.cell 1
        have pr2 : w2.cell? ⟨w.heap.size, 2, none⟩ = some (.int .i64 d) := F2.out.cell 2
        have pr3 : w2.cell? ⟨w.heap.size, 3, none⟩ = some (.string nm) := F2.out.cell 3
        have pr4 : w2.cell? ⟨w.heap.size, 4, none⟩ = some (.int .i64 k) := F2.out.cell 4
        have pr5 : w2.cell? ⟨w.heap.size, 5, none⟩ = some (.slice A len cap) := F2.out.cell 5
        go_wp2_with fail
        refine (node_p ⟨⟨kd, n, d, nm, k⟩, A, len, cap⟩ w2 HOK.out).mono ?_
        rintro e w3 ⟨rfl, HB3⟩
        rw [HND.out]
        have HG3 := Lib.hid (grown_trans HG2.out (grown_below _ HB3.out))
        have B3 := Lib.hid (B2.out.belowW HB3.out)
        have F3 := Lib.hid (F2.out.belowW HB3.out)
        have D3 := Lib.hid (D2.out.belowW HB3.out)
        have P3 := Lib.hid (P2.out.belowW HB3.out)
        clear pr0 pr1 pr2 pr3 pr4 pr5 pd pp pg
        have pr5 : w3.cell? ⟨w.heap.size, 5, none⟩ = some (.slice A len cap) := F3.out.cell 5
        have hmf : ∀ (fn : Fn) (first cap : Array Value) (w : World), (Instr.makeFunc fn first cap).run Tryz.prog w = .ok (.func fn first cap) w := fun _ _ _ _ => rfl
        go_wp2_with fail
        refine (has_p f IH.out T ⟨⟨kd, n, d, nm, k⟩, A, len, cap⟩ w0 w3 g (m + 1) (w.heap.size + 1) (w.heap.size + 1 + 1) HIN.out (HBW.out.grown HG3.out HBW.out.size (fun k hk => by injection hk with hk; omega)) hg B3.out h2 (by omega) (by rw [← HD.out]; exact D3.out) P3.out (by omega) (by omega)).mono ?_
        rw [← HC2.out]
        rintro e w4 ⟨rfl, HG4, HB4⟩
        go_wp2_with fail
        go_ret
        exact ⟨ret_bool (by simp), Lib.hid (grown_trans HG3.out HG4.out), HB4⟩

/-- Whether an expression is valid. -/
def okE (T : TE) : Bool := decide (cR 20 T ≤ 200)
theorem okE_p (T : TE) : (cP 20 T 0).1 = okE T := valid_eq nameP T
theorem boxes2 (w : World) (c : Array Value) (t : TypeId) (D : Value) (t2 : TypeId) (w1 : World) (h : w1 = (w.alloc (Obj.cells c t)).alloc (Obj.cells #[D] t2)) :
    Below w.heap.size w w1 ∧ Blk w1 w.heap.size t c ∧ Blk w1 (w.heap.size + 1) t2 #[D] := by
  subst h
  have s1 : (w.alloc (Obj.cells c t)).heap.size = w.heap.size + 1 := World.size_alloc _ _
  refine ⟨((Below.refl _ _).alloc (Nat.le_refl _) _).alloc (by rw [s1]; omega) _, (Blk.new w t c).alloc _, ?_⟩
  have := Blk.new (w.alloc (Obj.cells c t)) t2 #[D]
  rwa [s1] at this
set_option maxHeartbeats 1000000 in
theorem eValid_p (T : TE) (v : Nd) (w : World) (hin : InE w T v) : Calls Tryz.prog 36 #[v.val] w (RetB (.bool (okE T)) w) := by
  have HIN := Lib.hid hin
  rw [← okE_p]
  clear hin
  obtain ⟨R, hR⟩ : ∃ R, R = cP 20 T 0 := ⟨_, rfl⟩
  rw [← hR]
  have HR := Lib.hid hR
  clear hR
  obtain ⟨⟨kd, n, d, nm, k⟩, A, len, cap⟩ := v
  simp only [Nd.val]
  go_enter Tryz.func36, Tryz.ntmps36
  go_wp2_with fail
  obtain ⟨w1, hw1⟩ : ∃ z9 : World, z9 = (w.alloc (Obj.cells #[.int .i64 kd, .int .i64 n, .int .i64 d, .string nm, .int .i64 k, .slice A len cap] 51)).alloc (Obj.cells #[.int .i64 0] 3) := ⟨_, rfl⟩
  obtain ⟨bw1, f1, d1⟩ := boxes2 _ _ _ _ _ _ hw1
  rw [← hw1]
  clear hw1
  have HW1 := Lib.hid bw1
  have K : Calls Tryz.prog 75 #[.agg #[.int .i64 kd, .int .i64 n, .int .i64 d, .string nm, .int .i64 k, .slice A len cap], .int .i64 1, .pointer (some ⟨w.heap.size + 1, 0, none⟩)] w1 (CntE (cP 20 T 0) (w.heap.size + 1) w1) :=
    count_at 20 T ⟨⟨kd, n, d, nm, k⟩, A, len, cap⟩ w w1 (w.heap.size + 1) 0 HIN.out bw1 (by omega) d1 (by omega) (by omega)
  refine K.mono ?_
  rw [← HR.out]
  rintro e w2 ⟨rfl, HG, HB⟩
  go_wp2_with fail
  go_ret
  exact ⟨rfl, Lib.hid (HW1.out.grown HG.out HW1.out.size (fun k hk => by injection hk with hk; omega))⟩
end Go.Proofs.YtoogeihbhhcpaaaGreatDoor
