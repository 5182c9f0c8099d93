/-
  The walks of dyadic.canonical, checked, Make, Int.
-/
import Derived.Test.YtffdkakogeofmaaGreatDoorDyA
import Derived.Outline
set_option linter.unusedVariables false
namespace Go.Fl
open Go.RowKit
theorem Blk.belowW {w w' : World} {g : Nat} {t : TypeId} {cs : Array Value} (h : Blk w g t cs) (hb : Below w.heap.size w w') : Blk w' g t cs := h.below hb h.lt
theorem Blk.new1 (w : World) (o : Obj) (t : TypeId) (cs : Array Value) : Blk ((w.alloc o).alloc (.cells cs t)) (w.heap.size + 1) t cs := by
  have := Blk.new (w.alloc o) t cs
  simpa using this
theorem Blk.new2 (w : World) (o o' : Obj) (t : TypeId) (cs : Array Value) : Blk (((w.alloc o).alloc o').alloc (.cells cs t)) (w.heap.size + 2) t cs := by
  have := Blk.new ((w.alloc o).alloc o') t cs
  simpa using this
theorem below_a1 (w : World) (o : Obj) : Below w.heap.size w (w.alloc o) := (Below.refl _ _).alloc (Nat.le_refl _) _
theorem below_a2 (w : World) (o o' : Obj) : Below w.heap.size w ((w.alloc o).alloc o') := (below_a1 w o).alloc (by simp) _
theorem below_a3 (w : World) (o o' o'' : Obj) : Below w.heap.size w (((w.alloc o).alloc o').alloc o'') := (below_a2 w o o').alloc (by simp; omega) _
theorem below_a4 (w : World) (o o' o'' o3 : Obj) : Below w.heap.size w ((((w.alloc o).alloc o').alloc o'').alloc o3) := (below_a3 w o o' o'').alloc (by simp; omega) _
theorem Blk.new3 (w : World) (o o' o'' : Obj) (t : TypeId) (cs : Array Value) : Blk ((((w.alloc o).alloc o').alloc o'').alloc (.cells cs t)) (w.heap.size + 3) t cs := by
  have := Blk.new (((w.alloc o).alloc o').alloc o'') t cs
  simpa using this
/-- No cell is a limb. -/
def NoU (cs : Array Value) : Prop := ∀ (i : Nat) (x : Int), cs[i]? ≠ some (.int .u32 x)
theorem noU3 {a : Bool} {A : Option Addr} {n c : Nat} {e : Int} : NoU #[.bool a, .slice A n c, .int .i64 e] := by
  intro i x h
  match i with
  | 0 => simp at h
  | 1 => simp at h
  | 2 => simp at h
  | i + 3 => simp at h
theorem store3_put {w : World} {g : Nat} {t : TypeId} {x y z : Value} (hB : Blk w g t #[x, y, z]) (a b c : Value) : ((w.setCell ⟨g, 0, none⟩ a).setCell ⟨g, 1, none⟩ b).setCell ⟨g, 2, none⟩ c = putB w g t #[a, b, c] := by
  rw [hB.setCell_eq 0 a]
  have h1 := hB.put ((#[x, y, z] : Array Value).setIfInBounds 0 a)
  rw [h1.setCell_eq 1 b, putB_putB]
  have h2 := hB.put (((#[x, y, z] : Array Value).setIfInBounds 0 a).setIfInBounds 1 b)
  rw [h2.setCell_eq 2 c, putB_putB]
  rfl
theorem store3_below {B : Nat} {w0 w : World} {g : Nat} {t : TypeId} {x y z : Value} (h : Below B w0 w) (hB : Blk w g t #[x, y, z]) (a b c : Value) (hg : B ≤ g) : Below B w0 (((w.setCell ⟨g, 0, none⟩ a).setCell ⟨g, 1, none⟩ b).setCell ⟨g, 2, none⟩ c) := by
  rw [store3_put hB]
  exact h.trans (putB_below w g t _ hg)
end Go.Fl
namespace Go.Fl.Nm
open Go.RowKit Go.Fl
theorem Sl.belowW {w w' : World} {A : Option Addr} {n c : Nat} {l : List Nat} (h : Sl w A n c l) (hb : Below w.heap.size w w') : Sl w' A n c l := h.below hb
theorem Sl.clip {w : World} {A : Option Addr} {n c : Nat} {l : List Nat} (h : Sl w A n c l) : Sl w A n n l := by
  have := h.cut (Nat.le_refl n) (Nat.le_refl n) h.max (fun e => by have := h.nil e; have := h.cap; omega)
  rwa [List.take_of_length_le (by rw [h.len]; exact Nat.le_refl _)] at this
theorem Sl.lim {w : World} {A : Option Addr} {n c v k : Nat} (h : Sl w A n c (limbs v)) (hv : blen v ≤ 32 * k) : n ≤ k := by rw [← h.len]; exact Go.Fl.Dy.limbs_bits hv
/-- Limbs do not lie in a block that has none. -/
theorem Sl.far {w w' : World} {A : Option Addr} {n c g : Nat} {l : List Nat} {t : TypeId} {cs : Array Value} (h : Sl w A n c l) (hB : Blk w g t cs) (hN : NoU cs) (hg : w.grownBy w' (some g)) : Sl w' A n c l := by
  rcases Nat.eq_zero_or_pos n with h0 | h0
  · exact ⟨h.1, h.2.1, h.2.2.1, h.2.2.2.1, h.2.2.2.2.1, h.rd.1, fun hp => absurd hp (by omega)⟩
  · refine h.grown hg ?_
    rintro b off hA rfl
    obtain ⟨b', off', x, hA', _, _, _, hx⟩ := h.at_ h0
    rw [hA] at hA'
    injection hA' with hA'
    injection hA' with e1 e2
    subst e1 e2
    rw [hB.cell] at hx
    exact hN _ _ hx
theorem store3_sl {w : World} {A : Option Addr} {n m g : Nat} {l : List Nat} {t : TypeId} {x y z : Value} (h : Sl w A n m l) (hB : Blk w g t #[x, y, z]) (hN : NoU #[x, y, z]) (a b c : Value) : Sl (((w.setCell ⟨g, 0, none⟩ a).setCell ⟨g, 1, none⟩ b).setCell ⟨g, 2, none⟩ c) A n m l := by
  rw [store3_put hB]
  exact h.far hB hN (putB_grown w g t _)
end Go.Fl.Nm
namespace Go.Proofs.YtffdkakogeofmaaGreatDoor
open Go.RowKit Go.Fl Go.Fl.Nm Go.Fl.Dy

theorem RB.belowW {w w' : World} (h : RB w) (hb : Below w.heap.size w w') : RB w' := h.below hb
/-- Limbs of a number, and no error. -/
def SlR (v : Nat) (w : World) (e : Ending) (w' : World) : Prop :=
  ∃ (A : Option Addr) (n : Nat), e = .returned (.tuple #[.slice A n n, .int .i64 0]) ∧ Hid (Sl w' A n n (limbs v)) ∧ Hid (Below w.heap.size w w')
theorem SlR.of {base v : Nat} {w : World} {e : Ending} {w' : World} (h : Res base v w e w') (hv : blen v ≤ 8192) : SlR v w e w' := by
  obtain ⟨A, n, l, er, rfl, HN, HR, HB⟩ := h
  have hl : (limbs v).length ≤ 256 := limbs_bits (by omega)
  rcases HR.out with ⟨rfl, rfl, _⟩ | ⟨_, _, h⟩
  · exact ⟨A, n, rfl, Lib.hid HN.out.sl, HB⟩
  · omega
section
variable (A B : Option Addr) (n c m d : Nat) (a b : List Nat) (w : World) (ha : Sl w A n c a) (hb : Sl w B m d b) (hn : n ≤ 256) (hm : m ≤ 256)
include ha hb hn hm in
theorem nAdd_sl (hv : blen (val a + val b) ≤ 8192) : Calls Tryz.prog 91 #[.slice A n c, .slice B m d] w (SlR (val a + val b) w) := (nAdd_ok A B n c m d a b w ha hb hn hm).mono fun _ _ h => SlR.of h hv
include ha hb hn hm in
theorem nSub_sl (hle : val b ≤ val a) (hv : blen (val a - val b) ≤ 8192) : Calls Tryz.prog 186 #[.slice A n c, .slice B m d] w (SlR (val a - val b) w) := (nSub_ok A B n c m d a b w ha hb hn hm hle).mono fun _ _ h => SlR.of h hv
include ha hb hn hm in
theorem nMul_sl (hv : blen (val a * val b) ≤ 8192) : Calls Tryz.prog 53 #[.slice A n c, .slice B m d] w (SlR (val a * val b) w) := (nMul_ok A B n c m d a b w ha hb hn hm).mono fun _ _ h => SlR.of h hv
include ha hn in
theorem nShl_sl (k : Int) (hk : 0 ≤ k) (hk1 : k ≤ 65536) (hv : blen (2 ^ k.toNat * val a) ≤ 8192) : Calls Tryz.prog 89 #[.slice A n c, .int .i64 k] w (SlR (2 ^ k.toNat * val a) w) := by
  rw [Nat.mul_comm] at hv ⊢
  exact (nShl_ok A n c k a w ha hn hk hk1).mono fun _ _ h => SlR.of h hv
include ha hn in
theorem nShr_sl (k : Int) (hk : 0 ≤ k) (hk1 : k ≤ 65536) (hv : blen (val a / 2 ^ k.toNat) ≤ 8192) : Calls Tryz.prog 90 #[.slice A n c, .int .i64 k] w (SlR (val a / 2 ^ k.toNat) w) := (nShr_ok A n c k a w ha hn hk hk1).mono fun _ _ h => SlR.of h hv
end

/-- A dyadic number. -/
def DyR (d : D) (w : World) (e : Ending) (w' : World) : Prop :=
  ∃ (A : Option Addr) (n c : Nat), e = .returned (.agg #[.bool d.neg, .slice A n c, .int .i64 d.e]) ∧ Hid (Sl w' A n c (limbs d.k)) ∧ Hid (Below w.heap.size w w')
/-- A dyadic number and an error. -/
def DyE (r : D × Int) (w : World) (e : Ending) (w' : World) : Prop :=
  ∃ (A : Option Addr) (n c : Nat), e = .returned (.tuple #[.agg #[.bool r.1.neg, .slice A n c, .int .i64 r.1.e], .int .i64 r.2]) ∧ Hid (Sl w' A n c (limbs r.1.k)) ∧ Hid (Below w.heap.size w w')
/-- A value. -/
def Ret (v : Value) (w : World) (e : Ending) (w' : World) : Prop := e = .returned v ∧ Hid (Below w.heap.size w w')

set_option maxHeartbeats 1000000 in
theorem canonical_any (neg : Bool) (A : Option Addr) (n c : Nat) (l : List Nat) (ex : Int) (w : World) (h : Sl w A n c l) (hT : RB w) (hn : n ≤ 256) (h1 : -1000000000 ≤ ex) (h2 : ex ≤ 1000000000) :
    Calls Tryz.prog 106 #[.bool neg, .slice A n c, .int .i64 ex] w (DyR (canon neg (val l) ex) w) := by
  have H := Lib.hid h
  have HT := Lib.hid hT
  have HTL := Lib.hid (tl_le l)
  have HL := Lib.hid h.len
  have HOK := Lib.hid h.ok
  have hcm := h.capMax
  have hnc := h.cap
  unfold maxLen at hcm
  have HNO := Lib.hid h.nil
  clear h hT
  by_cases h0 : tl l = 0
  · have HC := Lib.hid (show canon neg (val l) ex = ⟨false, 0, 0⟩ by rw [val_zero_iff.2 h0]; rfl)
    go_enter Tryz.func106, Tryz.ntmps106
    go_wp2_with fail
    refine (trimmed_any A n c l _ (H.out.alloc _)).mono ?_
    rintro e w1 ⟨rfl, rfl⟩
    rw [h0]
    go_wp2_with fail
    refine bodyPost_ret (v := .agg #[.bool false, .slice none 0 0, .int .i64 0]) (by simp [results, Tryz.results106, go_sem]) rfl ?_
    rw [HC.out]
    exact ⟨none, 0, 0, rfl, Lib.hid (by rw [limbs_zero]; exact Sl.none_ _), Lib.hid (below_a1 _ _)⟩
  · obtain ⟨k, hk⟩ : ∃ k, tl l = k := ⟨_, rfl⟩
    have hkn : k ≤ n := by rw [← hk, ← HL.out]; exact HTL.out
    have hk0 : ((k : Int) == 0) = false := by rw [beq_eq_false_iff_ne]; omega
    have hv0 : val l ≠ 0 := fun h => h0 (val_zero_iff.1 h)
    have HVT := Lib.hid (show val (l.take k) = val l by rw [← hk, val_trim])
    have HV0 := Lib.hid (show val (l.take k) ≠ 0 by rw [HVT.out]; exact hv0)
    have HS := Lib.hid (H.out.cut (m := k) (c' := c) hkn (by omega) (by unfold maxLen; omega) HNO.out)
    have hbl : blen (val l) ≤ 32 * n := by
      have := val_lt HOK.out
      rw [HL.out, BB_pow, ← Nat.pow_mul] at this
      exact blen_le this
    have hv2 := v2_lt hv0
    have hbo := blen_od hv0
    have HC := Lib.hid (canon_pos (neg := neg) (e := ex) hv0)
    have HK := Lib.hid hk
    clear h0 hk hv0
    obtain ⟨v, hv⟩ : ∃ v, v = v2 (val l) := ⟨_, rfl⟩
    have HOD := Lib.hid (show val (l.take k) / 2 ^ (v : Int).toNat = od (val l) by rw [HVT.out, Int.toNat_natCast, hv]; rfl)
    have HVV := Lib.hid (show v2 (val (l.take k)) = v by rw [HVT.out, hv])
    have hvb : v ≤ 8192 := by omega
    have HBO := Lib.hid (show blen (od (val l)) ≤ 8192 by omega)
    rw [← hv] at hv2 hbo
    have HVX := Lib.hid hv
    clear hv hbo hv2
    go_enter Tryz.func106, Tryz.ntmps106
    go_wp2_with fail
    obtain ⟨w1, hw⟩ : ∃ x, x = (w.alloc (.cells #[.bool false, .slice none 0 0, .int .i64 0] 25)) := ⟨_, rfl⟩
    have HB1 := Lib.hid (show Below w.heap.size w w1 by rw [hw]; exact below_a1 _ _)
    have F1a := Lib.hid (H.out.belowW HB1.out)
    have F1s := Lib.hid (HS.out.belowW HB1.out)
    have F1t := Lib.hid (HT.out.belowW HB1.out)
    have F1r := Lib.hid (show Blk w1 (w.heap.size) 25 #[.bool false, .slice none 0 0, .int .i64 0] by rw [hw]; exact Blk.new _ _ _)
    rw [← hw]
    clear hw
    refine (trimmed_any A n c l w1 F1a.out).mono ?_
    rintro e w' ⟨rfl, rfl⟩
    rw [HK.out]
    go_wp2_with fail
    refine (low_any A k c (l.take k) w1 F1s.out F1t.out (by omega) HV0.out).mono ?_
    rintro e w' ⟨rfl, rfl⟩
    rw [HVV.out]
    go_wp2_with fail
    refine (nShr_sl A k c (l.take k) w1 F1s.out (by omega) v (by omega) (by omega) (by rw [HOD.out]; exact HBO.out)).mono ?_
    rw [HOD.out]
    rintro e w2 ⟨X, x, rfl, HX, HB2⟩
    have F2a := Lib.hid (F1a.out.belowW HB2.out)
    have F2s := Lib.hid (F1s.out.belowW HB2.out)
    have F2t := Lib.hid (F1t.out.belowW HB2.out)
    have F2r := Lib.hid (F1r.out.belowW HB2.out)
    have HL2 := Lib.hid (HB1.out.trans (HB2.out.mono HB1.out.size))
    have F2x := Lib.hid (HX.out)
    have hx : x ≤ 256 := by rw [← HX.out.len]; exact limbs_bits (by have := HBO.out; omega)
    go_wp2_with fail
    refine (clone_any X x x _ w2 F2x.out (by omega)).mono ?_
    rintro e w3 ⟨Y, y, rfl, HY, HB3⟩
    have F3a := Lib.hid (F2a.out.belowW HB3.out)
    have F3s := Lib.hid (F2s.out.belowW HB3.out)
    have F3t := Lib.hid (F2t.out.belowW HB3.out)
    have F3r := Lib.hid (F2r.out.belowW HB3.out)
    have F3x := Lib.hid (F2x.out.belowW HB3.out)
    have HL3 := Lib.hid (HL2.out.trans (HB3.out.mono HL2.out.size))
    have F3y := Lib.hid (HY.out.sl)
    have HNY := Lib.hid HY.out.sl.nil
    have hyc := HY.out.sl.cap
    have hym := HY.out.sl.capMax
    go_wp2_with fail
    refine (clip_any Y x y w3 hyc hym HNY.out).mono ?_
    rintro e w' ⟨rfl, rfl⟩
    have pr0 : (w3).cell? ⟨w.heap.size, 0, none⟩ = some (.bool false) := F3r.out.cell 0
    have fr0 : (w3).frozen? ⟨w.heap.size, 0, none⟩ = false := F3r.out.frozen 0
    have pr1 : (w3).cell? ⟨w.heap.size, 1, none⟩ = some (.slice none 0 0) := F3r.out.cell 1
    have fr1 : (w3).frozen? ⟨w.heap.size, 1, none⟩ = false := F3r.out.frozen 1
    have pr2 : (w3).cell? ⟨w.heap.size, 2, none⟩ = some (.int .i64 0) := F3r.out.cell 2
    have fr2 : (w3).frozen? ⟨w.heap.size, 2, none⟩ = false := F3r.out.frozen 2
    go_wp2_with fail
    refine bodyPost_ret (v := .agg #[.bool neg, .slice Y x x, .int .i64 (ex + v)]) (by simp [results, Tryz.results106, go_sem, pr0, pr1, pr2]) rfl ?_
    rw [HC.out]
    refine ⟨Y, x, x, by rw [HVX.out], Lib.hid ?_, Lib.hid (store3_below HL3.out F3r.out _ _ _ (Nat.le_refl _))⟩
    exact store3_sl F3y.out.clip F3r.out noU3 _ _ _

set_option maxHeartbeats 1000000 in
theorem inRange_any (ng : Bool) (A : Option Addr) (n c : Nat) (ex : Int) (l : List Nat) (w : World) (h : Sl w A n c l) (hn : n ≤ 100000) :
    Calls Tryz.prog 85 #[.agg #[.bool ng, .slice A n c, .int .i64 ex]] w (Ret (.bool (inR (val l) ex)) w) := by
  have H := Lib.hid h
  clear h
  obtain ⟨b, hb⟩ : ∃ b : Int, b = (blen (val l) : Nat) := ⟨_, rfl⟩
  have HBL := Lib.hid hb.symm
  have hb0 : 0 ≤ b := by omega
  have hb1 : b ≤ 3200000 := by
    have := val_lt H.out.ok
    rw [H.out.len, BB_pow, ← Nat.pow_mul] at this
    have := blen_le this
    omega
  have hz : b = 0 ↔ val l = 0 := by rw [hb, ← blen_zero_iff]; omega
  by_cases t0 : b = 0
  · have HR := Lib.hid (show inR (val l) ex = true by simp [inR, hz.1 t0])
    clear hz hb
    have d0 : (b == 0) = true := by simp [t0]
    clear t0
    go_enter Tryz.func85, Tryz.ntmps85
    go_wp2_with fail
    obtain ⟨w1, hw⟩ : ∃ x, x = (w.alloc (.cells #[.bool ng, .slice A n c, .int .i64 ex] 25)) := ⟨_, rfl⟩
    have HB1 := Lib.hid (show Below w.heap.size w w1 by rw [hw]; exact below_a1 _ _)
    have F1a := Lib.hid (H.out.belowW HB1.out)
    have F1d := Lib.hid (show Blk w1 (w.heap.size) 25 #[.bool ng, .slice A n c, .int .i64 ex] by rw [hw]; exact Blk.new _ _ _)
    rw [← hw]
    clear hw
    have pd0 : (w1).cell? ⟨w.heap.size, 0, none⟩ = some (.bool ng) := F1d.out.cell 0
    have fd0 : (w1).frozen? ⟨w.heap.size, 0, none⟩ = false := F1d.out.frozen 0
    have pd1 : (w1).cell? ⟨w.heap.size, 1, none⟩ = some (.slice A n c) := F1d.out.cell 1
    have fd1 : (w1).frozen? ⟨w.heap.size, 1, none⟩ = false := F1d.out.frozen 1
    have pd2 : (w1).cell? ⟨w.heap.size, 2, none⟩ = some (.int .i64 ex) := F1d.out.cell 2
    have fd2 : (w1).frozen? ⟨w.heap.size, 2, none⟩ = false := F1d.out.frozen 2
    go_wp2_with fail
    refine (size_any A n c l w1 F1a.out hn).mono ?_
    rintro e w' ⟨rfl, rfl⟩
    rw [HBL.out]
    go_wp2_with fail
    go_ret
    exact ⟨ret_bool (by rw [HR.out]), HB1⟩
  have n0 : val l ≠ 0 := fun h => t0 (hz.2 h)
  have d0 : (b == 0) = false := by rw [beq_eq_false_iff_ne]; exact t0
  by_cases t1 : b ≤ 4096
  case neg =>
    have HR := Lib.hid (show inR (val l) ex = false by rw [Bool.eq_false_iff]; intro hh; have hh := (inR_iff n0).1 hh; omega)
    clear hz hb
    have dd : decide (b ≤ 4096) = false := decide_eq_false t1
    clear t1 t0 n0
    go_enter Tryz.func85, Tryz.ntmps85
    go_wp2_with fail
    obtain ⟨w1, hw⟩ : ∃ x, x = (w.alloc (.cells #[.bool ng, .slice A n c, .int .i64 ex] 25)) := ⟨_, rfl⟩
    have HB1 := Lib.hid (show Below w.heap.size w w1 by rw [hw]; exact below_a1 _ _)
    have F1a := Lib.hid (H.out.belowW HB1.out)
    have F1d := Lib.hid (show Blk w1 (w.heap.size) 25 #[.bool ng, .slice A n c, .int .i64 ex] by rw [hw]; exact Blk.new _ _ _)
    rw [← hw]
    clear hw
    have pd0 : (w1).cell? ⟨w.heap.size, 0, none⟩ = some (.bool ng) := F1d.out.cell 0
    have fd0 : (w1).frozen? ⟨w.heap.size, 0, none⟩ = false := F1d.out.frozen 0
    have pd1 : (w1).cell? ⟨w.heap.size, 1, none⟩ = some (.slice A n c) := F1d.out.cell 1
    have fd1 : (w1).frozen? ⟨w.heap.size, 1, none⟩ = false := F1d.out.frozen 1
    have pd2 : (w1).cell? ⟨w.heap.size, 2, none⟩ = some (.int .i64 ex) := F1d.out.cell 2
    have fd2 : (w1).frozen? ⟨w.heap.size, 2, none⟩ = false := F1d.out.frozen 2
    go_wp2_with fail
    refine (size_any A n c l w1 F1a.out hn).mono ?_
    rintro e w' ⟨rfl, rfl⟩
    rw [HBL.out]
    go_wp2_with fail
    go_ret
    exact ⟨ret_bool (by rw [HR.out]), HB1⟩
  have dt1 : decide (b ≤ 4096) = true := decide_eq_true t1
  by_cases t2 : -16384 ≤ ex
  case neg =>
    have HR := Lib.hid (show inR (val l) ex = false by rw [Bool.eq_false_iff]; intro hh; have hh := (inR_iff n0).1 hh; omega)
    clear hz hb
    have dd : decide (-16384 ≤ ex) = false := decide_eq_false t2
    clear t2 t0 n0
    go_enter Tryz.func85, Tryz.ntmps85
    go_wp2_with fail
    obtain ⟨w1, hw⟩ : ∃ x, x = (w.alloc (.cells #[.bool ng, .slice A n c, .int .i64 ex] 25)) := ⟨_, rfl⟩
    have HB1 := Lib.hid (show Below w.heap.size w w1 by rw [hw]; exact below_a1 _ _)
    have F1a := Lib.hid (H.out.belowW HB1.out)
    have F1d := Lib.hid (show Blk w1 (w.heap.size) 25 #[.bool ng, .slice A n c, .int .i64 ex] by rw [hw]; exact Blk.new _ _ _)
    rw [← hw]
    clear hw
    have pd0 : (w1).cell? ⟨w.heap.size, 0, none⟩ = some (.bool ng) := F1d.out.cell 0
    have fd0 : (w1).frozen? ⟨w.heap.size, 0, none⟩ = false := F1d.out.frozen 0
    have pd1 : (w1).cell? ⟨w.heap.size, 1, none⟩ = some (.slice A n c) := F1d.out.cell 1
    have fd1 : (w1).frozen? ⟨w.heap.size, 1, none⟩ = false := F1d.out.frozen 1
    have pd2 : (w1).cell? ⟨w.heap.size, 2, none⟩ = some (.int .i64 ex) := F1d.out.cell 2
    have fd2 : (w1).frozen? ⟨w.heap.size, 2, none⟩ = false := F1d.out.frozen 2
    go_wp2_with fail
    refine (size_any A n c l w1 F1a.out hn).mono ?_
    rintro e w' ⟨rfl, rfl⟩
    rw [HBL.out]
    go_wp2_with fail
    go_ret
    exact ⟨ret_bool (by rw [HR.out]), HB1⟩
  have dt2 : decide (-16384 ≤ ex) = true := decide_eq_true t2
  by_cases t3 : ex ≤ 16384
  case neg =>
    have HR := Lib.hid (show inR (val l) ex = false by rw [Bool.eq_false_iff]; intro hh; have hh := (inR_iff n0).1 hh; omega)
    clear hz hb
    have dd : decide (ex ≤ 16384) = false := decide_eq_false t3
    clear t3 t0 n0
    go_enter Tryz.func85, Tryz.ntmps85
    go_wp2_with fail
    obtain ⟨w1, hw⟩ : ∃ x, x = (w.alloc (.cells #[.bool ng, .slice A n c, .int .i64 ex] 25)) := ⟨_, rfl⟩
    have HB1 := Lib.hid (show Below w.heap.size w w1 by rw [hw]; exact below_a1 _ _)
    have F1a := Lib.hid (H.out.belowW HB1.out)
    have F1d := Lib.hid (show Blk w1 (w.heap.size) 25 #[.bool ng, .slice A n c, .int .i64 ex] by rw [hw]; exact Blk.new _ _ _)
    rw [← hw]
    clear hw
    have pd0 : (w1).cell? ⟨w.heap.size, 0, none⟩ = some (.bool ng) := F1d.out.cell 0
    have fd0 : (w1).frozen? ⟨w.heap.size, 0, none⟩ = false := F1d.out.frozen 0
    have pd1 : (w1).cell? ⟨w.heap.size, 1, none⟩ = some (.slice A n c) := F1d.out.cell 1
    have fd1 : (w1).frozen? ⟨w.heap.size, 1, none⟩ = false := F1d.out.frozen 1
    have pd2 : (w1).cell? ⟨w.heap.size, 2, none⟩ = some (.int .i64 ex) := F1d.out.cell 2
    have fd2 : (w1).frozen? ⟨w.heap.size, 2, none⟩ = false := F1d.out.frozen 2
    go_wp2_with fail
    refine (size_any A n c l w1 F1a.out hn).mono ?_
    rintro e w' ⟨rfl, rfl⟩
    rw [HBL.out]
    go_wp2_with fail
    go_ret
    exact ⟨ret_bool (by rw [HR.out]), HB1⟩
  have dt3 : decide (ex ≤ 16384) = true := decide_eq_true t3
  by_cases t4 : b + ex ≤ 16384
  case neg =>
    have HR := Lib.hid (show inR (val l) ex = false by rw [Bool.eq_false_iff]; intro hh; have hh := (inR_iff n0).1 hh; omega)
    clear hz hb
    have dd : decide (b + ex ≤ 16384) = false := decide_eq_false t4
    clear t4 t0 n0
    go_enter Tryz.func85, Tryz.ntmps85
    go_wp2_with fail
    obtain ⟨w1, hw⟩ : ∃ x, x = (w.alloc (.cells #[.bool ng, .slice A n c, .int .i64 ex] 25)) := ⟨_, rfl⟩
    have HB1 := Lib.hid (show Below w.heap.size w w1 by rw [hw]; exact below_a1 _ _)
    have F1a := Lib.hid (H.out.belowW HB1.out)
    have F1d := Lib.hid (show Blk w1 (w.heap.size) 25 #[.bool ng, .slice A n c, .int .i64 ex] by rw [hw]; exact Blk.new _ _ _)
    rw [← hw]
    clear hw
    have pd0 : (w1).cell? ⟨w.heap.size, 0, none⟩ = some (.bool ng) := F1d.out.cell 0
    have fd0 : (w1).frozen? ⟨w.heap.size, 0, none⟩ = false := F1d.out.frozen 0
    have pd1 : (w1).cell? ⟨w.heap.size, 1, none⟩ = some (.slice A n c) := F1d.out.cell 1
    have fd1 : (w1).frozen? ⟨w.heap.size, 1, none⟩ = false := F1d.out.frozen 1
    have pd2 : (w1).cell? ⟨w.heap.size, 2, none⟩ = some (.int .i64 ex) := F1d.out.cell 2
    have fd2 : (w1).frozen? ⟨w.heap.size, 2, none⟩ = false := F1d.out.frozen 2
    go_wp2_with fail
    refine (size_any A n c l w1 F1a.out hn).mono ?_
    rintro e w' ⟨rfl, rfl⟩
    rw [HBL.out]
    go_wp2_with fail
    go_ret
    exact ⟨ret_bool (by rw [HR.out]), HB1⟩
  have dt4 : decide (b + ex ≤ 16384) = true := decide_eq_true t4
  have HR := Lib.hid (show inR (val l) ex = true by exact (inR_iff n0).2 ⟨by omega, by omega, by omega, by omega⟩)
  clear hz hb
  clear t0 n0
  go_enter Tryz.func85, Tryz.ntmps85
  go_wp2_with fail
  obtain ⟨w1, hw⟩ : ∃ x, x = (w.alloc (.cells #[.bool ng, .slice A n c, .int .i64 ex] 25)) := ⟨_, rfl⟩
  have HB1 := Lib.hid (show Below w.heap.size w w1 by rw [hw]; exact below_a1 _ _)
  have F1a := Lib.hid (H.out.belowW HB1.out)
  have F1d := Lib.hid (show Blk w1 (w.heap.size) 25 #[.bool ng, .slice A n c, .int .i64 ex] by rw [hw]; exact Blk.new _ _ _)
  rw [← hw]
  clear hw
  have pd0 : (w1).cell? ⟨w.heap.size, 0, none⟩ = some (.bool ng) := F1d.out.cell 0
  have fd0 : (w1).frozen? ⟨w.heap.size, 0, none⟩ = false := F1d.out.frozen 0
  have pd1 : (w1).cell? ⟨w.heap.size, 1, none⟩ = some (.slice A n c) := F1d.out.cell 1
  have fd1 : (w1).frozen? ⟨w.heap.size, 1, none⟩ = false := F1d.out.frozen 1
  have pd2 : (w1).cell? ⟨w.heap.size, 2, none⟩ = some (.int .i64 ex) := F1d.out.cell 2
  have fd2 : (w1).frozen? ⟨w.heap.size, 2, none⟩ = false := F1d.out.frozen 2
  go_wp2_with fail
  refine (size_any A n c l w1 F1a.out hn).mono ?_
  rintro e w' ⟨rfl, rfl⟩
  rw [HBL.out]
  go_wp2_with fail
  go_ret
  exact ⟨ret_bool (by rw [HR.out]), HB1⟩

set_option maxHeartbeats 1000000 in
theorem checked_any (d : D) (A : Option Addr) (n c : Nat) (w : World) (h : Sl w A n c (limbs d.k)) (hn : n ≤ 256) :
    Calls Tryz.prog 105 #[.agg #[.bool d.neg, .slice A n c, .int .i64 d.e]] w (DyE (chk d) w) := by
  have H := Lib.hid h
  clear h
  by_cases hr : inR d.k d.e = true
  · have HR := Lib.hid (show inR (val (limbs d.k)) d.e = true by rw [val_limbs]; simpa using hr)
    have HC := Lib.hid (show chk d = (d, 0) by unfold chk; rw [if_pos hr])
    clear hr
    go_enter Tryz.func105, Tryz.ntmps105
    go_wp2_with fail
    obtain ⟨w1, hw⟩ : ∃ x, x = ((w.alloc (.cells #[.bool d.neg, .slice A n c, .int .i64 d.e] 25)).alloc (.cells #[.bool false, .slice none 0 0, .int .i64 0] 25)) := ⟨_, rfl⟩
    have HB1 := Lib.hid (show Below w.heap.size w w1 by rw [hw]; exact below_a2 _ _ _)
    have F1a := Lib.hid (H.out.belowW HB1.out)
    have F1d := Lib.hid (show Blk w1 (w.heap.size) 25 #[.bool d.neg, .slice A n c, .int .i64 d.e] by rw [hw]; exact (Blk.new _ _ _).alloc _)
    have F1r := Lib.hid (show Blk w1 (w.heap.size + 1) 25 #[.bool false, .slice none 0 0, .int .i64 0] by rw [hw]; exact Blk.new1 _ _ _ _)
    rw [← hw]
    clear hw
    have pd0 : (w1).cell? ⟨w.heap.size, 0, none⟩ = some (.bool d.neg) := F1d.out.cell 0
    have fd0 : (w1).frozen? ⟨w.heap.size, 0, none⟩ = false := F1d.out.frozen 0
    have pd1 : (w1).cell? ⟨w.heap.size, 1, none⟩ = some (.slice A n c) := F1d.out.cell 1
    have fd1 : (w1).frozen? ⟨w.heap.size, 1, none⟩ = false := F1d.out.frozen 1
    have pd2 : (w1).cell? ⟨w.heap.size, 2, none⟩ = some (.int .i64 d.e) := F1d.out.cell 2
    have fd2 : (w1).frozen? ⟨w.heap.size, 2, none⟩ = false := F1d.out.frozen 2
    go_wp2_with fail
    refine (inRange_any d.neg A n c d.e (limbs d.k) w1 F1a.out (by omega)).mono ?_
    rintro e w2 ⟨rfl, HB2⟩
    have F2a := Lib.hid (F1a.out.belowW HB2.out)
    have F2d := Lib.hid (F1d.out.belowW HB2.out)
    have F2r := Lib.hid (F1r.out.belowW HB2.out)
    have HL2 := Lib.hid (HB1.out.trans (HB2.out.mono HB1.out.size))
    rw [HR.out]
    clear pd0 pd1 pd2 fd0 fd1 fd2
    have pd0 : (w2).cell? ⟨w.heap.size, 0, none⟩ = some (.bool d.neg) := F2d.out.cell 0
    have fd0 : (w2).frozen? ⟨w.heap.size, 0, none⟩ = false := F2d.out.frozen 0
    have pd1 : (w2).cell? ⟨w.heap.size, 1, none⟩ = some (.slice A n c) := F2d.out.cell 1
    have fd1 : (w2).frozen? ⟨w.heap.size, 1, none⟩ = false := F2d.out.frozen 1
    have pd2 : (w2).cell? ⟨w.heap.size, 2, none⟩ = some (.int .i64 d.e) := F2d.out.cell 2
    have fd2 : (w2).frozen? ⟨w.heap.size, 2, none⟩ = false := F2d.out.frozen 2
    have pr0 : (w2).cell? ⟨w.heap.size + 1, 0, none⟩ = some (.bool false) := F2r.out.cell 0
    have fr0 : (w2).frozen? ⟨w.heap.size + 1, 0, none⟩ = false := F2r.out.frozen 0
    have pr1 : (w2).cell? ⟨w.heap.size + 1, 1, none⟩ = some (.slice none 0 0) := F2r.out.cell 1
    have fr1 : (w2).frozen? ⟨w.heap.size + 1, 1, none⟩ = false := F2r.out.frozen 1
    have pr2 : (w2).cell? ⟨w.heap.size + 1, 2, none⟩ = some (.int .i64 0) := F2r.out.cell 2
    have fr2 : (w2).frozen? ⟨w.heap.size + 1, 2, none⟩ = false := F2r.out.frozen 2
    go_wp2_with fail
    refine bodyPost_ret (v := .tuple #[.agg #[.bool d.neg, .slice A n c, .int .i64 d.e], .int .i64 0]) (by simp [results, Tryz.results105, go_sem, pr0, pr1, pr2]) rfl ?_
    rw [HC.out]
    exact ⟨A, n, c, rfl, Lib.hid (store3_sl F2a.out F2r.out noU3 _ _ _), Lib.hid (store3_below HL2.out F2r.out _ _ _ (by omega))⟩
  · have HR := Lib.hid (show inR (val (limbs d.k)) d.e = false by rw [val_limbs]; simpa using hr)
    have HC := Lib.hid (show chk d = (⟨false, 0, 0⟩, 9) by unfold chk; rw [if_neg hr])
    clear hr
    go_enter Tryz.func105, Tryz.ntmps105
    go_wp2_with fail
    obtain ⟨w1, hw⟩ : ∃ x, x = ((w.alloc (.cells #[.bool d.neg, .slice A n c, .int .i64 d.e] 25)).alloc (.cells #[.bool false, .slice none 0 0, .int .i64 0] 25)) := ⟨_, rfl⟩
    have HB1 := Lib.hid (show Below w.heap.size w w1 by rw [hw]; exact below_a2 _ _ _)
    have F1a := Lib.hid (H.out.belowW HB1.out)
    have F1d := Lib.hid (show Blk w1 (w.heap.size) 25 #[.bool d.neg, .slice A n c, .int .i64 d.e] by rw [hw]; exact (Blk.new _ _ _).alloc _)
    have F1r := Lib.hid (show Blk w1 (w.heap.size + 1) 25 #[.bool false, .slice none 0 0, .int .i64 0] by rw [hw]; exact Blk.new1 _ _ _ _)
    rw [← hw]
    clear hw
    have pd0 : (w1).cell? ⟨w.heap.size, 0, none⟩ = some (.bool d.neg) := F1d.out.cell 0
    have fd0 : (w1).frozen? ⟨w.heap.size, 0, none⟩ = false := F1d.out.frozen 0
    have pd1 : (w1).cell? ⟨w.heap.size, 1, none⟩ = some (.slice A n c) := F1d.out.cell 1
    have fd1 : (w1).frozen? ⟨w.heap.size, 1, none⟩ = false := F1d.out.frozen 1
    have pd2 : (w1).cell? ⟨w.heap.size, 2, none⟩ = some (.int .i64 d.e) := F1d.out.cell 2
    have fd2 : (w1).frozen? ⟨w.heap.size, 2, none⟩ = false := F1d.out.frozen 2
    go_wp2_with fail
    refine (inRange_any d.neg A n c d.e (limbs d.k) w1 F1a.out (by omega)).mono ?_
    rintro e w2 ⟨rfl, HB2⟩
    have F2a := Lib.hid (F1a.out.belowW HB2.out)
    have F2d := Lib.hid (F1d.out.belowW HB2.out)
    have F2r := Lib.hid (F1r.out.belowW HB2.out)
    have HL2 := Lib.hid (HB1.out.trans (HB2.out.mono HB1.out.size))
    rw [HR.out]
    clear pd0 pd1 pd2 fd0 fd1 fd2
    have pd0 : (w2).cell? ⟨w.heap.size, 0, none⟩ = some (.bool d.neg) := F2d.out.cell 0
    have fd0 : (w2).frozen? ⟨w.heap.size, 0, none⟩ = false := F2d.out.frozen 0
    have pd1 : (w2).cell? ⟨w.heap.size, 1, none⟩ = some (.slice A n c) := F2d.out.cell 1
    have fd1 : (w2).frozen? ⟨w.heap.size, 1, none⟩ = false := F2d.out.frozen 1
    have pd2 : (w2).cell? ⟨w.heap.size, 2, none⟩ = some (.int .i64 d.e) := F2d.out.cell 2
    have fd2 : (w2).frozen? ⟨w.heap.size, 2, none⟩ = false := F2d.out.frozen 2
    have pr0 : (w2).cell? ⟨w.heap.size + 1, 0, none⟩ = some (.bool false) := F2r.out.cell 0
    have fr0 : (w2).frozen? ⟨w.heap.size + 1, 0, none⟩ = false := F2r.out.frozen 0
    have pr1 : (w2).cell? ⟨w.heap.size + 1, 1, none⟩ = some (.slice none 0 0) := F2r.out.cell 1
    have fr1 : (w2).frozen? ⟨w.heap.size + 1, 1, none⟩ = false := F2r.out.frozen 1
    have pr2 : (w2).cell? ⟨w.heap.size + 1, 2, none⟩ = some (.int .i64 0) := F2r.out.cell 2
    have fr2 : (w2).frozen? ⟨w.heap.size + 1, 2, none⟩ = false := F2r.out.frozen 2
    go_wp2_with fail
    refine bodyPost_ret (v := .tuple #[.agg #[.bool false, .slice none 0 0, .int .i64 0], .int .i64 9]) (by simp [results, Tryz.results105, go_sem, pr0, pr1, pr2]) rfl ?_
    rw [HC.out]
    exact ⟨none, 0, 0, rfl, Lib.hid (by rw [limbs_zero]; exact Sl.none_ _), Lib.hid (store3_below HL2.out F2r.out _ _ _ (by omega))⟩
end Go.Proofs.YtffdkakogeofmaaGreatDoor
