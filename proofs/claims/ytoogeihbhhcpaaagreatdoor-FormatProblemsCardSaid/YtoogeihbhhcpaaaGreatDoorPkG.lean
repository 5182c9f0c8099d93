/-
  The walks of math/bits.TrailingZeros32, dyadic.trimmed, low, size.
  The walks of dyadic.canonical, checked, Make, Int.
  The walks of dyadic.Make, Valid, Int, Bits, Top, Sign, shifted.
  The walks of dyadic.Int, Bits, Top, Sign, shifted, Neg.
-/
import Derived.Test.YtoogeihbhhcpaaaGreatDoorPkE
import Derived.Test.YtoogeihbhhcpaaaGreatDoorPkA
import Derived.Shelf.Spec.TrailingZeros
import Derived.Lib.LaidTab
import Derived.Lib.ItoaMem
import Derived.Outline
import Derived.Deep.RegionHeld3
import Derived.StillTailTactics
set_option linter.unusedVariables false
namespace Go.Fl.Dy
end Go.Fl.Dy
namespace Go.Proofs.YtoogeihbhhcpaaaGreatDoor
open Go.RowKit Go.Fl Go.Fl.Nm Go.Fl.Dy

def ints (l : List Nat) : List Int := l.map fun x : Nat => (x : Int)
/-- The tables of the library that are read. -/
structure RB (w : World) : Prop where
  p10 : Lib.TabIs Tryz.prog w "internal/strconv.uint64pow10" .u64 Lib.pow10Tab
  t32 : Lib.TabIs Tryz.prog w "math/bits.deBruijn32tab" .u8 (ints Lib.deBruijn32tab)
  t64 : Lib.TabIs Tryz.prog w "math/bits.deBruijn64tab" .u8 (ints Lib.deBruijn64tab)
theorem tab_below {name : String} {g : Nat} {k : IntKind} {zs : List Int} {w w' : World} (hg : Tryz.prog.globalNamed name = some g) (h : Lib.TabIs Tryz.prog w name k zs) (hb : Below w.heap.size w w') : Lib.TabIs Tryz.prog w' name k zs := by
  unfold Lib.TabIs World.var? at h ⊢
  rw [hg] at h ⊢
  simp only [Option.bind_some] at h ⊢
  have hlt : g < w.heap.size := by
    rcases Nat.lt_or_ge g w.heap.size with h' | h'
    · exact h'
    · rw [Array.getElem?_eq_none h'] at h; cases h
  rw [hb.block g hlt]
  exact h
theorem g10 : Tryz.prog.globalNamed "internal/strconv.uint64pow10" = some 1 := by kernel_rfl
theorem g32 : Tryz.prog.globalNamed "math/bits.deBruijn32tab" = some 3 := by kernel_rfl
theorem g64 : Tryz.prog.globalNamed "math/bits.deBruijn64tab" = some 4 := by kernel_rfl
theorem RB.below {w w' : World} (h : RB w) (hb : Below w.heap.size w w') : RB w' := ⟨tab_below g10 h.p10 hb, tab_below g32 h.t32 hb, tab_below g64 h.t64 hb⟩
theorem RB.alloc {w : World} (h : RB w) (o : Obj) : RB (w.alloc o) := h.below ((Below.refl _ _).alloc (Nat.le_refl _) _)
theorem RB.drewN {w : World} (h : RB w) (n : Nat) : RB (w.drewN n) := h.below (below_drewN (Below.refl _ _) n)
set_option maxHeartbeats 400000 in
theorem size_any (A : Option Addr) (n c : Nat) (l : List Nat) (w : World) (h : Sl w A n c l) (hn : n ≤ 100000) :
    Calls Tryz.prog 136 #[.slice A n c] w fun e w' => e = .returned (.int .i64 (blen (val l))) ∧ w = w' := by
  go_enter Tryz.func136, Tryz.ntmps136
  go_wp2_with fail
  refine (bits_any A n c l w h hn).mono ?_
  rintro e w' ⟨rfl, rfl⟩
  go_wp2
  go_ret
  exact ⟨rfl, rfl⟩
end Go.Proofs.YtoogeihbhhcpaaaGreatDoor
namespace Go.Fl
open Go.RowKit
theorem Blk.belowW {w w' : World} {g : Nat} {t : TypeId} {cs : Array Value} (h : Blk w g t cs) (hb : Below w.heap.size w w') : Blk w' g t cs := h.below hb h.lt
theorem Blk.new1 (w : World) (o : Obj) (t : TypeId) (cs : Array Value) : Blk ((w.alloc o).alloc (.cells cs t)) (w.heap.size + 1) t cs := by
  have := Blk.new (w.alloc o) t cs
  simpa using this
theorem Blk.new2 (w : World) (o o' : Obj) (t : TypeId) (cs : Array Value) : Blk (((w.alloc o).alloc o').alloc (.cells cs t)) (w.heap.size + 2) t cs := by
  have := Blk.new ((w.alloc o).alloc o') t cs
  simpa using this
theorem below_a1 (w : World) (o : Obj) : Below w.heap.size w (w.alloc o) := (Below.refl _ _).alloc (Nat.le_refl _) _
theorem below_a2 (w : World) (o o' : Obj) : Below w.heap.size w ((w.alloc o).alloc o') := (below_a1 w o).alloc (by simp) _
theorem below_a3 (w : World) (o o' o'' : Obj) : Below w.heap.size w (((w.alloc o).alloc o').alloc o'') := (below_a2 w o o').alloc (by simp; omega) _
/-- No cell is a limb. -/
def NoU (cs : Array Value) : Prop := ∀ (i : Nat) (x : Int), cs[i]? ≠ some (.int .u32 x)
theorem noU3 {a : Bool} {A : Option Addr} {n c : Nat} {e : Int} : NoU #[.bool a, .slice A n c, .int .i64 e] := by
  intro i x h
  match i with
  | 0 => simp at h
  | 1 => simp at h
  | 2 => simp at h
  | i + 3 => simp at h
theorem store3_put {w : World} {g : Nat} {t : TypeId} {x y z : Value} (hB : Blk w g t #[x, y, z]) (a b c : Value) : ((w.setCell ⟨g, 0, none⟩ a).setCell ⟨g, 1, none⟩ b).setCell ⟨g, 2, none⟩ c = putB w g t #[a, b, c] := by
  rw [hB.setCell_eq 0 a]
  have h1 := hB.put ((#[x, y, z] : Array Value).setIfInBounds 0 a)
  rw [h1.setCell_eq 1 b, putB_putB]
  have h2 := hB.put (((#[x, y, z] : Array Value).setIfInBounds 0 a).setIfInBounds 1 b)
  rw [h2.setCell_eq 2 c, putB_putB]
  rfl
theorem store3_below {B : Nat} {w0 w : World} {g : Nat} {t : TypeId} {x y z : Value} (h : Below B w0 w) (hB : Blk w g t #[x, y, z]) (a b c : Value) (hg : B ≤ g) : Below B w0 (((w.setCell ⟨g, 0, none⟩ a).setCell ⟨g, 1, none⟩ b).setCell ⟨g, 2, none⟩ c) := by
  rw [store3_put hB]
  exact h.trans (putB_below w g t _ hg)
end Go.Fl
namespace Go.Fl.Nm
open Go.RowKit Go.Fl
theorem Sl.belowW {w w' : World} {A : Option Addr} {n c : Nat} {l : List Nat} (h : Sl w A n c l) (hb : Below w.heap.size w w') : Sl w' A n c l := h.below hb
theorem Sl.lim {w : World} {A : Option Addr} {n c v k : Nat} (h : Sl w A n c (limbs v)) (hv : blen v ≤ 32 * k) : n ≤ k := by rw [← h.len]; exact Go.Fl.Dy.limbs_bits hv
/-- Limbs do not lie in a block that has none. -/
theorem Sl.far {w w' : World} {A : Option Addr} {n c g : Nat} {l : List Nat} {t : TypeId} {cs : Array Value} (h : Sl w A n c l) (hB : Blk w g t cs) (hN : NoU cs) (hg : w.grownBy w' (some g)) : Sl w' A n c l := by
  rcases Nat.eq_zero_or_pos n with h0 | h0
  · exact ⟨h.1, h.2.1, h.2.2.1, h.2.2.2.1, h.2.2.2.2.1, h.rd.1, fun hp => absurd hp (by omega)⟩
  · refine h.grown hg ?_
    rintro b off hA rfl
    obtain ⟨b', off', x, hA', _, _, _, hx⟩ := h.at_ h0
    rw [hA] at hA'
    injection hA' with hA'
    injection hA' with e1 e2
    subst e1 e2
    rw [hB.cell] at hx
    exact hN _ _ hx
theorem store3_sl {w : World} {A : Option Addr} {n m g : Nat} {l : List Nat} {t : TypeId} {x y z : Value} (h : Sl w A n m l) (hB : Blk w g t #[x, y, z]) (hN : NoU #[x, y, z]) (a b c : Value) : Sl (((w.setCell ⟨g, 0, none⟩ a).setCell ⟨g, 1, none⟩ b).setCell ⟨g, 2, none⟩ c) A n m l := by
  rw [store3_put hB]
  exact h.far hB hN (putB_grown w g t _)
end Go.Fl.Nm
namespace Go.Proofs.YtoogeihbhhcpaaaGreatDoor
open Go.RowKit Go.Fl Go.Fl.Nm Go.Fl.Dy

theorem RB.belowW {w w' : World} (h : RB w) (hb : Below w.heap.size w w') : RB w' := h.below hb
/-- Limbs of a number, and no error. -/
def SlR (v : Nat) (w : World) (e : Ending) (w' : World) : Prop :=
  ∃ (A : Option Addr) (n : Nat), e = .returned (.tuple #[.slice A n n, .int .i64 0]) ∧ Hid (Sl w' A n n (limbs v)) ∧ Hid (Below w.heap.size w w')
theorem SlR.of {base v : Nat} {w : World} {e : Ending} {w' : World} (h : Res base v w e w') (hv : blen v ≤ 8192) : SlR v w e w' := by
  obtain ⟨A, n, l, er, rfl, HN, HR, HB⟩ := h
  have hl : (limbs v).length ≤ 256 := limbs_bits (by omega)
  rcases HR.out with ⟨rfl, rfl, _⟩ | ⟨_, _, h⟩
  · exact ⟨A, n, rfl, Lib.hid HN.out.sl, HB⟩
  · omega
section
variable (A B : Option Addr) (n c m d : Nat) (a b : List Nat) (w : World) (ha : Sl w A n c a) (hb : Sl w B m d b) (hn : n ≤ 256) (hm : m ≤ 256)
include ha hb hn hm in
theorem nAdd_sl (hv : blen (val a + val b) ≤ 8192) : Calls Tryz.prog 104 #[.slice A n c, .slice B m d] w (SlR (val a + val b) w) := (nAdd_ok A B n c m d a b w ha hb hn hm).mono fun _ _ h => SlR.of h hv
include ha hb hn hm in
theorem nMul_sl (hv : blen (val a * val b) ≤ 8192) : Calls Tryz.prog 98 #[.slice A n c, .slice B m d] w (SlR (val a * val b) w) := (nMul_ok A B n c m d a b w ha hb hn hm).mono fun _ _ h => SlR.of h hv
include ha hn in
theorem nShl_sl (k : Int) (hk : 0 ≤ k) (hk1 : k ≤ 65536) (hv : blen (2 ^ k.toNat * val a) ≤ 8192) : Calls Tryz.prog 100 #[.slice A n c, .int .i64 k] w (SlR (2 ^ k.toNat * val a) w) := by
  rw [Nat.mul_comm] at hv ⊢
  exact (nShl_ok A n c k a w ha hn hk hk1).mono fun _ _ h => SlR.of h hv
include ha hn in
theorem nShr_sl (k : Int) (hk : 0 ≤ k) (hk1 : k ≤ 65536) (hv : blen (val a / 2 ^ k.toNat) ≤ 8192) : Calls Tryz.prog 102 #[.slice A n c, .int .i64 k] w (SlR (val a / 2 ^ k.toNat) w) := (nShr_ok A n c k a w ha hn hk hk1).mono fun _ _ h => SlR.of h hv
end

/-- A dyadic number. -/
def DyR (d : D) (w : World) (e : Ending) (w' : World) : Prop :=
  ∃ (A : Option Addr) (n c : Nat), e = .returned (.agg #[.bool d.neg, .slice A n c, .int .i64 d.e]) ∧ Hid (Sl w' A n c (limbs d.k)) ∧ Hid (Below w.heap.size w w')
/-- A value. -/
def Ret (v : Value) (w : World) (e : Ending) (w' : World) : Prop := e = .returned v ∧ Hid (Below w.heap.size w w')

set_option maxHeartbeats 1000000 in
theorem inRange_any (ng : Bool) (A : Option Addr) (n c : Nat) (ex : Int) (l : List Nat) (w : World) (h : Sl w A n c l) (hn : n ≤ 100000) :
    Calls Tryz.prog 93 #[.agg #[.bool ng, .slice A n c, .int .i64 ex]] w (Ret (.bool (inR (val l) ex)) w) := by
  have H := Lib.hid h
  clear h
  obtain ⟨b, hb⟩ : ∃ b : Int, b = (blen (val l) : Nat) := ⟨_, rfl⟩
  have HBL := Lib.hid hb.symm
  have hb0 : 0 ≤ b := by omega
  have hb1 : b ≤ 3200000 := by
    have := val_lt H.out.ok
    rw [H.out.len, BB_pow, ← Nat.pow_mul] at this
    have := blen_le this
    omega
  have hz : b = 0 ↔ val l = 0 := by rw [hb, ← blen_zero_iff]; omega
  by_cases t0 : b = 0
  · have HR := Lib.hid (show inR (val l) ex = true by simp [inR, hz.1 t0])
    clear hz hb
    have d0 : (b == 0) = true := by simp [t0]
    clear t0
    go_enter Tryz.func93, Tryz.ntmps93
    go_wp2_with fail
    obtain ⟨w1, hw⟩ : ∃ x, x = (w.alloc (.cells #[.bool ng, .slice A n c, .int .i64 ex] 40)) := ⟨_, rfl⟩
    have HB1 := Lib.hid (show Below w.heap.size w w1 by rw [hw]; exact below_a1 _ _)
    have F1a := Lib.hid (H.out.belowW HB1.out)
    have F1d := Lib.hid (show Blk w1 (w.heap.size) 40 #[.bool ng, .slice A n c, .int .i64 ex] by rw [hw]; exact Blk.new _ _ _)
    rw [← hw]
    clear hw
    have pd0 : (w1).cell? ⟨w.heap.size, 0, none⟩ = some (.bool ng) := F1d.out.cell 0
    have fd0 : (w1).frozen? ⟨w.heap.size, 0, none⟩ = false := F1d.out.frozen 0
    have pd1 : (w1).cell? ⟨w.heap.size, 1, none⟩ = some (.slice A n c) := F1d.out.cell 1
    have fd1 : (w1).frozen? ⟨w.heap.size, 1, none⟩ = false := F1d.out.frozen 1
    have pd2 : (w1).cell? ⟨w.heap.size, 2, none⟩ = some (.int .i64 ex) := F1d.out.cell 2
    have fd2 : (w1).frozen? ⟨w.heap.size, 2, none⟩ = false := F1d.out.frozen 2
    go_wp2_with fail
    refine (size_any A n c l w1 F1a.out hn).mono ?_
    rintro e w' ⟨rfl, rfl⟩
    rw [HBL.out]
    go_wp2_with fail
    go_ret
    exact ⟨ret_bool (by rw [HR.out]), HB1⟩
  have n0 : val l ≠ 0 := fun h => t0 (hz.2 h)
  have d0 : (b == 0) = false := by rw [beq_eq_false_iff_ne]; exact t0
  by_cases t1 : b ≤ 4096
  case neg =>
    have HR := Lib.hid (show inR (val l) ex = false by rw [Bool.eq_false_iff]; intro hh; have hh := (inR_iff n0).1 hh; omega)
    clear hz hb
    have dd : decide (b ≤ 4096) = false := decide_eq_false t1
    clear t1 t0 n0
    go_enter Tryz.func93, Tryz.ntmps93
    go_wp2_with fail
    obtain ⟨w1, hw⟩ : ∃ x, x = (w.alloc (.cells #[.bool ng, .slice A n c, .int .i64 ex] 40)) := ⟨_, rfl⟩
    have HB1 := Lib.hid (show Below w.heap.size w w1 by rw [hw]; exact below_a1 _ _)
    have F1a := Lib.hid (H.out.belowW HB1.out)
    have F1d := Lib.hid (show Blk w1 (w.heap.size) 40 #[.bool ng, .slice A n c, .int .i64 ex] by rw [hw]; exact Blk.new _ _ _)
    rw [← hw]
    clear hw
    have pd0 : (w1).cell? ⟨w.heap.size, 0, none⟩ = some (.bool ng) := F1d.out.cell 0
    have fd0 : (w1).frozen? ⟨w.heap.size, 0, none⟩ = false := F1d.out.frozen 0
    have pd1 : (w1).cell? ⟨w.heap.size, 1, none⟩ = some (.slice A n c) := F1d.out.cell 1
    have fd1 : (w1).frozen? ⟨w.heap.size, 1, none⟩ = false := F1d.out.frozen 1
    have pd2 : (w1).cell? ⟨w.heap.size, 2, none⟩ = some (.int .i64 ex) := F1d.out.cell 2
    have fd2 : (w1).frozen? ⟨w.heap.size, 2, none⟩ = false := F1d.out.frozen 2
    go_wp2_with fail
    refine (size_any A n c l w1 F1a.out hn).mono ?_
    rintro e w' ⟨rfl, rfl⟩
    rw [HBL.out]
    go_wp2_with fail
    go_ret
    exact ⟨ret_bool (by rw [HR.out]), HB1⟩
  have dt1 : decide (b ≤ 4096) = true := decide_eq_true t1
  by_cases t2 : -16384 ≤ ex
  case neg =>
    have HR := Lib.hid (show inR (val l) ex = false by rw [Bool.eq_false_iff]; intro hh; have hh := (inR_iff n0).1 hh; omega)
    clear hz hb
    have dd : decide (-16384 ≤ ex) = false := decide_eq_false t2
    clear t2 t0 n0
    go_enter Tryz.func93, Tryz.ntmps93
    go_wp2_with fail
    obtain ⟨w1, hw⟩ : ∃ x, x = (w.alloc (.cells #[.bool ng, .slice A n c, .int .i64 ex] 40)) := ⟨_, rfl⟩
    have HB1 := Lib.hid (show Below w.heap.size w w1 by rw [hw]; exact below_a1 _ _)
    have F1a := Lib.hid (H.out.belowW HB1.out)
    have F1d := Lib.hid (show Blk w1 (w.heap.size) 40 #[.bool ng, .slice A n c, .int .i64 ex] by rw [hw]; exact Blk.new _ _ _)
    rw [← hw]
    clear hw
    have pd0 : (w1).cell? ⟨w.heap.size, 0, none⟩ = some (.bool ng) := F1d.out.cell 0
    have fd0 : (w1).frozen? ⟨w.heap.size, 0, none⟩ = false := F1d.out.frozen 0
    have pd1 : (w1).cell? ⟨w.heap.size, 1, none⟩ = some (.slice A n c) := F1d.out.cell 1
    have fd1 : (w1).frozen? ⟨w.heap.size, 1, none⟩ = false := F1d.out.frozen 1
    have pd2 : (w1).cell? ⟨w.heap.size, 2, none⟩ = some (.int .i64 ex) := F1d.out.cell 2
    have fd2 : (w1).frozen? ⟨w.heap.size, 2, none⟩ = false := F1d.out.frozen 2
    go_wp2_with fail
    refine (size_any A n c l w1 F1a.out hn).mono ?_
    rintro e w' ⟨rfl, rfl⟩
    rw [HBL.out]
    go_wp2_with fail
    go_ret
    exact ⟨ret_bool (by rw [HR.out]), HB1⟩
  have dt2 : decide (-16384 ≤ ex) = true := decide_eq_true t2
  by_cases t3 : ex ≤ 16384
  case neg =>
    have HR := Lib.hid (show inR (val l) ex = false by rw [Bool.eq_false_iff]; intro hh; have hh := (inR_iff n0).1 hh; omega)
    clear hz hb
    have dd : decide (ex ≤ 16384) = false := decide_eq_false t3
    clear t3 t0 n0
    go_enter Tryz.func93, Tryz.ntmps93
    go_wp2_with fail
    obtain ⟨w1, hw⟩ : ∃ x, x = (w.alloc (.cells #[.bool ng, .slice A n c, .int .i64 ex] 40)) := ⟨_, rfl⟩
    have HB1 := Lib.hid (show Below w.heap.size w w1 by rw [hw]; exact below_a1 _ _)
    have F1a := Lib.hid (H.out.belowW HB1.out)
    have F1d := Lib.hid (show Blk w1 (w.heap.size) 40 #[.bool ng, .slice A n c, .int .i64 ex] by rw [hw]; exact Blk.new _ _ _)
    rw [← hw]
    clear hw
    have pd0 : (w1).cell? ⟨w.heap.size, 0, none⟩ = some (.bool ng) := F1d.out.cell 0
    have fd0 : (w1).frozen? ⟨w.heap.size, 0, none⟩ = false := F1d.out.frozen 0
    have pd1 : (w1).cell? ⟨w.heap.size, 1, none⟩ = some (.slice A n c) := F1d.out.cell 1
    have fd1 : (w1).frozen? ⟨w.heap.size, 1, none⟩ = false := F1d.out.frozen 1
    have pd2 : (w1).cell? ⟨w.heap.size, 2, none⟩ = some (.int .i64 ex) := F1d.out.cell 2
    have fd2 : (w1).frozen? ⟨w.heap.size, 2, none⟩ = false := F1d.out.frozen 2
    go_wp2_with fail
    refine (size_any A n c l w1 F1a.out hn).mono ?_
    rintro e w' ⟨rfl, rfl⟩
    rw [HBL.out]
    go_wp2_with fail
    go_ret
    exact ⟨ret_bool (by rw [HR.out]), HB1⟩
  have dt3 : decide (ex ≤ 16384) = true := decide_eq_true t3
  by_cases t4 : b + ex ≤ 16384
  case neg =>
    have HR := Lib.hid (show inR (val l) ex = false by rw [Bool.eq_false_iff]; intro hh; have hh := (inR_iff n0).1 hh; omega)
    clear hz hb
    have dd : decide (b + ex ≤ 16384) = false := decide_eq_false t4
    clear t4 t0 n0
    go_enter Tryz.func93, Tryz.ntmps93
    go_wp2_with fail
    obtain ⟨w1, hw⟩ : ∃ x, x = (w.alloc (.cells #[.bool ng, .slice A n c, .int .i64 ex] 40)) := ⟨_, rfl⟩
    have HB1 := Lib.hid (show Below w.heap.size w w1 by rw [hw]; exact below_a1 _ _)
    have F1a := Lib.hid (H.out.belowW HB1.out)
    have F1d := Lib.hid (show Blk w1 (w.heap.size) 40 #[.bool ng, .slice A n c, .int .i64 ex] by rw [hw]; exact Blk.new _ _ _)
    rw [← hw]
    clear hw
    have pd0 : (w1).cell? ⟨w.heap.size, 0, none⟩ = some (.bool ng) := F1d.out.cell 0
    have fd0 : (w1).frozen? ⟨w.heap.size, 0, none⟩ = false := F1d.out.frozen 0
    have pd1 : (w1).cell? ⟨w.heap.size, 1, none⟩ = some (.slice A n c) := F1d.out.cell 1
    have fd1 : (w1).frozen? ⟨w.heap.size, 1, none⟩ = false := F1d.out.frozen 1
    have pd2 : (w1).cell? ⟨w.heap.size, 2, none⟩ = some (.int .i64 ex) := F1d.out.cell 2
    have fd2 : (w1).frozen? ⟨w.heap.size, 2, none⟩ = false := F1d.out.frozen 2
    go_wp2_with fail
    refine (size_any A n c l w1 F1a.out hn).mono ?_
    rintro e w' ⟨rfl, rfl⟩
    rw [HBL.out]
    go_wp2_with fail
    go_ret
    exact ⟨ret_bool (by rw [HR.out]), HB1⟩
  have dt4 : decide (b + ex ≤ 16384) = true := decide_eq_true t4
  have HR := Lib.hid (show inR (val l) ex = true by exact (inR_iff n0).2 ⟨by omega, by omega, by omega, by omega⟩)
  clear hz hb
  clear t0 n0
  go_enter Tryz.func93, Tryz.ntmps93
  go_wp2_with fail
  obtain ⟨w1, hw⟩ : ∃ x, x = (w.alloc (.cells #[.bool ng, .slice A n c, .int .i64 ex] 40)) := ⟨_, rfl⟩
  have HB1 := Lib.hid (show Below w.heap.size w w1 by rw [hw]; exact below_a1 _ _)
  have F1a := Lib.hid (H.out.belowW HB1.out)
  have F1d := Lib.hid (show Blk w1 (w.heap.size) 40 #[.bool ng, .slice A n c, .int .i64 ex] by rw [hw]; exact Blk.new _ _ _)
  rw [← hw]
  clear hw
  have pd0 : (w1).cell? ⟨w.heap.size, 0, none⟩ = some (.bool ng) := F1d.out.cell 0
  have fd0 : (w1).frozen? ⟨w.heap.size, 0, none⟩ = false := F1d.out.frozen 0
  have pd1 : (w1).cell? ⟨w.heap.size, 1, none⟩ = some (.slice A n c) := F1d.out.cell 1
  have fd1 : (w1).frozen? ⟨w.heap.size, 1, none⟩ = false := F1d.out.frozen 1
  have pd2 : (w1).cell? ⟨w.heap.size, 2, none⟩ = some (.int .i64 ex) := F1d.out.cell 2
  have fd2 : (w1).frozen? ⟨w.heap.size, 2, none⟩ = false := F1d.out.frozen 2
  go_wp2_with fail
  refine (size_any A n c l w1 F1a.out hn).mono ?_
  rintro e w' ⟨rfl, rfl⟩
  rw [HBL.out]
  go_wp2_with fail
  go_ret
  exact ⟨ret_bool (by rw [HR.out]), HB1⟩

end Go.Proofs.YtoogeihbhhcpaaaGreatDoor
namespace Go.Fl.Dy
open Go.Fl.Nm
theorem vld_len {d : D} (h : vld d) : (limbs d.k).length ≤ 256 := by
  rcases h with ⟨h, _⟩ | ⟨_, h, _⟩
  · rw [h, limbs_zero]; simp
  · exact limbs_bits (by omega)
theorem vld_ebd {d : D} (h : vld d) : -16384 ≤ d.e ∧ d.e ≤ 16384 := by
  rcases h with ⟨_, _, h⟩ | ⟨_, _, h1, h2, _⟩ <;> omega
theorem vld_bits {d : D} (h : vld d) : blen d.k ≤ 4096 := by
  rcases h with ⟨h, _, _⟩ | ⟨_, h1, _⟩
  · rw [h, blen_zero]; omega
  · exact h1
end Go.Fl.Dy
namespace Go.Proofs.YtoogeihbhhcpaaaGreatDoor
open Go.RowKit Go.Fl Go.Fl.Nm Go.Fl.Dy

set_option maxHeartbeats 1000000 in
theorem valid_any (ng : Bool) (A : Option Addr) (n c : Nat) (ex : Int) (l : List Nat) (w : World) (h : Sl w A n c l) :
    Calls Tryz.prog 63 #[.agg #[.bool ng, .slice A n c, .int .i64 ex]] w (Ret (.bool (vldL ng l ex)) w) := by
  have H := Lib.hid h
  have hmx := h.max
  unfold maxLen at hmx
  have HLN := Lib.hid h.len
  have HOK := Lib.hid h.ok
  clear h
  by_cases hn0 : n = 0
  · subst hn0
    have HL0 := Lib.hid (List.eq_nil_of_length_eq_zero HLN.out)
    have HR := Lib.hid (show vldL ng l ex = (!ng && decide (ex = 0)) by rw [HL0.out]; exact vldL_nil ng ex)
    cases ng with
    | true =>
      go_enter Tryz.func63, Tryz.ntmps63
      go_wp2_with fail
      obtain ⟨w1, hw⟩ : ∃ x, x = (w.alloc (.cells #[.bool true, .slice A 0 c, .int .i64 ex] 40)) := ⟨_, rfl⟩
      have HB1 := Lib.hid (show Below w.heap.size w w1 by rw [hw]; exact below_a1 _ _)
      have F1a := Lib.hid (H.out.belowW HB1.out)
      have F1d := Lib.hid (show Blk w1 (w.heap.size) 40 #[.bool true, .slice A 0 c, .int .i64 ex] by rw [hw]; exact Blk.new _ _ _)
      rw [← hw]
      clear hw
      have pd0 : (w1).cell? ⟨w.heap.size, 0, none⟩ = some (.bool true) := F1d.out.cell 0
      have fd0 : (w1).frozen? ⟨w.heap.size, 0, none⟩ = false := F1d.out.frozen 0
      have pd1 : (w1).cell? ⟨w.heap.size, 1, none⟩ = some (.slice A 0 c) := F1d.out.cell 1
      have fd1 : (w1).frozen? ⟨w.heap.size, 1, none⟩ = false := F1d.out.frozen 1
      have pd2 : (w1).cell? ⟨w.heap.size, 2, none⟩ = some (.int .i64 ex) := F1d.out.cell 2
      have fd2 : (w1).frozen? ⟨w.heap.size, 2, none⟩ = false := F1d.out.frozen 2
      go_wp2_with fail
      go_ret
      exact ⟨ret_bool (by rw [HR.out]; rfl), HB1⟩
    | false =>
      by_cases he : ex = 0
      · have de : (ex == 0) = true := by simp [he]
        have HR2 := Lib.hid (show vldL false l ex = true by rw [HR.out]; simp [he])
        clear he
        go_enter Tryz.func63, Tryz.ntmps63
        go_wp2_with fail
        obtain ⟨w1, hw⟩ : ∃ x, x = (w.alloc (.cells #[.bool false, .slice A 0 c, .int .i64 ex] 40)) := ⟨_, rfl⟩
        have HB1 := Lib.hid (show Below w.heap.size w w1 by rw [hw]; exact below_a1 _ _)
        have F1a := Lib.hid (H.out.belowW HB1.out)
        have F1d := Lib.hid (show Blk w1 (w.heap.size) 40 #[.bool false, .slice A 0 c, .int .i64 ex] by rw [hw]; exact Blk.new _ _ _)
        rw [← hw]
        clear hw
        have pd0 : (w1).cell? ⟨w.heap.size, 0, none⟩ = some (.bool false) := F1d.out.cell 0
        have fd0 : (w1).frozen? ⟨w.heap.size, 0, none⟩ = false := F1d.out.frozen 0
        have pd1 : (w1).cell? ⟨w.heap.size, 1, none⟩ = some (.slice A 0 c) := F1d.out.cell 1
        have fd1 : (w1).frozen? ⟨w.heap.size, 1, none⟩ = false := F1d.out.frozen 1
        have pd2 : (w1).cell? ⟨w.heap.size, 2, none⟩ = some (.int .i64 ex) := F1d.out.cell 2
        have fd2 : (w1).frozen? ⟨w.heap.size, 2, none⟩ = false := F1d.out.frozen 2
        go_wp2_with fail
        go_ret
        exact ⟨ret_bool (by rw [HR2.out]), HB1⟩
      · have de : (ex == 0) = false := by simp [he]
        have HR2 := Lib.hid (show vldL false l ex = false by rw [HR.out]; simp [he])
        clear he
        go_enter Tryz.func63, Tryz.ntmps63
        go_wp2_with fail
        obtain ⟨w1, hw⟩ : ∃ x, x = (w.alloc (.cells #[.bool false, .slice A 0 c, .int .i64 ex] 40)) := ⟨_, rfl⟩
        have HB1 := Lib.hid (show Below w.heap.size w w1 by rw [hw]; exact below_a1 _ _)
        have F1a := Lib.hid (H.out.belowW HB1.out)
        have F1d := Lib.hid (show Blk w1 (w.heap.size) 40 #[.bool false, .slice A 0 c, .int .i64 ex] by rw [hw]; exact Blk.new _ _ _)
        rw [← hw]
        clear hw
        have pd0 : (w1).cell? ⟨w.heap.size, 0, none⟩ = some (.bool false) := F1d.out.cell 0
        have fd0 : (w1).frozen? ⟨w.heap.size, 0, none⟩ = false := F1d.out.frozen 0
        have pd1 : (w1).cell? ⟨w.heap.size, 1, none⟩ = some (.slice A 0 c) := F1d.out.cell 1
        have fd1 : (w1).frozen? ⟨w.heap.size, 1, none⟩ = false := F1d.out.frozen 1
        have pd2 : (w1).cell? ⟨w.heap.size, 2, none⟩ = some (.int .i64 ex) := F1d.out.cell 2
        have fd2 : (w1).frozen? ⟨w.heap.size, 2, none⟩ = false := F1d.out.frozen 2
        go_wp2_with fail
        go_ret
        exact ⟨ret_bool (by rw [HR2.out]), HB1⟩
  · have dn0 : ((n : Int) == 0) = false := by rw [beq_eq_false_iff_ne]; omega
    obtain ⟨b, off, x, hA, hb, hx, hxB, hx0⟩ := H.out.at_ (i := 0) (by omega)
    obtain ⟨b', off', y, hA', hb', hy, hyB, hy0⟩ := H.out.at_ (i := n - 1) (by omega)
    rw [hA] at hA'
    injection hA' with hA'
    injection hA' with e1 e2
    subst e1 e2 hA
    have HV := Lib.hid (vldL_pos (neg := ng) (e := ex) HOK.out hx (by rw [HLN.out]; exact hy))
    rw [HLN.out] at HV
    clear hx hy hb'
    unfold BB at hxB hyB
    rw [Nat.add_zero] at hx0
    have b0 : (0 : Int) ≤ (n : Int) - 1 := by omega
    have b1 : (n : Int) - 1 < n := by omega
    have b2 : ((n : Int) - 1).toNat = n - 1 := by omega
    by_cases t1 : n ≤ 256
    case neg =>
      have d1 : decide ((n : Int) ≤ 256) = false := decide_eq_false (by omega)
      have d1' : decide (n ≤ 256) = false := decide_eq_false t1
      have HR := Lib.hid (show vldL ng l ex = false by rw [HV.out, d1']; rfl)
      go_enter Tryz.func63, Tryz.ntmps63
      go_wp2_with fail
      obtain ⟨w1, hw⟩ : ∃ x, x = (w.alloc (.cells #[.bool ng, .slice (some ⟨b, off, none⟩) n c, .int .i64 ex] 40)) := ⟨_, rfl⟩
      have HB1 := Lib.hid (show Below w.heap.size w w1 by rw [hw]; exact below_a1 _ _)
      have F1a := Lib.hid (H.out.belowW HB1.out)
      have F1d := Lib.hid (show Blk w1 (w.heap.size) 40 #[.bool ng, .slice (some ⟨b, off, none⟩) n c, .int .i64 ex] by rw [hw]; exact Blk.new _ _ _)
      rw [← hw]
      clear hw
      have pd0 : (w1).cell? ⟨w.heap.size, 0, none⟩ = some (.bool ng) := F1d.out.cell 0
      have fd0 : (w1).frozen? ⟨w.heap.size, 0, none⟩ = false := F1d.out.frozen 0
      have pd1 : (w1).cell? ⟨w.heap.size, 1, none⟩ = some (.slice (some ⟨b, off, none⟩) n c) := F1d.out.cell 1
      have fd1 : (w1).frozen? ⟨w.heap.size, 1, none⟩ = false := F1d.out.frozen 1
      have pd2 : (w1).cell? ⟨w.heap.size, 2, none⟩ = some (.int .i64 ex) := F1d.out.cell 2
      have fd2 : (w1).frozen? ⟨w.heap.size, 2, none⟩ = false := F1d.out.frozen 2
      have c0 : w1.cell? ⟨b, off, none⟩ = some (.int .u32 x) := HB1.out.cell (p := ⟨b, off, none⟩) hb ▸ hx0
      have c1 : w1.cell? ⟨b, off + (n - 1), none⟩ = some (.int .u32 y) := HB1.out.cell (p := ⟨b, off + (n - 1), none⟩) hb ▸ hy0
      go_wp2_with fail
      go_ret
      exact ⟨ret_bool (by rw [HR.out]), HB1⟩
    have d1 : decide ((n : Int) ≤ 256) = true := decide_eq_true (by omega)
    have d1' : decide (n ≤ 256) = true := decide_eq_true t1
    by_cases t2 : x % 2 = 1
    case neg =>
      have d2 : ((x : Int) % 2 == 1) = false := by rw [beq_eq_false_iff_ne]; omega
      have d2'' : decide (x % 2 = 1) = false := decide_eq_false t2
      have HR := Lib.hid (show vldL ng l ex = false by rw [HV.out, d1', d2'']; rfl)
      clear d2''
      go_enter Tryz.func63, Tryz.ntmps63
      go_wp2_with fail
      obtain ⟨w1, hw⟩ : ∃ x, x = (w.alloc (.cells #[.bool ng, .slice (some ⟨b, off, none⟩) n c, .int .i64 ex] 40)) := ⟨_, rfl⟩
      have HB1 := Lib.hid (show Below w.heap.size w w1 by rw [hw]; exact below_a1 _ _)
      have F1a := Lib.hid (H.out.belowW HB1.out)
      have F1d := Lib.hid (show Blk w1 (w.heap.size) 40 #[.bool ng, .slice (some ⟨b, off, none⟩) n c, .int .i64 ex] by rw [hw]; exact Blk.new _ _ _)
      rw [← hw]
      clear hw
      have pd0 : (w1).cell? ⟨w.heap.size, 0, none⟩ = some (.bool ng) := F1d.out.cell 0
      have fd0 : (w1).frozen? ⟨w.heap.size, 0, none⟩ = false := F1d.out.frozen 0
      have pd1 : (w1).cell? ⟨w.heap.size, 1, none⟩ = some (.slice (some ⟨b, off, none⟩) n c) := F1d.out.cell 1
      have fd1 : (w1).frozen? ⟨w.heap.size, 1, none⟩ = false := F1d.out.frozen 1
      have pd2 : (w1).cell? ⟨w.heap.size, 2, none⟩ = some (.int .i64 ex) := F1d.out.cell 2
      have fd2 : (w1).frozen? ⟨w.heap.size, 2, none⟩ = false := F1d.out.frozen 2
      have c0 : w1.cell? ⟨b, off, none⟩ = some (.int .u32 x) := HB1.out.cell (p := ⟨b, off, none⟩) hb ▸ hx0
      have c1 : w1.cell? ⟨b, off + (n - 1), none⟩ = some (.int .u32 y) := HB1.out.cell (p := ⟨b, off + (n - 1), none⟩) hb ▸ hy0
      go_wp2_with fail
      go_ret
      exact ⟨ret_bool (by rw [HR.out]), HB1⟩
    have d2 : ((x : Int) % 2 == 1) = true := by simp; omega
    have d2'' : decide (x % 2 = 1) = true := decide_eq_true t2
    by_cases t3 : y = 0
    case pos =>
      have HR := Lib.hid (show vldL ng l ex = false by rw [HV.out, d1', d2'', t3]; rfl)
      have d3 : ((y : Int) != 0) = false := by simp [t3]
      clear d2'' t3
      go_enter Tryz.func63, Tryz.ntmps63
      go_wp2_with fail
      obtain ⟨w1, hw⟩ : ∃ x, x = (w.alloc (.cells #[.bool ng, .slice (some ⟨b, off, none⟩) n c, .int .i64 ex] 40)) := ⟨_, rfl⟩
      have HB1 := Lib.hid (show Below w.heap.size w w1 by rw [hw]; exact below_a1 _ _)
      have F1a := Lib.hid (H.out.belowW HB1.out)
      have F1d := Lib.hid (show Blk w1 (w.heap.size) 40 #[.bool ng, .slice (some ⟨b, off, none⟩) n c, .int .i64 ex] by rw [hw]; exact Blk.new _ _ _)
      rw [← hw]
      clear hw
      have pd0 : (w1).cell? ⟨w.heap.size, 0, none⟩ = some (.bool ng) := F1d.out.cell 0
      have fd0 : (w1).frozen? ⟨w.heap.size, 0, none⟩ = false := F1d.out.frozen 0
      have pd1 : (w1).cell? ⟨w.heap.size, 1, none⟩ = some (.slice (some ⟨b, off, none⟩) n c) := F1d.out.cell 1
      have fd1 : (w1).frozen? ⟨w.heap.size, 1, none⟩ = false := F1d.out.frozen 1
      have pd2 : (w1).cell? ⟨w.heap.size, 2, none⟩ = some (.int .i64 ex) := F1d.out.cell 2
      have fd2 : (w1).frozen? ⟨w.heap.size, 2, none⟩ = false := F1d.out.frozen 2
      have c0 : w1.cell? ⟨b, off, none⟩ = some (.int .u32 x) := HB1.out.cell (p := ⟨b, off, none⟩) hb ▸ hx0
      have c1 : w1.cell? ⟨b, off + (n - 1), none⟩ = some (.int .u32 y) := HB1.out.cell (p := ⟨b, off + (n - 1), none⟩) hb ▸ hy0
      go_wp2_with fail
      go_ret
      exact ⟨ret_bool (by rw [HR.out]), HB1⟩
    have d3 : ((y : Int) != 0) = true := by simp; exact t3
    have HR := Lib.hid (show vldL ng l ex = inR (val l) ex by rw [HV.out, d1', d2'']; simp [t3])
    clear d2''
    go_enter Tryz.func63, Tryz.ntmps63
    go_wp2_with fail
    obtain ⟨w1, hw⟩ : ∃ x, x = (w.alloc (.cells #[.bool ng, .slice (some ⟨b, off, none⟩) n c, .int .i64 ex] 40)) := ⟨_, rfl⟩
    have HB1 := Lib.hid (show Below w.heap.size w w1 by rw [hw]; exact below_a1 _ _)
    have F1a := Lib.hid (H.out.belowW HB1.out)
    have F1d := Lib.hid (show Blk w1 (w.heap.size) 40 #[.bool ng, .slice (some ⟨b, off, none⟩) n c, .int .i64 ex] by rw [hw]; exact Blk.new _ _ _)
    rw [← hw]
    clear hw
    have pd0 : (w1).cell? ⟨w.heap.size, 0, none⟩ = some (.bool ng) := F1d.out.cell 0
    have fd0 : (w1).frozen? ⟨w.heap.size, 0, none⟩ = false := F1d.out.frozen 0
    have pd1 : (w1).cell? ⟨w.heap.size, 1, none⟩ = some (.slice (some ⟨b, off, none⟩) n c) := F1d.out.cell 1
    have fd1 : (w1).frozen? ⟨w.heap.size, 1, none⟩ = false := F1d.out.frozen 1
    have pd2 : (w1).cell? ⟨w.heap.size, 2, none⟩ = some (.int .i64 ex) := F1d.out.cell 2
    have fd2 : (w1).frozen? ⟨w.heap.size, 2, none⟩ = false := F1d.out.frozen 2
    have c0 : w1.cell? ⟨b, off, none⟩ = some (.int .u32 x) := HB1.out.cell (p := ⟨b, off, none⟩) hb ▸ hx0
    have c1 : w1.cell? ⟨b, off + (n - 1), none⟩ = some (.int .u32 y) := HB1.out.cell (p := ⟨b, off + (n - 1), none⟩) hb ▸ hy0
    go_wp2_with fail
    refine (inRange_any ng (some ⟨b, off, none⟩) n c ex l w1 F1a.out (by omega)).mono ?_
    rintro e w2 ⟨rfl, HB2⟩
    have F2a := Lib.hid (F1a.out.belowW HB2.out)
    have F2d := Lib.hid (F1d.out.belowW HB2.out)
    have HL2 := Lib.hid (HB1.out.trans (HB2.out.mono HB1.out.size))
    go_wp2_with fail
    go_ret
    exact ⟨ret_bool (by rw [HR.out]), HL2⟩

theorem valid_yes (d : D) (A : Option Addr) (n c : Nat) (w : World) (h : Sl w A n c (limbs d.k)) (hv : vld d) : Calls Tryz.prog 63 #[.agg #[.bool d.neg, .slice A n c, .int .i64 d.e]] w (Ret (.bool true) w) := by
  have := valid_any d.neg A n c d.e (limbs d.k) w h
  rwa [vldL_of hv] at this
end Go.Proofs.YtoogeihbhhcpaaaGreatDoor
namespace Go.Fl.Nm
open Go.RowKit Go.Fl
theorem Sl.two {w : World} {g : Nat} {t : TypeId} {x y : Nat} {a b : Int} (hB : Blk w g t #[.int .u32 a, .int .u32 b]) (ha : a = x) (hb : b = y) (hx : x < BB) (hy : y < BB) : Sl w (some ⟨g, 0, none⟩) 2 2 [x, y] := by
  subst ha hb
  exact (Nw.of_blk (base := 0) (l := [x, y]) hB (ok_cons.2 ⟨hx, ok_cons.2 ⟨hy, ok_nil⟩⟩) (Nat.zero_le _) rfl (by unfold maxLen; simp)).sl
end Go.Fl.Nm
namespace Go.Fl
open Go.RowKit
end Go.Fl
namespace Go.Proofs.YtoogeihbhhcpaaaGreatDoor
open Go.RowKit Go.Fl Go.Fl.Nm Go.Fl.Dy
/-- Limbs of a number. -/
def SlP (v : Nat) (w : World) (e : Ending) (w' : World) : Prop :=
  ∃ (A : Option Addr) (n : Nat), e = .returned (.slice A n n) ∧ Hid (Sl w' A n n (limbs v)) ∧ Hid (Below w.heap.size w w')

set_option maxHeartbeats 400000 in
theorem shifted_any (A : Option Addr) (n c : Nat) (l : List Nat) (k : Int) (w : World) (h : Sl w A n c l) (hn : n ≤ 256) (hk : 0 ≤ k) (hk1 : k ≤ 65536) (hv : blen (2 ^ k.toNat * val l) ≤ 8192) :
    Calls Tryz.prog 137 #[.slice A n c, .int .i64 k] w (SlP (2 ^ k.toNat * val l) w) := by
  go_enter Tryz.func137, Tryz.ntmps137
  go_wp2_with fail
  refine (nShl_sl A n c l w h hn k hk hk1 hv).mono ?_
  rintro e w1 ⟨X, x, rfl, HX, HB⟩
  go_wp2_with fail
  go_ret
  exact ⟨X, x, rfl, HX, HB⟩

set_option maxHeartbeats 1000000 in
theorem top_any (d : D) (A : Option Addr) (n c : Nat) (w : World) (h : Sl w A n c (limbs d.k)) (hv : vld d) (hz : d.k ≠ 0) :
    Calls Tryz.prog 96 #[.agg #[.bool d.neg, .slice A n c, .int .i64 d.e]] w (Ret (.int .i64 ((blen d.k : Int) + d.e)) w) := by
  have H := Lib.hid h
  have HLM := Lib.hid (vld_len hv)
  have hn : n ≤ 256 := by rw [← h.len]; exact HLM.out
  have hb := vld_ebd hv
  have hbb := vld_bits hv
  have HN := Lib.hid h.len
  have HV := Lib.hid hv
  clear h hv
  have hk0 : n ≠ 0 := by rw [← HN.out]; intro h; have := limbs_eq_nil.1 (List.eq_nil_of_length_eq_zero h); exact hz this
  have dk : ((n : Int) == 0) = false := by rw [beq_eq_false_iff_ne]; omega
  clear hz
  have hsum : IntKind.i64.wrap ((blen d.k : Int) + d.e) = (blen d.k : Int) + d.e := IntWalk.i64_in _ (by omega)
  go_enter Tryz.func96, Tryz.ntmps96
  go_wp2_with fail
  obtain ⟨w1, hw⟩ : ∃ x, x = (w.alloc (.cells #[.bool d.neg, .slice A n c, .int .i64 d.e] 40)) := ⟨_, rfl⟩
  have HB1 := Lib.hid (show Below w.heap.size w w1 by rw [hw]; exact below_a1 _ _)
  have F1a := Lib.hid (H.out.belowW HB1.out)
  have F1d := Lib.hid (show Blk w1 (w.heap.size) 40 #[.bool d.neg, .slice A n c, .int .i64 d.e] by rw [hw]; exact Blk.new _ _ _)
  rw [← hw]
  clear hw
  have pd0 : (w1).cell? ⟨w.heap.size, 0, none⟩ = some (.bool d.neg) := F1d.out.cell 0
  have fd0 : (w1).frozen? ⟨w.heap.size, 0, none⟩ = false := F1d.out.frozen 0
  have pd1 : (w1).cell? ⟨w.heap.size, 1, none⟩ = some (.slice A n c) := F1d.out.cell 1
  have fd1 : (w1).frozen? ⟨w.heap.size, 1, none⟩ = false := F1d.out.frozen 1
  have pd2 : (w1).cell? ⟨w.heap.size, 2, none⟩ = some (.int .i64 d.e) := F1d.out.cell 2
  have fd2 : (w1).frozen? ⟨w.heap.size, 2, none⟩ = false := F1d.out.frozen 2
  go_wp2_with fail
  refine (valid_yes d A n c w1 F1a.out HV.out).mono ?_
  rintro e w2 ⟨rfl, HB2⟩
  have F2a := Lib.hid (F1a.out.belowW HB2.out)
  have F2d := Lib.hid (F1d.out.belowW HB2.out)
  have HL2 := Lib.hid (HB1.out.trans (HB2.out.mono HB1.out.size))
  clear pd0 pd1 pd2 fd0 fd1 fd2
  have pd0 : (w2).cell? ⟨w.heap.size, 0, none⟩ = some (.bool d.neg) := F2d.out.cell 0
  have fd0 : (w2).frozen? ⟨w.heap.size, 0, none⟩ = false := F2d.out.frozen 0
  have pd1 : (w2).cell? ⟨w.heap.size, 1, none⟩ = some (.slice A n c) := F2d.out.cell 1
  have fd1 : (w2).frozen? ⟨w.heap.size, 1, none⟩ = false := F2d.out.frozen 1
  have pd2 : (w2).cell? ⟨w.heap.size, 2, none⟩ = some (.int .i64 d.e) := F2d.out.cell 2
  have fd2 : (w2).frozen? ⟨w.heap.size, 2, none⟩ = false := F2d.out.frozen 2
  go_wp2_with fail
  have KB := Lib.hid (show ∀ q, Calls Tryz.prog 136 #[.slice A n c] (w2.drewN q) (fun e w' => e = .returned (.int .i64 (blen d.k : Nat)) ∧ w2.drewN q = w') from fun q => by have := size_any A n c _ (w2.drewN q) (F2a.out.drewN q) (by omega); rwa [val_limbs] at this)
  go_quiet ((go_at_call 136; exact quiet_left (KB.out _)))
  go_wp2_with fail
  go_ret
  exact ⟨rfl, Lib.hid (below_drewN HL2.out _)⟩

set_option maxHeartbeats 1000000 in
theorem sign_zero (d : D) (A : Option Addr) (n c : Nat) (w : World) (h : Sl w A n c (limbs d.k)) (hv : vld d) (hz : d.k = 0) :
    Calls Tryz.prog 94 #[.agg #[.bool d.neg, .slice A n c, .int .i64 d.e]] w (Ret (.int .i64 (sg d)) w) := by
  have H := Lib.hid h
  have HLM := Lib.hid (vld_len hv)
  have hn : n ≤ 256 := by rw [← h.len]; exact HLM.out
  have hb := vld_ebd hv
  have hbb := vld_bits hv
  have HN := Lib.hid h.len
  have HV := Lib.hid hv
  clear h hv
  obtain rfl : n = 0 := by rw [← HN.out, hz, limbs_zero]; rfl
  have HR := Lib.hid (show sg d = 0 by unfold sg; rw [if_pos hz])
  clear hz
  go_enter Tryz.func94, Tryz.ntmps94
  go_wp2_with fail
  obtain ⟨w1, hw⟩ : ∃ x, x = (w.alloc (.cells #[.bool d.neg, .slice A 0 c, .int .i64 d.e] 40)) := ⟨_, rfl⟩
  have HB1 := Lib.hid (show Below w.heap.size w w1 by rw [hw]; exact below_a1 _ _)
  have F1a := Lib.hid (H.out.belowW HB1.out)
  have F1d := Lib.hid (show Blk w1 (w.heap.size) 40 #[.bool d.neg, .slice A 0 c, .int .i64 d.e] by rw [hw]; exact Blk.new _ _ _)
  rw [← hw]
  clear hw
  have pd0 : (w1).cell? ⟨w.heap.size, 0, none⟩ = some (.bool d.neg) := F1d.out.cell 0
  have fd0 : (w1).frozen? ⟨w.heap.size, 0, none⟩ = false := F1d.out.frozen 0
  have pd1 : (w1).cell? ⟨w.heap.size, 1, none⟩ = some (.slice A 0 c) := F1d.out.cell 1
  have fd1 : (w1).frozen? ⟨w.heap.size, 1, none⟩ = false := F1d.out.frozen 1
  have pd2 : (w1).cell? ⟨w.heap.size, 2, none⟩ = some (.int .i64 d.e) := F1d.out.cell 2
  have fd2 : (w1).frozen? ⟨w.heap.size, 2, none⟩ = false := F1d.out.frozen 2
  go_wp2_with fail
  refine (valid_yes d A 0 c w1 F1a.out HV.out).mono ?_
  rintro e w2 ⟨rfl, HB2⟩
  have F2a := Lib.hid (F1a.out.belowW HB2.out)
  have F2d := Lib.hid (F1d.out.belowW HB2.out)
  have HL2 := Lib.hid (HB1.out.trans (HB2.out.mono HB1.out.size))
  clear pd0 pd1 pd2 fd0 fd1 fd2
  have pd0 : (w2).cell? ⟨w.heap.size, 0, none⟩ = some (.bool d.neg) := F2d.out.cell 0
  have fd0 : (w2).frozen? ⟨w.heap.size, 0, none⟩ = false := F2d.out.frozen 0
  have pd1 : (w2).cell? ⟨w.heap.size, 1, none⟩ = some (.slice A 0 c) := F2d.out.cell 1
  have fd1 : (w2).frozen? ⟨w.heap.size, 1, none⟩ = false := F2d.out.frozen 1
  have pd2 : (w2).cell? ⟨w.heap.size, 2, none⟩ = some (.int .i64 d.e) := F2d.out.cell 2
  have fd2 : (w2).frozen? ⟨w.heap.size, 2, none⟩ = false := F2d.out.frozen 2
  go_wp2_with fail
  go_ret
  exact ⟨ret_int (by rw [HR.out]), HL2⟩

set_option maxHeartbeats 1000000 in
theorem sign_neg (d : D) (A : Option Addr) (n c : Nat) (w : World) (h : Sl w A n c (limbs d.k)) (hv : vld d) (hz : d.k ≠ 0) (hg : d.neg = true) :
    Calls Tryz.prog 94 #[.agg #[.bool d.neg, .slice A n c, .int .i64 d.e]] w (Ret (.int .i64 (sg d)) w) := by
  have H := Lib.hid h
  have HLM := Lib.hid (vld_len hv)
  have hn : n ≤ 256 := by rw [← h.len]; exact HLM.out
  have hb := vld_ebd hv
  have hbb := vld_bits hv
  have HN := Lib.hid h.len
  have HV := Lib.hid hv
  clear h hv
  have hk0 : n ≠ 0 := by rw [← HN.out]; intro h; have := limbs_eq_nil.1 (List.eq_nil_of_length_eq_zero h); exact hz this
  have dk : ((n : Int) == 0) = false := by rw [beq_eq_false_iff_ne]; omega
  have HR := Lib.hid (show sg d = -1 by unfold sg; rw [if_neg hz]; simp [hg])
  have HG := Lib.hid hg
  clear hz hg
  go_enter Tryz.func94, Tryz.ntmps94
  go_wp2_with fail
  obtain ⟨w1, hw⟩ : ∃ x, x = (w.alloc (.cells #[.bool d.neg, .slice A n c, .int .i64 d.e] 40)) := ⟨_, rfl⟩
  have HB1 := Lib.hid (show Below w.heap.size w w1 by rw [hw]; exact below_a1 _ _)
  have F1a := Lib.hid (H.out.belowW HB1.out)
  have F1d := Lib.hid (show Blk w1 (w.heap.size) 40 #[.bool d.neg, .slice A n c, .int .i64 d.e] by rw [hw]; exact Blk.new _ _ _)
  rw [← hw]
  clear hw
  have pd0 : (w1).cell? ⟨w.heap.size, 0, none⟩ = some (.bool d.neg) := F1d.out.cell 0
  have fd0 : (w1).frozen? ⟨w.heap.size, 0, none⟩ = false := F1d.out.frozen 0
  have pd1 : (w1).cell? ⟨w.heap.size, 1, none⟩ = some (.slice A n c) := F1d.out.cell 1
  have fd1 : (w1).frozen? ⟨w.heap.size, 1, none⟩ = false := F1d.out.frozen 1
  have pd2 : (w1).cell? ⟨w.heap.size, 2, none⟩ = some (.int .i64 d.e) := F1d.out.cell 2
  have fd2 : (w1).frozen? ⟨w.heap.size, 2, none⟩ = false := F1d.out.frozen 2
  go_wp2_with fail
  refine (valid_yes d A n c w1 F1a.out HV.out).mono ?_
  rintro e w2 ⟨rfl, HB2⟩
  have F2a := Lib.hid (F1a.out.belowW HB2.out)
  have F2d := Lib.hid (F1d.out.belowW HB2.out)
  have HL2 := Lib.hid (HB1.out.trans (HB2.out.mono HB1.out.size))
  clear pd0 pd1 pd2 fd0 fd1 fd2
  have pd0 : (w2).cell? ⟨w.heap.size, 0, none⟩ = some (.bool d.neg) := F2d.out.cell 0
  have fd0 : (w2).frozen? ⟨w.heap.size, 0, none⟩ = false := F2d.out.frozen 0
  have pd1 : (w2).cell? ⟨w.heap.size, 1, none⟩ = some (.slice A n c) := F2d.out.cell 1
  have fd1 : (w2).frozen? ⟨w.heap.size, 1, none⟩ = false := F2d.out.frozen 1
  have pd2 : (w2).cell? ⟨w.heap.size, 2, none⟩ = some (.int .i64 d.e) := F2d.out.cell 2
  have fd2 : (w2).frozen? ⟨w.heap.size, 2, none⟩ = false := F2d.out.frozen 2
  rw [HG.out] at pd0
  go_wp2_with fail
  go_ret
  exact ⟨ret_int (by rw [HR.out]), HL2⟩

set_option maxHeartbeats 1000000 in
theorem sign_pos (d : D) (A : Option Addr) (n c : Nat) (w : World) (h : Sl w A n c (limbs d.k)) (hv : vld d) (hz : d.k ≠ 0) (hg : d.neg = false) :
    Calls Tryz.prog 94 #[.agg #[.bool d.neg, .slice A n c, .int .i64 d.e]] w (Ret (.int .i64 (sg d)) w) := by
  have H := Lib.hid h
  have HLM := Lib.hid (vld_len hv)
  have hn : n ≤ 256 := by rw [← h.len]; exact HLM.out
  have hb := vld_ebd hv
  have hbb := vld_bits hv
  have HN := Lib.hid h.len
  have HV := Lib.hid hv
  clear h hv
  have hk0 : n ≠ 0 := by rw [← HN.out]; intro h; have := limbs_eq_nil.1 (List.eq_nil_of_length_eq_zero h); exact hz this
  have dk : ((n : Int) == 0) = false := by rw [beq_eq_false_iff_ne]; omega
  have HR := Lib.hid (show sg d = 1 by unfold sg; rw [if_neg hz]; simp [hg])
  have HG := Lib.hid hg
  clear hz hg
  go_enter Tryz.func94, Tryz.ntmps94
  go_wp2_with fail
  obtain ⟨w1, hw⟩ : ∃ x, x = (w.alloc (.cells #[.bool d.neg, .slice A n c, .int .i64 d.e] 40)) := ⟨_, rfl⟩
  have HB1 := Lib.hid (show Below w.heap.size w w1 by rw [hw]; exact below_a1 _ _)
  have F1a := Lib.hid (H.out.belowW HB1.out)
  have F1d := Lib.hid (show Blk w1 (w.heap.size) 40 #[.bool d.neg, .slice A n c, .int .i64 d.e] by rw [hw]; exact Blk.new _ _ _)
  rw [← hw]
  clear hw
  have pd0 : (w1).cell? ⟨w.heap.size, 0, none⟩ = some (.bool d.neg) := F1d.out.cell 0
  have fd0 : (w1).frozen? ⟨w.heap.size, 0, none⟩ = false := F1d.out.frozen 0
  have pd1 : (w1).cell? ⟨w.heap.size, 1, none⟩ = some (.slice A n c) := F1d.out.cell 1
  have fd1 : (w1).frozen? ⟨w.heap.size, 1, none⟩ = false := F1d.out.frozen 1
  have pd2 : (w1).cell? ⟨w.heap.size, 2, none⟩ = some (.int .i64 d.e) := F1d.out.cell 2
  have fd2 : (w1).frozen? ⟨w.heap.size, 2, none⟩ = false := F1d.out.frozen 2
  go_wp2_with fail
  refine (valid_yes d A n c w1 F1a.out HV.out).mono ?_
  rintro e w2 ⟨rfl, HB2⟩
  have F2a := Lib.hid (F1a.out.belowW HB2.out)
  have F2d := Lib.hid (F1d.out.belowW HB2.out)
  have HL2 := Lib.hid (HB1.out.trans (HB2.out.mono HB1.out.size))
  clear pd0 pd1 pd2 fd0 fd1 fd2
  have pd0 : (w2).cell? ⟨w.heap.size, 0, none⟩ = some (.bool d.neg) := F2d.out.cell 0
  have fd0 : (w2).frozen? ⟨w.heap.size, 0, none⟩ = false := F2d.out.frozen 0
  have pd1 : (w2).cell? ⟨w.heap.size, 1, none⟩ = some (.slice A n c) := F2d.out.cell 1
  have fd1 : (w2).frozen? ⟨w.heap.size, 1, none⟩ = false := F2d.out.frozen 1
  have pd2 : (w2).cell? ⟨w.heap.size, 2, none⟩ = some (.int .i64 d.e) := F2d.out.cell 2
  have fd2 : (w2).frozen? ⟨w.heap.size, 2, none⟩ = false := F2d.out.frozen 2
  rw [HG.out] at pd0
  go_wp2_with fail
  go_ret
  exact ⟨ret_int (by rw [HR.out]), HL2⟩
theorem sign_any (d : D) (A : Option Addr) (n c : Nat) (w : World) (h : Sl w A n c (limbs d.k)) (hv : vld d) : Calls Tryz.prog 94 #[.agg #[.bool d.neg, .slice A n c, .int .i64 d.e]] w (Ret (.int .i64 (sg d)) w) := by
  by_cases hz : d.k = 0
  · exact sign_zero d A n c w h hv hz
  · cases hg : d.neg with
    | true => rw [← hg]; exact sign_neg d A n c w h hv hz hg
    | false => rw [← hg]; exact sign_pos d A n c w h hv hz hg

end Go.Proofs.YtoogeihbhhcpaaaGreatDoor
