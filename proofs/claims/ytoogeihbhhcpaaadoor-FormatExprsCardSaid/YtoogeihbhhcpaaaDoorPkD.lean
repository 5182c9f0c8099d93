/-
  The walks of math/bits.TrailingZeros32, dyadic.trimmed, low, size.
  The walks of dyadic.canonical, checked, Make, Int.
  The walks of dyadic.Make, Valid, Int, Bits, Top, Sign, shifted.
  The walks of dyadic.Int, Bits, Top, Sign, shifted, Neg.
  The walks of round.shl, precise, shr, fault.
  The walks of round.cut, signed.
  The walks of round.signed, div, DivDown, DivUp, Is.
  The walks of round.div, DivDown, DivUp, Is.
  The walks of size, gcd, Valid (of ratio and of the reference), ratio.Make.
  The walks of ratio.Make; the reference's lowest, checked, Make.
  The walk of ratio.Enclose.
-/
import Derived.Test.YtoogeihbhhcpaaaDoorPkC
import Derived.Test.YtoogeihbhhcpaaaDoorDyPlain
import Derived.Shelf.Spec.TrailingZeros
import Derived.Lib.LaidTab
import Derived.Lib.ItoaMem
import Derived.Outline
import Derived.Deep.RegionHeld3
import Derived.StillTailTactics
import Derived.Deep.DeepCutAuto
set_option linter.unusedVariables false
namespace Go.Fl.Dy
end Go.Fl.Dy
namespace Go.Proofs.YtoogeihbhhcpaaaDoor
open Go.RowKit Go.Fl Go.Fl.Nm Go.Fl.Dy

def ints (l : List Nat) : List Int := l.map fun x : Nat => (x : Int)
/-- The tables of the library that are read. -/
structure RB (w : World) : Prop where
  p10 : Lib.TabIs Tryd.prog w "internal/strconv.uint64pow10" .u64 Lib.pow10Tab
  t32 : Lib.TabIs Tryd.prog w "math/bits.deBruijn32tab" .u8 (ints Lib.deBruijn32tab)
  t64 : Lib.TabIs Tryd.prog w "math/bits.deBruijn64tab" .u8 (ints Lib.deBruijn64tab)
theorem tab_below {name : String} {g : Nat} {k : IntKind} {zs : List Int} {w w' : World} (hg : Tryd.prog.globalNamed name = some g) (h : Lib.TabIs Tryd.prog w name k zs) (hb : Below w.heap.size w w') : Lib.TabIs Tryd.prog w' name k zs := by
  unfold Lib.TabIs World.var? at h ⊢
  rw [hg] at h ⊢
  simp only [Option.bind_some] at h ⊢
  have hlt : g < w.heap.size := by
    rcases Nat.lt_or_ge g w.heap.size with h' | h'
    · exact h'
    · rw [Array.getElem?_eq_none h'] at h; cases h
  rw [hb.block g hlt]
  exact h
theorem g10 : Tryd.prog.globalNamed "internal/strconv.uint64pow10" = some 0 := by kernel_rfl
theorem g32 : Tryd.prog.globalNamed "math/bits.deBruijn32tab" = some 1 := by kernel_rfl
theorem g64 : Tryd.prog.globalNamed "math/bits.deBruijn64tab" = some 2 := by kernel_rfl
theorem RB.below {w w' : World} (h : RB w) (hb : Below w.heap.size w w') : RB w' := ⟨tab_below g10 h.p10 hb, tab_below g32 h.t32 hb, tab_below g64 h.t64 hb⟩
theorem RB.alloc {w : World} (h : RB w) (o : Obj) : RB (w.alloc o) := h.below ((Below.refl _ _).alloc (Nat.le_refl _) _)
theorem RB.drewN {w : World} (h : RB w) (n : Nat) : RB (w.drewN n) := h.below (below_drewN (Below.refl _ _) n)
end Go.Proofs.YtoogeihbhhcpaaaDoor
namespace Go.Fl
open Go.RowKit
theorem Blk.belowW {w w' : World} {g : Nat} {t : TypeId} {cs : Array Value} (h : Blk w g t cs) (hb : Below w.heap.size w w') : Blk w' g t cs := h.below hb h.lt
theorem below_a1 (w : World) (o : Obj) : Below w.heap.size w (w.alloc o) := (Below.refl _ _).alloc (Nat.le_refl _) _
/-- No cell is a limb. -/
def NoU (cs : Array Value) : Prop := ∀ (i : Nat) (x : Int), cs[i]? ≠ some (.int .u32 x)
end Go.Fl
namespace Go.Fl.Nm
open Go.RowKit Go.Fl
theorem Sl.belowW {w w' : World} {A : Option Addr} {n c : Nat} {l : List Nat} (h : Sl w A n c l) (hb : Below w.heap.size w w') : Sl w' A n c l := h.below hb
/-- Limbs do not lie in a block that has none. -/
theorem Sl.far {w w' : World} {A : Option Addr} {n c g : Nat} {l : List Nat} {t : TypeId} {cs : Array Value} (h : Sl w A n c l) (hB : Blk w g t cs) (hN : NoU cs) (hg : w.grownBy w' (some g)) : Sl w' A n c l := by
  rcases Nat.eq_zero_or_pos n with h0 | h0
  · exact ⟨h.1, h.2.1, h.2.2.1, h.2.2.2.1, h.2.2.2.2.1, h.rd.1, fun hp => absurd hp (by omega)⟩
  · refine h.grown hg ?_
    rintro b off hA rfl
    obtain ⟨b', off', x, hA', _, _, _, hx⟩ := h.at_ h0
    rw [hA] at hA'
    injection hA' with hA'
    injection hA' with e1 e2
    subst e1 e2
    rw [hB.cell] at hx
    exact hN _ _ hx
end Go.Fl.Nm
namespace Go.Proofs.YtoogeihbhhcpaaaDoor
open Go.RowKit Go.Fl Go.Fl.Nm Go.Fl.Dy

theorem RB.belowW {w w' : World} (h : RB w) (hb : Below w.heap.size w w') : RB w' := h.below hb
/-- Limbs of a number, and no error. -/
def SlR (v : Nat) (w : World) (e : Ending) (w' : World) : Prop :=
  ∃ (A : Option Addr) (n : Nat), e = .returned (.tuple #[.slice A n n, .int .i64 0]) ∧ Hid (Sl w' A n n (limbs v)) ∧ Hid (Below w.heap.size w w')
theorem SlR.of {base v : Nat} {w : World} {e : Ending} {w' : World} (h : Res base v w e w') (hv : blen v ≤ 8192) : SlR v w e w' := by
  obtain ⟨A, n, l, er, rfl, HN, HR, HB⟩ := h
  have hl : (limbs v).length ≤ 256 := limbs_bits (by omega)
  rcases HR.out with ⟨rfl, rfl, _⟩ | ⟨_, _, h⟩
  · exact ⟨A, n, rfl, Lib.hid HN.out.sl, HB⟩
  · omega
section
variable (A B : Option Addr) (n c m d : Nat) (a b : List Nat) (w : World) (ha : Sl w A n c a) (hb : Sl w B m d b) (hn : n ≤ 256) (hm : m ≤ 256)
include ha hb hn hm in
end

/-- A value. -/
def Ret (v : Value) (w : World) (e : Ending) (w' : World) : Prop := e = .returned v ∧ Hid (Below w.heap.size w w')

end Go.Proofs.YtoogeihbhhcpaaaDoor
namespace Go.Fl.Dy
open Go.Fl.Nm
end Go.Fl.Dy
namespace Go.Proofs.YtoogeihbhhcpaaaDoor
open Go.RowKit Go.Fl Go.Fl.Nm Go.Fl.Dy

end Go.Proofs.YtoogeihbhhcpaaaDoor
namespace Go.Fl.Nm
open Go.RowKit Go.Fl
theorem Sl.two {w : World} {g : Nat} {t : TypeId} {x y : Nat} {a b : Int} (hB : Blk w g t #[.int .u32 a, .int .u32 b]) (ha : a = x) (hb : b = y) (hx : x < BB) (hy : y < BB) : Sl w (some ⟨g, 0, none⟩) 2 2 [x, y] := by
  subst ha hb
  exact (Nw.of_blk (base := 0) (l := [x, y]) hB (ok_cons.2 ⟨hx, ok_cons.2 ⟨hy, ok_nil⟩⟩) (Nat.zero_le _) rfl (by unfold maxLen; simp)).sl
end Go.Fl.Nm
namespace Go.Fl
open Go.RowKit
end Go.Fl
namespace Go.Proofs.YtoogeihbhhcpaaaDoor
open Go.RowKit Go.Fl Go.Fl.Nm Go.Fl.Dy
end Go.Proofs.YtoogeihbhhcpaaaDoor
namespace Go.Fl.Dy
open Go.Fl.Nm
end Go.Fl.Dy
namespace Go.Proofs.YtoogeihbhhcpaaaDoor
open Go.RowKit Go.Fl Go.Fl.Nm Go.Fl.Dy
end Go.Proofs.YtoogeihbhhcpaaaDoor
namespace Go.Fl.Dy
open Go.Fl.Nm
end Go.Fl.Dy
namespace Go.Fl.Nm
open Go.RowKit Go.Fl
theorem Sl.one {w : World} {g : Nat} {t : TypeId} {x : Nat} (hB : Blk w g t #[.int .u32 (x : Int)]) (hx : x < BB) : Sl w (some ⟨g, 0, none⟩) 1 1 [x] :=
  (Nw.of_blk (base := 0) (l := [x]) hB (ok_cons.2 ⟨hx, ok_nil⟩) (Nat.zero_le _) rfl (by unfold maxLen; simp)).sl
end Go.Fl.Nm
namespace Go.Proofs.YtoogeihbhhcpaaaDoor
open Go.RowKit Go.Fl Go.Fl.Nm Go.Fl.Dy

end Go.Proofs.YtoogeihbhhcpaaaDoor
namespace Go.Proofs.YtoogeihbhhcpaaaDoor
open Go.RowKit Go.Fl Go.Fl.Nm Go.Fl.Dy

end Go.Proofs.YtoogeihbhhcpaaaDoor
namespace Go.Fl.Dy
open Go.Fl.Nm
end Go.Fl.Dy
namespace Go.Proofs.YtoogeihbhhcpaaaDoor
open Go.RowKit Go.Fl Go.Fl.Nm Go.Fl.Dy

end Go.Proofs.YtoogeihbhhcpaaaDoor
namespace Go.Fl
open Go.RowKit
end Go.Fl
namespace Go.Fl.Rt
def vB (n d : Int) : Bool := decide (valid n d)
theorem vB_iff {n d : Int} : vB n d = true ↔ valid n d := by simp [vB]
theorem gcd_step (x y : Nat) : Nat.gcd x y = Nat.gcd y (x % y) := by rw [Nat.gcd_comm x y, Nat.gcd_rec, Nat.gcd_comm]
end Go.Fl.Rt
namespace Go.Proofs.YtoogeihbhhcpaaaDoor
open Go.RowKit Go.Fl Go.Fl.Nm Go.Fl.Dy Go.Fl.Rt
def GcdPost (g : Nat) (w : World) (e : Ending) (w' : World) : Prop := e = .returned (.int .u64 (g : Nat)) ∧ ∃ q, w' = w.drewN q
set_option maxHeartbeats 400000 in
theorem size_q (n : Int) (w : World) (h1 : -9223372036854775808 ≤ n) (h2 : n ≤ 9223372036854775807) :
    Calls Tryd.prog 44 #[.int .i64 n] w fun e w' => e = .returned (.int .u64 (n.natAbs : Nat)) ∧ w = w' := by
  by_cases hn : n < 0
  · have dn : decide (n < 0) = true := decide_eq_true hn
    have e1 : IntKind.u64.wrap (-n) = -n := by rw [IntKind.wrap_u64]; omega
    have e2 : (n.natAbs : Int) = -n := by omega
    by_cases hm : n = -9223372036854775808
    · subst hm
      go_enter Tryd.func44, Tryd.ntmps44
      go_wp2
      go_ret
      exact ⟨ret_int (by kernel_rfl), rfl⟩
    · have h3 : -n ≤ 9223372036854775807 := by omega
      have HE := Lib.hid e2
      clear e2 hm
      go_enter Tryd.func44, Tryd.ntmps44
      go_wp2
      go_ret
      exact ⟨ret_int (by rw [HE.out]), rfl⟩
  · have dn : decide (n < 0) = false := decide_eq_false hn
    have e1 : IntKind.u64.wrap n = n := by rw [IntKind.wrap_u64]; omega
    have HE := Lib.hid (show (n.natAbs : Int) = n by omega)
    go_enter Tryd.func44, Tryd.ntmps44
    go_wp2
    go_ret
    exact ⟨ret_int (by rw [HE.out]), rfl⟩

set_option maxHeartbeats 400000 in
theorem size_r (n : Int) (w : World) (h1 : -9223372036854775808 ≤ n) (h2 : n ≤ 9223372036854775807) :
    Calls Tryd.prog 47 #[.int .i64 n] w fun e w' => e = .returned (.int .u64 (n.natAbs : Nat)) ∧ w = w' := by
  by_cases hn : n < 0
  · have dn : decide (n < 0) = true := decide_eq_true hn
    have e1 : IntKind.u64.wrap (-(n + 1)) = -(n + 1) := by rw [IntKind.wrap_u64]; omega
    have e3 : IntKind.u64.wrap (-(n + 1) + 1) = -n := by rw [IntKind.wrap_u64]; omega
    have HE := Lib.hid (show (n.natAbs : Int) = -n by omega)
    go_enter Tryd.func47, Tryd.ntmps47
    go_wp2
    go_ret
    exact ⟨ret_int (by rw [HE.out]; try omega), rfl⟩
  · have dn : decide (n < 0) = false := decide_eq_false hn
    have e1 : IntKind.u64.wrap n = n := by rw [IntKind.wrap_u64]; omega
    have HE := Lib.hid (show (n.natAbs : Int) = n by omega)
    go_enter Tryd.func47, Tryd.ntmps47
    go_wp2
    go_ret
    exact ⟨ret_int (by rw [HE.out]), rfl⟩

set_option maxHeartbeats 400000 in
theorem gcd_q (a b : Nat) (w : World) (ha : a < 18446744073709551616) (hb : b < 18446744073709551616) :
    Calls Tryd.prog 43 #[.int .u64 a, .int .u64 b] w (GcdPost (Nat.gcd a b) w) := by
  go_enter Tryd.func43, Tryd.ntmps43
  go_wp2_with fail
  go_loopg [0, 1] b (fun k x y wr => ∃ (d X Y : Nat), wr = w.drewN d ∧ x = .int .u64 X ∧ y = .int .u64 Y ∧ X < 18446744073709551616 ∧ Y < 18446744073709551616 ∧ Y = k ∧ Hid (Nat.gcd X Y = Nat.gcd a b))
  case atStart => exact ⟨0, a, b, rfl, rfl, rfl, ha, hb, rfl, Lib.hid rfl⟩
  case round =>
    obtain ⟨d, X, Y, rfl, rfl, rfl, hX, hY, rfl, HG⟩ := hrel
    by_cases h0 : Y = 0
    · subst h0
      go_wp2_with fail
      go_ret
      exact ⟨ret_int (by rw [← HG.out, Nat.gcd_zero_right]), d, rfl⟩
    · have d0 : ((Y : Int) != 0) = true := by simp; exact h0
      have d1 : ((Y : Int) == 0) = false := by rw [beq_eq_false_iff_ne]; omega
      have hlt := Nat.mod_lt X (by omega : 0 < Y)
      have HG2 := Lib.hid (show Nat.gcd Y (X % Y) = Nat.gcd a b by rw [← gcd_step, HG.out])
      have HM := Lib.hid (show ((X : Int).tmod Y) = ((X % Y : Nat) : Int) by rw [Int.tmod_eq_emod_of_nonneg (by omega)]; rfl)
      go_wp2_with fail
      go_quiet (fail)
      go_wp2_with fail
      go_roundg (X % Y)
      case measure => exact hlt
      case rel => exact ⟨_, Y, X % Y, drewN_drewN w d _, rfl, by first | rfl | go_num, hY, by omega, rfl, HG2⟩

set_option maxHeartbeats 400000 in
theorem gcd_r (a b : Nat) (w : World) (ha : a < 18446744073709551616) (hb : b < 18446744073709551616) :
    Calls Tryd.prog 46 #[.int .u64 a, .int .u64 b] w (GcdPost (Nat.gcd a b) w) := by
  go_enter Tryd.func46, Tryd.ntmps46
  go_wp2_with fail
  go_loopg [0, 1] b (fun k x y wr => ∃ (d X Y : Nat), wr = w.drewN d ∧ x = .int .u64 X ∧ y = .int .u64 Y ∧ X < 18446744073709551616 ∧ Y < 18446744073709551616 ∧ Y = k ∧ Hid (Nat.gcd X Y = Nat.gcd a b))
  case atStart => exact ⟨0, a, b, rfl, rfl, rfl, ha, hb, rfl, Lib.hid rfl⟩
  case round =>
    obtain ⟨d, X, Y, rfl, rfl, rfl, hX, hY, rfl, HG⟩ := hrel
    by_cases h0 : Y = 0
    · subst h0
      go_wp2_with fail
      go_ret
      exact ⟨ret_int (by rw [← HG.out, Nat.gcd_zero_right]), d, rfl⟩
    · have d0 : ((Y : Int) != 0) = true := by simp; exact h0
      have d1 : ((Y : Int) == 0) = false := by rw [beq_eq_false_iff_ne]; omega
      have hlt := Nat.mod_lt X (by omega : 0 < Y)
      have HG2 := Lib.hid (show Nat.gcd Y (X % Y) = Nat.gcd a b by rw [← gcd_step, HG.out])
      have HM := Lib.hid (show ((X : Int).tmod Y) = ((X % Y : Nat) : Int) by rw [Int.tmod_eq_emod_of_nonneg (by omega)]; rfl)
      go_wp2_with fail
      go_quiet (fail)
      go_wp2_with fail
      go_roundg (X % Y)
      case measure => exact hlt
      case rel => exact ⟨_, Y, X % Y, drewN_drewN w d _, rfl, by first | rfl | go_num, hY, by omega, rfl, HG2⟩

set_option maxHeartbeats 1000000 in
theorem valid_q (n d : Int) (w : World) (h1 : -9223372036854775808 ≤ n) (h2 : n ≤ 9223372036854775807) (h3 : -9223372036854775808 ≤ d) (h4 : d ≤ 9223372036854775807) :
    Calls Tryd.prog 35 #[.agg #[.int .i64 n, .int .i64 d]] w (Ret (.bool (vB n d)) w) := by
  by_cases t1 : 1 ≤ d
  case neg =>
    have dd : decide (1 ≤ d) = false := decide_eq_false t1
    have HR := Lib.hid (show vB n d = false by rw [vB, decide_eq_false_iff_not]; rintro ⟨a1, a2, a3, a4, _⟩; unfold MX at *; omega)
    clear t1
    go_enter Tryd.func35, Tryd.ntmps35
    go_wp2_with fail
    obtain ⟨w1, hw⟩ : ∃ z9 : World, z9 = (w.alloc (.cells #[.int .i64 n, .int .i64 d] 23)) := ⟨_, rfl⟩
    have HB1 := Lib.hid (show Below w.heap.size w w1 by rw [hw]; exact below_a1 _ _)
    have F1k := Lib.hid (show Blk w1 (w.heap.size) 23 #[.int .i64 n, .int .i64 d] by rw [hw]; exact Blk.new _ _ _)
    rw [← hw]
    clear hw
    have pk0 : (w1).cell? ⟨w.heap.size, 0, none⟩ = some (.int .i64 n) := F1k.out.cell 0
    have fk0 : (w1).frozen? ⟨w.heap.size, 0, none⟩ = false := F1k.out.frozen 0
    have pk1 : (w1).cell? ⟨w.heap.size, 1, none⟩ = some (.int .i64 d) := F1k.out.cell 1
    have fk1 : (w1).frozen? ⟨w.heap.size, 1, none⟩ = false := F1k.out.frozen 1
    go_quiet (fail)
    go_wp2_with fail
    go_ret
    exact ⟨ret_bool (by rw [HR.out]), Lib.hid (below_drewN HB1.out _)⟩
  have dt1 : decide (1 ≤ d) = true := decide_eq_true t1
  by_cases t2 : d ≤ 1073741824
  case neg =>
    have dd : decide (d ≤ 1073741824) = false := decide_eq_false t2
    have HR := Lib.hid (show vB n d = false by rw [vB, decide_eq_false_iff_not]; rintro ⟨a1, a2, a3, a4, _⟩; unfold MX at *; omega)
    clear t2
    go_enter Tryd.func35, Tryd.ntmps35
    go_wp2_with fail
    obtain ⟨w1, hw⟩ : ∃ z9 : World, z9 = (w.alloc (.cells #[.int .i64 n, .int .i64 d] 23)) := ⟨_, rfl⟩
    have HB1 := Lib.hid (show Below w.heap.size w w1 by rw [hw]; exact below_a1 _ _)
    have F1k := Lib.hid (show Blk w1 (w.heap.size) 23 #[.int .i64 n, .int .i64 d] by rw [hw]; exact Blk.new _ _ _)
    rw [← hw]
    clear hw
    have pk0 : (w1).cell? ⟨w.heap.size, 0, none⟩ = some (.int .i64 n) := F1k.out.cell 0
    have fk0 : (w1).frozen? ⟨w.heap.size, 0, none⟩ = false := F1k.out.frozen 0
    have pk1 : (w1).cell? ⟨w.heap.size, 1, none⟩ = some (.int .i64 d) := F1k.out.cell 1
    have fk1 : (w1).frozen? ⟨w.heap.size, 1, none⟩ = false := F1k.out.frozen 1
    go_quiet (fail)
    go_wp2_with fail
    go_ret
    exact ⟨ret_bool (by rw [HR.out]), Lib.hid (below_drewN HB1.out _)⟩
  have dt2 : decide (d ≤ 1073741824) = true := decide_eq_true t2
  by_cases t3 : -1073741824 ≤ n
  case neg =>
    have dd : decide (-1073741824 ≤ n) = false := decide_eq_false t3
    have HR := Lib.hid (show vB n d = false by rw [vB, decide_eq_false_iff_not]; rintro ⟨a1, a2, a3, a4, _⟩; unfold MX at *; omega)
    clear t3
    go_enter Tryd.func35, Tryd.ntmps35
    go_wp2_with fail
    obtain ⟨w1, hw⟩ : ∃ z9 : World, z9 = (w.alloc (.cells #[.int .i64 n, .int .i64 d] 23)) := ⟨_, rfl⟩
    have HB1 := Lib.hid (show Below w.heap.size w w1 by rw [hw]; exact below_a1 _ _)
    have F1k := Lib.hid (show Blk w1 (w.heap.size) 23 #[.int .i64 n, .int .i64 d] by rw [hw]; exact Blk.new _ _ _)
    rw [← hw]
    clear hw
    have pk0 : (w1).cell? ⟨w.heap.size, 0, none⟩ = some (.int .i64 n) := F1k.out.cell 0
    have fk0 : (w1).frozen? ⟨w.heap.size, 0, none⟩ = false := F1k.out.frozen 0
    have pk1 : (w1).cell? ⟨w.heap.size, 1, none⟩ = some (.int .i64 d) := F1k.out.cell 1
    have fk1 : (w1).frozen? ⟨w.heap.size, 1, none⟩ = false := F1k.out.frozen 1
    go_quiet (fail)
    go_wp2_with fail
    go_ret
    exact ⟨ret_bool (by rw [HR.out]), Lib.hid (below_drewN HB1.out _)⟩
  have dt3 : decide (-1073741824 ≤ n) = true := decide_eq_true t3
  by_cases t4 : n ≤ 1073741824
  case neg =>
    have dd : decide (n ≤ 1073741824) = false := decide_eq_false t4
    have HR := Lib.hid (show vB n d = false by rw [vB, decide_eq_false_iff_not]; rintro ⟨a1, a2, a3, a4, _⟩; unfold MX at *; omega)
    clear t4
    go_enter Tryd.func35, Tryd.ntmps35
    go_wp2_with fail
    obtain ⟨w1, hw⟩ : ∃ z9 : World, z9 = (w.alloc (.cells #[.int .i64 n, .int .i64 d] 23)) := ⟨_, rfl⟩
    have HB1 := Lib.hid (show Below w.heap.size w w1 by rw [hw]; exact below_a1 _ _)
    have F1k := Lib.hid (show Blk w1 (w.heap.size) 23 #[.int .i64 n, .int .i64 d] by rw [hw]; exact Blk.new _ _ _)
    rw [← hw]
    clear hw
    have pk0 : (w1).cell? ⟨w.heap.size, 0, none⟩ = some (.int .i64 n) := F1k.out.cell 0
    have fk0 : (w1).frozen? ⟨w.heap.size, 0, none⟩ = false := F1k.out.frozen 0
    have pk1 : (w1).cell? ⟨w.heap.size, 1, none⟩ = some (.int .i64 d) := F1k.out.cell 1
    have fk1 : (w1).frozen? ⟨w.heap.size, 1, none⟩ = false := F1k.out.frozen 1
    go_quiet (fail)
    go_wp2_with fail
    go_ret
    exact ⟨ret_bool (by rw [HR.out]), Lib.hid (below_drewN HB1.out _)⟩
  have dt4 : decide (n ≤ 1073741824) = true := decide_eq_true t4
  by_cases t5 : Nat.gcd n.natAbs d.natAbs = 1
  · have d5 : (((Nat.gcd n.natAbs d.natAbs : Nat) : Int) == 1) = true := by simp; omega
    have HR := Lib.hid (show vB n d = true by rw [vB]; rw [decide_eq_true_iff]; exact ⟨t1, by unfold MX; omega, by unfold MX; omega, by unfold MX; omega, t5⟩)
    clear t5
    go_enter Tryd.func35, Tryd.ntmps35
    go_wp2_with fail
    obtain ⟨w1, hw⟩ : ∃ z9 : World, z9 = (w.alloc (.cells #[.int .i64 n, .int .i64 d] 23)) := ⟨_, rfl⟩
    have HB1 := Lib.hid (show Below w.heap.size w w1 by rw [hw]; exact below_a1 _ _)
    have F1k := Lib.hid (show Blk w1 (w.heap.size) 23 #[.int .i64 n, .int .i64 d] by rw [hw]; exact Blk.new _ _ _)
    rw [← hw]
    clear hw
    have pk0 : (w1).cell? ⟨w.heap.size, 0, none⟩ = some (.int .i64 n) := F1k.out.cell 0
    have fk0 : (w1).frozen? ⟨w.heap.size, 0, none⟩ = false := F1k.out.frozen 0
    have pk1 : (w1).cell? ⟨w.heap.size, 1, none⟩ = some (.int .i64 d) := F1k.out.cell 1
    have fk1 : (w1).frozen? ⟨w.heap.size, 1, none⟩ = false := F1k.out.frozen 1
    have KN := Lib.hid (fun q => size_q n (w1.drewN q) h1 h2)
    have KG := Lib.hid (fun q => gcd_q n.natAbs d.natAbs (w1.drewN q) (by omega) (by omega))
    have KD := Lib.hid (fun q => size_q d (w1.drewN q) h3 h4)
    go_quiet ((first | (go_at_call_of 44 (Value.int .i64 n); exact quiet_left (KN.out _)) | (go_at_call_of 44 (Value.int .i64 d); exact quiet_left (KD.out _)) | (go_at_call 43; exact quiet_left2 (KG.out _))))
    go_wp2_with fail
    go_ret
    exact ⟨ret_bool (by rw [HR.out]), Lib.hid (below_drewN HB1.out _)⟩
  · have d5 : (((Nat.gcd n.natAbs d.natAbs : Nat) : Int) == 1) = false := by simp; omega
    have HR := Lib.hid (show vB n d = false by rw [vB]; rw [decide_eq_false_iff_not]; rintro ⟨_, _, _, _, a5⟩; exact t5 a5)
    clear t5
    go_enter Tryd.func35, Tryd.ntmps35
    go_wp2_with fail
    obtain ⟨w1, hw⟩ : ∃ z9 : World, z9 = (w.alloc (.cells #[.int .i64 n, .int .i64 d] 23)) := ⟨_, rfl⟩
    have HB1 := Lib.hid (show Below w.heap.size w w1 by rw [hw]; exact below_a1 _ _)
    have F1k := Lib.hid (show Blk w1 (w.heap.size) 23 #[.int .i64 n, .int .i64 d] by rw [hw]; exact Blk.new _ _ _)
    rw [← hw]
    clear hw
    have pk0 : (w1).cell? ⟨w.heap.size, 0, none⟩ = some (.int .i64 n) := F1k.out.cell 0
    have fk0 : (w1).frozen? ⟨w.heap.size, 0, none⟩ = false := F1k.out.frozen 0
    have pk1 : (w1).cell? ⟨w.heap.size, 1, none⟩ = some (.int .i64 d) := F1k.out.cell 1
    have fk1 : (w1).frozen? ⟨w.heap.size, 1, none⟩ = false := F1k.out.frozen 1
    have KN := Lib.hid (fun q => size_q n (w1.drewN q) h1 h2)
    have KG := Lib.hid (fun q => gcd_q n.natAbs d.natAbs (w1.drewN q) (by omega) (by omega))
    have KD := Lib.hid (fun q => size_q d (w1.drewN q) h3 h4)
    go_quiet ((first | (go_at_call_of 44 (Value.int .i64 n); exact quiet_left (KN.out _)) | (go_at_call_of 44 (Value.int .i64 d); exact quiet_left (KD.out _)) | (go_at_call 43; exact quiet_left2 (KG.out _))))
    go_wp2_with fail
    go_ret
    exact ⟨ret_bool (by rw [HR.out]), Lib.hid (below_drewN HB1.out _)⟩

set_option maxHeartbeats 1000000 in
theorem valid_r (n d : Int) (w : World) (h1 : -9223372036854775808 ≤ n) (h2 : n ≤ 9223372036854775807) (h3 : -9223372036854775808 ≤ d) (h4 : d ≤ 9223372036854775807) :
    Calls Tryd.prog 38 #[.agg #[.int .i64 n, .int .i64 d]] w (Ret (.bool (vB n d)) w) := by
  by_cases t1 : 1 ≤ d
  case neg =>
    have dd : decide (1 ≤ d) = false := decide_eq_false t1
    have HR := Lib.hid (show vB n d = false by rw [vB, decide_eq_false_iff_not]; rintro ⟨a1, a2, a3, a4, _⟩; unfold MX at *; omega)
    clear t1
    go_enter Tryd.func38, Tryd.ntmps38
    go_wp2_with fail
    obtain ⟨w1, hw⟩ : ∃ z9 : World, z9 = (w.alloc (.cells #[.int .i64 n, .int .i64 d] 23)) := ⟨_, rfl⟩
    have HB1 := Lib.hid (show Below w.heap.size w w1 by rw [hw]; exact below_a1 _ _)
    have F1k := Lib.hid (show Blk w1 (w.heap.size) 23 #[.int .i64 n, .int .i64 d] by rw [hw]; exact Blk.new _ _ _)
    rw [← hw]
    clear hw
    have pk0 : (w1).cell? ⟨w.heap.size, 0, none⟩ = some (.int .i64 n) := F1k.out.cell 0
    have fk0 : (w1).frozen? ⟨w.heap.size, 0, none⟩ = false := F1k.out.frozen 0
    have pk1 : (w1).cell? ⟨w.heap.size, 1, none⟩ = some (.int .i64 d) := F1k.out.cell 1
    have fk1 : (w1).frozen? ⟨w.heap.size, 1, none⟩ = false := F1k.out.frozen 1
    go_quiet (fail)
    go_wp2_with fail
    go_ret
    exact ⟨ret_bool (by rw [HR.out]), Lib.hid (below_drewN HB1.out _)⟩
  have dt1 : decide (1 ≤ d) = true := decide_eq_true t1
  by_cases t2 : d ≤ 1073741824
  case neg =>
    have dd : decide (d ≤ 1073741824) = false := decide_eq_false t2
    have HR := Lib.hid (show vB n d = false by rw [vB, decide_eq_false_iff_not]; rintro ⟨a1, a2, a3, a4, _⟩; unfold MX at *; omega)
    clear t2
    go_enter Tryd.func38, Tryd.ntmps38
    go_wp2_with fail
    obtain ⟨w1, hw⟩ : ∃ z9 : World, z9 = (w.alloc (.cells #[.int .i64 n, .int .i64 d] 23)) := ⟨_, rfl⟩
    have HB1 := Lib.hid (show Below w.heap.size w w1 by rw [hw]; exact below_a1 _ _)
    have F1k := Lib.hid (show Blk w1 (w.heap.size) 23 #[.int .i64 n, .int .i64 d] by rw [hw]; exact Blk.new _ _ _)
    rw [← hw]
    clear hw
    have pk0 : (w1).cell? ⟨w.heap.size, 0, none⟩ = some (.int .i64 n) := F1k.out.cell 0
    have fk0 : (w1).frozen? ⟨w.heap.size, 0, none⟩ = false := F1k.out.frozen 0
    have pk1 : (w1).cell? ⟨w.heap.size, 1, none⟩ = some (.int .i64 d) := F1k.out.cell 1
    have fk1 : (w1).frozen? ⟨w.heap.size, 1, none⟩ = false := F1k.out.frozen 1
    go_quiet (fail)
    go_wp2_with fail
    go_ret
    exact ⟨ret_bool (by rw [HR.out]), Lib.hid (below_drewN HB1.out _)⟩
  have dt2 : decide (d ≤ 1073741824) = true := decide_eq_true t2
  by_cases t3 : -1073741824 ≤ n
  case neg =>
    have dd : decide (-1073741824 ≤ n) = false := decide_eq_false t3
    have HR := Lib.hid (show vB n d = false by rw [vB, decide_eq_false_iff_not]; rintro ⟨a1, a2, a3, a4, _⟩; unfold MX at *; omega)
    clear t3
    go_enter Tryd.func38, Tryd.ntmps38
    go_wp2_with fail
    obtain ⟨w1, hw⟩ : ∃ z9 : World, z9 = (w.alloc (.cells #[.int .i64 n, .int .i64 d] 23)) := ⟨_, rfl⟩
    have HB1 := Lib.hid (show Below w.heap.size w w1 by rw [hw]; exact below_a1 _ _)
    have F1k := Lib.hid (show Blk w1 (w.heap.size) 23 #[.int .i64 n, .int .i64 d] by rw [hw]; exact Blk.new _ _ _)
    rw [← hw]
    clear hw
    have pk0 : (w1).cell? ⟨w.heap.size, 0, none⟩ = some (.int .i64 n) := F1k.out.cell 0
    have fk0 : (w1).frozen? ⟨w.heap.size, 0, none⟩ = false := F1k.out.frozen 0
    have pk1 : (w1).cell? ⟨w.heap.size, 1, none⟩ = some (.int .i64 d) := F1k.out.cell 1
    have fk1 : (w1).frozen? ⟨w.heap.size, 1, none⟩ = false := F1k.out.frozen 1
    go_quiet (fail)
    go_wp2_with fail
    go_ret
    exact ⟨ret_bool (by rw [HR.out]), Lib.hid (below_drewN HB1.out _)⟩
  have dt3 : decide (-1073741824 ≤ n) = true := decide_eq_true t3
  by_cases t4 : n ≤ 1073741824
  case neg =>
    have dd : decide (n ≤ 1073741824) = false := decide_eq_false t4
    have HR := Lib.hid (show vB n d = false by rw [vB, decide_eq_false_iff_not]; rintro ⟨a1, a2, a3, a4, _⟩; unfold MX at *; omega)
    clear t4
    go_enter Tryd.func38, Tryd.ntmps38
    go_wp2_with fail
    obtain ⟨w1, hw⟩ : ∃ z9 : World, z9 = (w.alloc (.cells #[.int .i64 n, .int .i64 d] 23)) := ⟨_, rfl⟩
    have HB1 := Lib.hid (show Below w.heap.size w w1 by rw [hw]; exact below_a1 _ _)
    have F1k := Lib.hid (show Blk w1 (w.heap.size) 23 #[.int .i64 n, .int .i64 d] by rw [hw]; exact Blk.new _ _ _)
    rw [← hw]
    clear hw
    have pk0 : (w1).cell? ⟨w.heap.size, 0, none⟩ = some (.int .i64 n) := F1k.out.cell 0
    have fk0 : (w1).frozen? ⟨w.heap.size, 0, none⟩ = false := F1k.out.frozen 0
    have pk1 : (w1).cell? ⟨w.heap.size, 1, none⟩ = some (.int .i64 d) := F1k.out.cell 1
    have fk1 : (w1).frozen? ⟨w.heap.size, 1, none⟩ = false := F1k.out.frozen 1
    go_quiet (fail)
    go_wp2_with fail
    go_ret
    exact ⟨ret_bool (by rw [HR.out]), Lib.hid (below_drewN HB1.out _)⟩
  have dt4 : decide (n ≤ 1073741824) = true := decide_eq_true t4
  by_cases t5 : Nat.gcd n.natAbs d.natAbs = 1
  · have d5 : (((Nat.gcd n.natAbs d.natAbs : Nat) : Int) == 1) = true := by simp; omega
    have HR := Lib.hid (show vB n d = true by rw [vB]; rw [decide_eq_true_iff]; exact ⟨t1, by unfold MX; omega, by unfold MX; omega, by unfold MX; omega, t5⟩)
    clear t5
    go_enter Tryd.func38, Tryd.ntmps38
    go_wp2_with fail
    obtain ⟨w1, hw⟩ : ∃ z9 : World, z9 = (w.alloc (.cells #[.int .i64 n, .int .i64 d] 23)) := ⟨_, rfl⟩
    have HB1 := Lib.hid (show Below w.heap.size w w1 by rw [hw]; exact below_a1 _ _)
    have F1k := Lib.hid (show Blk w1 (w.heap.size) 23 #[.int .i64 n, .int .i64 d] by rw [hw]; exact Blk.new _ _ _)
    rw [← hw]
    clear hw
    have pk0 : (w1).cell? ⟨w.heap.size, 0, none⟩ = some (.int .i64 n) := F1k.out.cell 0
    have fk0 : (w1).frozen? ⟨w.heap.size, 0, none⟩ = false := F1k.out.frozen 0
    have pk1 : (w1).cell? ⟨w.heap.size, 1, none⟩ = some (.int .i64 d) := F1k.out.cell 1
    have fk1 : (w1).frozen? ⟨w.heap.size, 1, none⟩ = false := F1k.out.frozen 1
    have KN := Lib.hid (fun q => size_r n (w1.drewN q) h1 h2)
    have KG := Lib.hid (fun q => gcd_r n.natAbs d.natAbs (w1.drewN q) (by omega) (by omega))
    have HDD := Lib.hid (show (d.natAbs : Int) = d by omega)
    have hud : IntKind.u64.wrap d = (d.natAbs : Int) := by rw [HDD.out, IntKind.wrap_u64]; omega
    go_quiet ((first | (go_at_call_of 47 (Value.int .i64 n); exact quiet_left (KN.out _)) | (go_at_call 46; exact quiet_left2 (KG.out _))))
    go_wp2_with fail
    go_ret
    exact ⟨ret_bool (by rw [HR.out]), Lib.hid (below_drewN HB1.out _)⟩
  · have d5 : (((Nat.gcd n.natAbs d.natAbs : Nat) : Int) == 1) = false := by simp; omega
    have HR := Lib.hid (show vB n d = false by rw [vB]; rw [decide_eq_false_iff_not]; rintro ⟨_, _, _, _, a5⟩; exact t5 a5)
    clear t5
    go_enter Tryd.func38, Tryd.ntmps38
    go_wp2_with fail
    obtain ⟨w1, hw⟩ : ∃ z9 : World, z9 = (w.alloc (.cells #[.int .i64 n, .int .i64 d] 23)) := ⟨_, rfl⟩
    have HB1 := Lib.hid (show Below w.heap.size w w1 by rw [hw]; exact below_a1 _ _)
    have F1k := Lib.hid (show Blk w1 (w.heap.size) 23 #[.int .i64 n, .int .i64 d] by rw [hw]; exact Blk.new _ _ _)
    rw [← hw]
    clear hw
    have pk0 : (w1).cell? ⟨w.heap.size, 0, none⟩ = some (.int .i64 n) := F1k.out.cell 0
    have fk0 : (w1).frozen? ⟨w.heap.size, 0, none⟩ = false := F1k.out.frozen 0
    have pk1 : (w1).cell? ⟨w.heap.size, 1, none⟩ = some (.int .i64 d) := F1k.out.cell 1
    have fk1 : (w1).frozen? ⟨w.heap.size, 1, none⟩ = false := F1k.out.frozen 1
    have KN := Lib.hid (fun q => size_r n (w1.drewN q) h1 h2)
    have KG := Lib.hid (fun q => gcd_r n.natAbs d.natAbs (w1.drewN q) (by omega) (by omega))
    have HDD := Lib.hid (show (d.natAbs : Int) = d by omega)
    have hud : IntKind.u64.wrap d = (d.natAbs : Int) := by rw [HDD.out, IntKind.wrap_u64]; omega
    go_quiet ((first | (go_at_call_of 47 (Value.int .i64 n); exact quiet_left (KN.out _)) | (go_at_call 46; exact quiet_left2 (KG.out _))))
    go_wp2_with fail
    go_ret
    exact ⟨ret_bool (by rw [HR.out]), Lib.hid (below_drewN HB1.out _)⟩
end Go.Proofs.YtoogeihbhhcpaaaDoor
namespace Go.Proofs.YtoogeihbhhcpaaaDoor
open Go.RowKit Go.Fl Go.Fl.Nm Go.Fl.Dy Go.Fl.Rt

end Go.Proofs.YtoogeihbhhcpaaaDoor
namespace Go.Fl
open Go.RowKit
end Go.Fl
namespace Go.Fl.Dy
end Go.Fl.Dy
namespace Go.Proofs.YtoogeihbhhcpaaaDoor
open Go.RowKit Go.Fl Go.Fl.Nm Go.Fl.Dy Go.Fl.Rt
end Go.Proofs.YtoogeihbhhcpaaaDoor
