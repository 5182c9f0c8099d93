/-
  Dyadic numbers, rounding to p bits, orders, and the enclosure of a ratio, in plain Lean. Of no program.
  The walks of math/bits.TrailingZeros32, dyadic.trimmed, low, size.
  The walks of dyadic.canonical, checked, Make, Int.
  The walks of dyadic.Make, Valid, Int, Bits, Top, Sign, shifted.
  The walks of dyadic.Int, Bits, Top, Sign, shifted, Neg.
  The walks of round.shl, precise, shr, fault.
  The walks of round.cut, signed.
  The walks of round.signed, div, DivDown, DivUp, Is.
  The walks of round.div, DivDown, DivUp, Is.
-/
import Derived.Test.YtkjoohnndobjeaaGreatDoorQD
import Derived.Test.YtkjoohnndobjeaaGreatDoorQA
import Derived.Test.YtkjoohnndobjeaaGreatDoorQE
import Derived.Shelf.Spec.TrailingZeros
import Derived.Lib.LaidTab
import Derived.Lib.ItoaMem
import Derived.Outline
import Derived.Deep.RegionHeld3
import Derived.StillTailTactics
import Derived.Deep.DeepCutAuto
set_option linter.unusedVariables false
namespace Go.Fl.Dy
open Go.Fl.Nm

/-- The number of the zero bits at the bottom. -/
def v2 (n : Nat) : Nat := if _h : n = 0 ∨ n % 2 = 1 then 0 else v2 (n / 2) + 1
termination_by n
decreasing_by omega
/-- The odd part. -/
def od (n : Nat) : Nat := n / 2 ^ v2 n

theorem blen_lt {n k : Nat} (h : blen n ≤ k) : n < 2 ^ k := by
  by_cases h0 : n = 0
  · subst h0; exact Nat.two_pow_pos k
  · exact Nat.lt_of_lt_of_le (blen_spec h0).2 (Nat.pow_le_pow_right (by omega) h)
theorem limbs_bits {n k : Nat} (h : blen n ≤ 32 * k) : (limbs n).length ≤ k := by
  refine limbs_len_le ?_
  rw [BB_pow, ← Nat.pow_mul]
  exact blen_lt h
/-- A dyadic number: (-1)^neg k 2^e. -/
structure D where
  neg : Bool
  k : Nat
  e : Int

/-- The canonical form. -/
def canon (neg : Bool) (k : Nat) (e : Int) : D := if k = 0 then ⟨false, 0, 0⟩ else ⟨neg, od k, e + v2 k⟩
/-- Whether a canonical number is in range. -/
def inR (k : Nat) (e : Int) : Bool := decide (k = 0) || (decide (blen k ≤ 4096) && decide (-16384 ≤ e) && decide (e ≤ 16384) && decide ((blen k : Int) + e ≤ 16384))
/-- Whether a number is canonical and in range. -/
def vld (d : D) : Prop := (d.k = 0 ∧ d.neg = false ∧ d.e = 0) ∨ (d.k % 2 = 1 ∧ blen d.k ≤ 4096 ∧ -16384 ≤ d.e ∧ d.e ≤ 16384 ∧ (blen d.k : Int) + d.e ≤ 16384)
instance (d : D) : Decidable (vld d) := by unfold vld; infer_instance
end Go.Fl.Dy
namespace Go.Fl.Dy
open Go.Fl.Nm

/-- A canonical number if it is in range, or ErrBig. -/
def chk (d : D) : D × Int := if inR d.k d.e then (d, 0) else (⟨false, 0, 0⟩, 9)
def negD (d : D) : D := if d.k = 0 then ⟨false, 0, 0⟩ else ⟨!d.neg, d.k, d.e⟩
/-- The unit to which a number m 2^e is rounded. -/
def cutU (m : Nat) (e : Int) (p : Nat) : Int := max (e + blen m - p) (-16384)
/-- The multiple of the unit. -/
def cutQ (m : Nat) (e : Int) (more : Bool) (p : Nat) (up : Bool) : Nat :=
  if cutU m e p ≤ e then 2 ^ (e - cutU m e p).toNat * m + (if up && more then 1 else 0)
  else m / 2 ^ (cutU m e p - e).toNat + (if up && (more || decide (m % 2 ^ (cutU m e p - e).toNat ≠ 0)) then 1 else 0)
/-- The number of p bits: the greatest one that is at most m 2^e, or the least one that is at least as great. -/
def cutR (m : Nat) (e : Int) (more : Bool) (p : Nat) (up : Bool) : D × Int :=
  if 16384 < (blen (cutQ m e more p up) : Int) + cutU m e p then
    if up then (⟨false, 0, 0⟩, 9) else chk (canon false (2 ^ p - 1) (16384 - p))
  else chk (canon false (cutQ m e more p up) (cutU m e p))
def sgnR (neg : Bool) (m : Nat) (e : Int) (more : Bool) (p : Nat) (up : Bool) : D × Int :=
  let r := cutR m e more p (up != neg)
  if r.2 = 0 ∧ neg = true then (negD r.1, 0) else r
/-- The shift of the dividend. -/
def divK (a b : D) (p : Nat) : Nat := p + 3 + blen b.k - blen a.k
/-- The rounded quotient of two valid numbers at a precision. -/
def divR (a b : D) (p : Nat) (up : Bool) : D × Int :=
  if b.k = 0 then (⟨false, 0, 0⟩, 10) else if a.k = 0 then (⟨false, 0, 0⟩, 0)
  else sgnR (a.neg != b.neg) (2 ^ divK a b p * a.k / b.k) (a.e - divK a b p - b.e) (decide (2 ^ divK a b p * a.k % b.k ≠ 0)) p up

/-- t 2^u is the quotient n / d, rounded down to a multiple of 2^u. -/
def Fl (n d t : Nat) (u : Int) : Prop := ∃ x y : Nat, (x : Int) - y = u ∧ t * d * 2 ^ x ≤ n * 2 ^ y ∧ n * 2 ^ y < (t + 1) * d * 2 ^ x
/-- .. and it is the quotient. -/
def Ex (n d t : Nat) (u : Int) : Prop := ∃ x y : Nat, (x : Int) - y = u ∧ t * d * 2 ^ x = n * 2 ^ y

theorem Ex.all {n d t : Nat} {u : Int} (h : Ex n d t u) {x y : Nat} (hu : (x : Int) - y = u) : t * d * 2 ^ x = n * 2 ^ y := by
  obtain ⟨x', y', hu', h'⟩ := h
  have e : x' + y = x + y' := by omega
  have : t * d * 2 ^ x * 2 ^ y' = n * 2 ^ y * 2 ^ y' := by
    rw [Nat.mul_assoc (t * d), ← Nat.pow_add, ← e, Nat.pow_add, ← Nat.mul_assoc, h', Nat.mul_assoc, Nat.mul_assoc, Nat.mul_comm (2 ^ y')]
  exact Nat.eq_of_mul_eq_mul_right (Nat.two_pow_pos y') this
theorem Fl.all {n d t : Nat} {u : Int} (h : Fl n d t u) {x y : Nat} (hu : (x : Int) - y = u) : t * d * 2 ^ x ≤ n * 2 ^ y ∧ n * 2 ^ y < (t + 1) * d * 2 ^ x := by
  obtain ⟨x', y', hu', h1, h2⟩ := h
  have e : x' + y = x + y' := by omega
  constructor
  · have : t * d * 2 ^ x * 2 ^ y' ≤ n * 2 ^ y * 2 ^ y' := by
      rw [Nat.mul_assoc (t * d), ← Nat.pow_add, ← e, Nat.pow_add, ← Nat.mul_assoc, Nat.mul_assoc n, Nat.mul_comm (2 ^ y), ← Nat.mul_assoc]
      exact Nat.mul_le_mul_right _ h1
    exact Nat.le_of_mul_le_mul_right this (Nat.two_pow_pos y')
  · have : n * 2 ^ y * 2 ^ y' < (t + 1) * d * 2 ^ x * 2 ^ y' := by
      rw [Nat.mul_assoc ((t + 1) * d), ← Nat.pow_add, ← e, Nat.pow_add, ← Nat.mul_assoc, Nat.mul_assoc n, Nat.mul_comm (2 ^ y), ← Nat.mul_assoc]
      exact Nat.mul_lt_mul_of_pos_right h2 (Nat.two_pow_pos _)
    exact Nat.lt_of_mul_lt_mul_right this
end Go.Fl.Dy
namespace Go.Fl.Dy
open Go.Fl.Nm

/-- A positive quotient, rounded down to p bits. -/
def Enc (n d p t : Nat) (u : Int) : Prop := Fl n d t u ∧ 2 ^ (p - 1) ≤ t ∧ t < 2 ^ p
/-- The end of an enclosure. -/
def endQ (t : Nat) (ex up : Bool) : Nat := if up && !ex then t + 1 else t

end Go.Fl.Dy
namespace Go.Fl.Dy
open Go.Fl.Nm

/-- The greatest exponent. -/
def ZE : Nat := 16384
theorem ZE_eq : ZE = 16384 := rfl
/-- The value of a number, times 2^16384. -/
def mg (x : D) : Nat := x.k * 2 ^ (x.e + ZE).toNat
def iv (x : D) : Int := if x.neg then -(mg x : Int) else mg x
/-- 2^16384. -/
def Z16 : Nat := 2 ^ ZE
end Go.Fl.Dy
namespace Go.Fl.Dy
open Go.Fl.Nm

/-- A multiple of 2^y with at most p bits that lies strictly between t 2^x and (t + 1) 2^x: there is none. -/
theorem no_between {t p k x y : Nat} (ht : 2 ^ (p - 1) ≤ t) (hp : 0 < p) (hk : k < 2 ^ p) (h1 : t * 2 ^ x < k * 2 ^ y) (h2 : k * 2 ^ y < (t + 1) * 2 ^ x) : False := by
  rcases Nat.lt_or_ge y x with h | h
  · obtain ⟨j, rfl⟩ : ∃ j, x = y + 1 + j := ⟨x - y - 1, by omega⟩
    have a1 : k * 2 ^ y < 2 ^ (p + y) := by rw [Nat.pow_add]; exact Nat.mul_lt_mul_of_pos_right hk (Nat.two_pow_pos _)
    have a2 : 2 ^ (p + y) ≤ t * 2 ^ (y + 1 + j) := by
      refine Nat.le_trans ?_ (Nat.mul_le_mul_right _ ht)
      rw [← Nat.pow_add]
      exact Nat.pow_le_pow_right (by omega) (by omega)
    omega
  · obtain ⟨j, rfl⟩ : ∃ j, y = j + x := ⟨y - x, by omega⟩
    rw [Nat.pow_add, ← Nat.mul_assoc] at h1 h2
    have a1 := Nat.lt_of_mul_lt_mul_right h1
    have a2 := Nat.lt_of_mul_lt_mul_right h2
    omega
section
variable {n d p t : Nat} {u : Int} {ex : Bool}
theorem Enc.lowest (h : Enc n d p t u) (hp : 0 < p) (hd : 0 < d) (hu : -16384 ≤ u) : t * 2 ^ (u + ZE).toNat * d ≤ n * Z16 := by
  have := (Fl.all h.1 (x := (u + ZE).toNat) (y := ZE) (by have hZ := ZE_eq; generalize ZE = z at *; omega)).1
  unfold Z16
  rw [Nat.mul_assoc, Nat.mul_comm _ d, ← Nat.mul_assoc]
  exact this
theorem Enc.above (h : Enc n d p t u) (hp : 0 < p) (hd : 0 < d) (hu : -16384 ≤ u) : n * Z16 < (t + 1) * 2 ^ (u + ZE).toNat * d := by
  have := (Fl.all h.1 (x := (u + ZE).toNat) (y := ZE) (by have hZ := ZE_eq; generalize ZE = z at *; omega)).2
  unfold Z16
  rw [Nat.mul_assoc, Nat.mul_comm _ d, ← Nat.mul_assoc]
  exact this
theorem Enc.exact_iff (h : Enc n d p t u) (hex : ex = true ↔ Ex n d t u) (hu : -16384 ≤ u) : ex = true ↔ t * 2 ^ (u + ZE).toNat * d = n * Z16 := by
  have hx : (((u + ZE).toNat : Nat) : Int) - (ZE : Nat) = u := by have hZ := ZE_eq; generalize ZE = z at *; omega
  rw [hex]
  unfold Z16
  rw [Nat.mul_assoc, Nat.mul_comm _ d, ← Nat.mul_assoc]
  exact ⟨fun h => Ex.all h hx, fun h => ⟨_, _, hx, h⟩⟩
theorem Enc.great (h : Enc n d p t u) (hp : 0 < p) (hd : 0 < d) (hu : -16384 ≤ u) {k y : Nat} (hk : k < 2 ^ p) (hle : k * 2 ^ y * d ≤ n * Z16) : k * 2 ^ y ≤ t * 2 ^ (u + ZE).toNat := by
  rcases Nat.lt_or_ge (t * 2 ^ (u + ZE).toNat) (k * 2 ^ y) with h1 | h1
  · exact absurd (no_between h.2.1 hp hk h1 (Nat.lt_of_mul_lt_mul_right (Nat.lt_of_le_of_lt hle (h.above hp hd hu)))) id
  · exact h1
theorem Enc.least (h : Enc n d p t u) (hex : ex = true ↔ Ex n d t u) (hp : 0 < p) (hd : 0 < d) (hu : -16384 ≤ u) {k y : Nat} (hk : k < 2 ^ p) (hle : n * Z16 ≤ k * 2 ^ y * d) : endQ t ex true * 2 ^ (u + ZE).toNat ≤ k * 2 ^ y := by
  have hi := h.exact_iff hex hu
  cases ex with
  | true =>
    have := hi.1 rfl
    rw [← this] at hle
    exact Nat.le_of_mul_le_mul_right hle hd
  | false =>
    have h0 : t * 2 ^ (u + ZE).toNat * d ≠ n * Z16 := fun e => by have := hi.2 e; cases this
    have h1 := h.lowest hp hd hu
    have h2 : t * 2 ^ (u + ZE).toNat < k * 2 ^ y := Nat.lt_of_mul_lt_mul_right (a := d) (by omega)
    show (t + 1) * _ ≤ _
    rcases Nat.lt_or_ge (k * 2 ^ y) ((t + 1) * 2 ^ (u + ZE).toNat) with h3 | h3
    · exact absurd (no_between h.2.1 hp hk h2 h3) id
    · exact h3
end

section
variable {n d : Int} {p : Nat}
end
end Go.Fl.Dy
namespace Go.Fl.Dy
end Go.Fl.Dy
namespace Go.Proofs.YtkjoohnndobjeaaGreatDoor
open Go.RowKit Go.Fl Go.Fl.Nm Go.Fl.Dy

def ints (l : List Nat) : List Int := l.map fun x : Nat => (x : Int)
/-- The tables of the library that are read. -/
structure RB (w : World) : Prop where
  p10 : Lib.TabIs Tryz.prog w "internal/strconv.uint64pow10" .u64 Lib.pow10Tab
  t32 : Lib.TabIs Tryz.prog w "math/bits.deBruijn32tab" .u8 (ints Lib.deBruijn32tab)
  t64 : Lib.TabIs Tryz.prog w "math/bits.deBruijn64tab" .u8 (ints Lib.deBruijn64tab)
theorem tab_below {name : String} {g : Nat} {k : IntKind} {zs : List Int} {w w' : World} (hg : Tryz.prog.globalNamed name = some g) (h : Lib.TabIs Tryz.prog w name k zs) (hb : Below w.heap.size w w') : Lib.TabIs Tryz.prog w' name k zs := by
  unfold Lib.TabIs World.var? at h ⊢
  rw [hg] at h ⊢
  simp only [Option.bind_some] at h ⊢
  have hlt : g < w.heap.size := by
    rcases Nat.lt_or_ge g w.heap.size with h' | h'
    · exact h'
    · rw [Array.getElem?_eq_none h'] at h; cases h
  rw [hb.block g hlt]
  exact h
theorem g10 : Tryz.prog.globalNamed "internal/strconv.uint64pow10" = some 2 := by kernel_rfl
theorem g32 : Tryz.prog.globalNamed "math/bits.deBruijn32tab" = some 3 := by kernel_rfl
theorem g64 : Tryz.prog.globalNamed "math/bits.deBruijn64tab" = some 4 := by kernel_rfl
theorem RB.below {w w' : World} (h : RB w) (hb : Below w.heap.size w w') : RB w' := ⟨tab_below g10 h.p10 hb, tab_below g32 h.t32 hb, tab_below g64 h.t64 hb⟩
theorem RB.alloc {w : World} (h : RB w) (o : Obj) : RB (w.alloc o) := h.below ((Below.refl _ _).alloc (Nat.le_refl _) _)
theorem RB.drewN {w : World} (h : RB w) (n : Nat) : RB (w.drewN n) := h.below (below_drewN (Below.refl _ _) n)
end Go.Proofs.YtkjoohnndobjeaaGreatDoor
namespace Go.Fl
open Go.RowKit
theorem Blk.belowW {w w' : World} {g : Nat} {t : TypeId} {cs : Array Value} (h : Blk w g t cs) (hb : Below w.heap.size w w') : Blk w' g t cs := h.below hb h.lt
theorem below_a1 (w : World) (o : Obj) : Below w.heap.size w (w.alloc o) := (Below.refl _ _).alloc (Nat.le_refl _) _
/-- No cell is a limb. -/
def NoU (cs : Array Value) : Prop := ∀ (i : Nat) (x : Int), cs[i]? ≠ some (.int .u32 x)
end Go.Fl
namespace Go.Fl.Nm
open Go.RowKit Go.Fl
theorem Sl.belowW {w w' : World} {A : Option Addr} {n c : Nat} {l : List Nat} (h : Sl w A n c l) (hb : Below w.heap.size w w') : Sl w' A n c l := h.below hb
/-- Limbs do not lie in a block that has none. -/
theorem Sl.far {w w' : World} {A : Option Addr} {n c g : Nat} {l : List Nat} {t : TypeId} {cs : Array Value} (h : Sl w A n c l) (hB : Blk w g t cs) (hN : NoU cs) (hg : w.grownBy w' (some g)) : Sl w' A n c l := by
  rcases Nat.eq_zero_or_pos n with h0 | h0
  · exact ⟨h.1, h.2.1, h.2.2.1, h.2.2.2.1, h.2.2.2.2.1, h.rd.1, fun hp => absurd hp (by omega)⟩
  · refine h.grown hg ?_
    rintro b off hA rfl
    obtain ⟨b', off', x, hA', _, _, _, hx⟩ := h.at_ h0
    rw [hA] at hA'
    injection hA' with hA'
    injection hA' with e1 e2
    subst e1 e2
    rw [hB.cell] at hx
    exact hN _ _ hx
end Go.Fl.Nm
namespace Go.Proofs.YtkjoohnndobjeaaGreatDoor
open Go.RowKit Go.Fl Go.Fl.Nm Go.Fl.Dy

theorem RB.belowW {w w' : World} (h : RB w) (hb : Below w.heap.size w w') : RB w' := h.below hb
/-- Limbs of a number, and no error. -/
def SlR (v : Nat) (w : World) (e : Ending) (w' : World) : Prop :=
  ∃ (A : Option Addr) (n : Nat), e = .returned (.tuple #[.slice A n n, .int .i64 0]) ∧ Hid (Sl w' A n n (limbs v)) ∧ Hid (Below w.heap.size w w')
theorem SlR.of {base v : Nat} {w : World} {e : Ending} {w' : World} (h : Res base v w e w') (hv : blen v ≤ 8192) : SlR v w e w' := by
  obtain ⟨A, n, l, er, rfl, HN, HR, HB⟩ := h
  have hl : (limbs v).length ≤ 256 := limbs_bits (by omega)
  rcases HR.out with ⟨rfl, rfl, _⟩ | ⟨_, _, h⟩
  · exact ⟨A, n, rfl, Lib.hid HN.out.sl, HB⟩
  · omega
section
variable (A B : Option Addr) (n c m d : Nat) (a b : List Nat) (w : World) (ha : Sl w A n c a) (hb : Sl w B m d b) (hn : n ≤ 256) (hm : m ≤ 256)
include ha hb hn hm in
end

/-- A value. -/
def Ret (v : Value) (w : World) (e : Ending) (w' : World) : Prop := e = .returned v ∧ Hid (Below w.heap.size w w')

end Go.Proofs.YtkjoohnndobjeaaGreatDoor
namespace Go.Fl.Dy
open Go.Fl.Nm
end Go.Fl.Dy
namespace Go.Proofs.YtkjoohnndobjeaaGreatDoor
open Go.RowKit Go.Fl Go.Fl.Nm Go.Fl.Dy

end Go.Proofs.YtkjoohnndobjeaaGreatDoor
namespace Go.Fl.Nm
open Go.RowKit Go.Fl
theorem Sl.two {w : World} {g : Nat} {t : TypeId} {x y : Nat} {a b : Int} (hB : Blk w g t #[.int .u32 a, .int .u32 b]) (ha : a = x) (hb : b = y) (hx : x < BB) (hy : y < BB) : Sl w (some ⟨g, 0, none⟩) 2 2 [x, y] := by
  subst ha hb
  exact (Nw.of_blk (base := 0) (l := [x, y]) hB (ok_cons.2 ⟨hx, ok_cons.2 ⟨hy, ok_nil⟩⟩) (Nat.zero_le _) rfl (by unfold maxLen; simp)).sl
end Go.Fl.Nm
namespace Go.Fl
open Go.RowKit
end Go.Fl
namespace Go.Proofs.YtkjoohnndobjeaaGreatDoor
open Go.RowKit Go.Fl Go.Fl.Nm Go.Fl.Dy
end Go.Proofs.YtkjoohnndobjeaaGreatDoor
namespace Go.Fl.Dy
open Go.Fl.Nm
def precB (p : Int) : Bool := decide (8 ≤ p ∧ p ≤ 512)
end Go.Fl.Dy
namespace Go.Proofs.YtkjoohnndobjeaaGreatDoor
open Go.RowKit Go.Fl Go.Fl.Nm Go.Fl.Dy
end Go.Proofs.YtkjoohnndobjeaaGreatDoor
namespace Go.Fl.Dy
open Go.Fl.Nm
end Go.Fl.Dy
namespace Go.Fl.Nm
open Go.RowKit Go.Fl
theorem Sl.one {w : World} {g : Nat} {t : TypeId} {x : Nat} (hB : Blk w g t #[.int .u32 (x : Int)]) (hx : x < BB) : Sl w (some ⟨g, 0, none⟩) 1 1 [x] :=
  (Nw.of_blk (base := 0) (l := [x]) hB (ok_cons.2 ⟨hx, ok_nil⟩) (Nat.zero_le _) rfl (by unfold maxLen; simp)).sl
end Go.Fl.Nm
namespace Go.Proofs.YtkjoohnndobjeaaGreatDoor
open Go.RowKit Go.Fl Go.Fl.Nm Go.Fl.Dy

end Go.Proofs.YtkjoohnndobjeaaGreatDoor
namespace Go.Proofs.YtkjoohnndobjeaaGreatDoor
open Go.RowKit Go.Fl Go.Fl.Nm Go.Fl.Dy

end Go.Proofs.YtkjoohnndobjeaaGreatDoor
namespace Go.Fl.Dy
open Go.Fl.Nm
def divE (a b : D) (p : Int) (up : Bool) : D × Int := if precB p then divR a b p.toNat up else (⟨false, 0, 0⟩, 2)
end Go.Fl.Dy
namespace Go.Proofs.YtkjoohnndobjeaaGreatDoor
open Go.RowKit Go.Fl Go.Fl.Nm Go.Fl.Dy

end Go.Proofs.YtkjoohnndobjeaaGreatDoor
