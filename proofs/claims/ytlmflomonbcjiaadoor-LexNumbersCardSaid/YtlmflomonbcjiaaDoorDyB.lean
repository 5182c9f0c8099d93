/-
  The walks of dyadic.canonical, checked, Make, Int.
-/
import Derived.Test.YtlmflomonbcjiaaDoorDyA
import Derived.Outline
set_option linter.unusedVariables false
namespace Go.Fl
open Go.RowKit
theorem Blk.belowW {w w' : World} {g : Nat} {t : TypeId} {cs : Array Value} (h : Blk w g t cs) (hb : Below w.heap.size w w') : Blk w' g t cs := h.below hb h.lt
theorem Blk.new1 (w : World) (o : Obj) (t : TypeId) (cs : Array Value) : Blk ((w.alloc o).alloc (.cells cs t)) (w.heap.size + 1) t cs := by
  have := Blk.new (w.alloc o) t cs
  simpa using this
theorem Blk.new2 (w : World) (o o' : Obj) (t : TypeId) (cs : Array Value) : Blk (((w.alloc o).alloc o').alloc (.cells cs t)) (w.heap.size + 2) t cs := by
  have := Blk.new ((w.alloc o).alloc o') t cs
  simpa using this
theorem below_a1 (w : World) (o : Obj) : Below w.heap.size w (w.alloc o) := (Below.refl _ _).alloc (Nat.le_refl _) _
theorem below_a2 (w : World) (o o' : Obj) : Below w.heap.size w ((w.alloc o).alloc o') := (below_a1 w o).alloc (by simp) _
theorem below_a3 (w : World) (o o' o'' : Obj) : Below w.heap.size w (((w.alloc o).alloc o').alloc o'') := (below_a2 w o o').alloc (by simp; omega) _
theorem below_a4 (w : World) (o o' o'' o3 : Obj) : Below w.heap.size w ((((w.alloc o).alloc o').alloc o'').alloc o3) := (below_a3 w o o' o'').alloc (by simp; omega) _
theorem Blk.new3 (w : World) (o o' o'' : Obj) (t : TypeId) (cs : Array Value) : Blk ((((w.alloc o).alloc o').alloc o'').alloc (.cells cs t)) (w.heap.size + 3) t cs := by
  have := Blk.new (((w.alloc o).alloc o').alloc o'') t cs
  simpa using this
/-- No cell is a limb. -/
def NoU (cs : Array Value) : Prop := ∀ (i : Nat) (x : Int), cs[i]? ≠ some (.int .u32 x)
theorem noU3 {a : Bool} {A : Option Addr} {n c : Nat} {e : Int} : NoU #[.bool a, .slice A n c, .int .i64 e] := by
  intro i x h
  match i with
  | 0 => simp at h
  | 1 => simp at h
  | 2 => simp at h
  | i + 3 => simp at h
theorem store3_put {w : World} {g : Nat} {t : TypeId} {x y z : Value} (hB : Blk w g t #[x, y, z]) (a b c : Value) : ((w.setCell ⟨g, 0, none⟩ a).setCell ⟨g, 1, none⟩ b).setCell ⟨g, 2, none⟩ c = putB w g t #[a, b, c] := by
  rw [hB.setCell_eq 0 a]
  have h1 := hB.put ((#[x, y, z] : Array Value).setIfInBounds 0 a)
  rw [h1.setCell_eq 1 b, putB_putB]
  have h2 := hB.put (((#[x, y, z] : Array Value).setIfInBounds 0 a).setIfInBounds 1 b)
  rw [h2.setCell_eq 2 c, putB_putB]
  rfl
theorem store3_below {B : Nat} {w0 w : World} {g : Nat} {t : TypeId} {x y z : Value} (h : Below B w0 w) (hB : Blk w g t #[x, y, z]) (a b c : Value) (hg : B ≤ g) : Below B w0 (((w.setCell ⟨g, 0, none⟩ a).setCell ⟨g, 1, none⟩ b).setCell ⟨g, 2, none⟩ c) := by
  rw [store3_put hB]
  exact h.trans (putB_below w g t _ hg)
end Go.Fl
namespace Go.Fl.Nm
open Go.RowKit Go.Fl
theorem Sl.belowW {w w' : World} {A : Option Addr} {n c : Nat} {l : List Nat} (h : Sl w A n c l) (hb : Below w.heap.size w w') : Sl w' A n c l := h.below hb
theorem Sl.clip {w : World} {A : Option Addr} {n c : Nat} {l : List Nat} (h : Sl w A n c l) : Sl w A n n l := by
  have := h.cut (Nat.le_refl n) (Nat.le_refl n) h.max (fun e => by have := h.nil e; have := h.cap; omega)
  rwa [List.take_of_length_le (by rw [h.len]; exact Nat.le_refl _)] at this
theorem Sl.lim {w : World} {A : Option Addr} {n c v k : Nat} (h : Sl w A n c (limbs v)) (hv : blen v ≤ 32 * k) : n ≤ k := by rw [← h.len]; exact Go.Fl.Dy.limbs_bits hv
/-- Limbs do not lie in a block that has none. -/
theorem Sl.far {w w' : World} {A : Option Addr} {n c g : Nat} {l : List Nat} {t : TypeId} {cs : Array Value} (h : Sl w A n c l) (hB : Blk w g t cs) (hN : NoU cs) (hg : w.grownBy w' (some g)) : Sl w' A n c l := by
  rcases Nat.eq_zero_or_pos n with h0 | h0
  · exact ⟨h.1, h.2.1, h.2.2.1, h.2.2.2.1, h.2.2.2.2.1, h.rd.1, fun hp => absurd hp (by omega)⟩
  · refine h.grown hg ?_
    rintro b off hA rfl
    obtain ⟨b', off', x, hA', _, _, _, hx⟩ := h.at_ h0
    rw [hA] at hA'
    injection hA' with hA'
    injection hA' with e1 e2
    subst e1 e2
    rw [hB.cell] at hx
    exact hN _ _ hx
theorem store3_sl {w : World} {A : Option Addr} {n m g : Nat} {l : List Nat} {t : TypeId} {x y z : Value} (h : Sl w A n m l) (hB : Blk w g t #[x, y, z]) (hN : NoU #[x, y, z]) (a b c : Value) : Sl (((w.setCell ⟨g, 0, none⟩ a).setCell ⟨g, 1, none⟩ b).setCell ⟨g, 2, none⟩ c) A n m l := by
  rw [store3_put hB]
  exact h.far hB hN (putB_grown w g t _)
end Go.Fl.Nm
namespace Go.Proofs.YtlmflomonbcjiaaDoor
open Go.RowKit Go.Fl Go.Fl.Nm Go.Fl.Dy

theorem RB.belowW {w w' : World} (h : RB w) (hb : Below w.heap.size w w') : RB w' := h.below hb
/-- Limbs of a number, and no error. -/
def SlR (v : Nat) (w : World) (e : Ending) (w' : World) : Prop :=
  ∃ (A : Option Addr) (n : Nat), e = .returned (.tuple #[.slice A n n, .int .i64 0]) ∧ Hid (Sl w' A n n (limbs v)) ∧ Hid (Below w.heap.size w w')
theorem SlR.of {base v : Nat} {w : World} {e : Ending} {w' : World} (h : Res base v w e w') (hv : blen v ≤ 8192) : SlR v w e w' := by
  obtain ⟨A, n, l, er, rfl, HN, HR, HB⟩ := h
  have hl : (limbs v).length ≤ 256 := limbs_bits (by omega)
  rcases HR.out with ⟨rfl, rfl, _⟩ | ⟨_, _, h⟩
  · exact ⟨A, n, rfl, Lib.hid HN.out.sl, HB⟩
  · omega
section
variable (A B : Option Addr) (n c m d : Nat) (a b : List Nat) (w : World) (ha : Sl w A n c a) (hb : Sl w B m d b) (hn : n ≤ 256) (hm : m ≤ 256)
include ha hb hn hm in
end

/-- A dyadic number. -/
def DyR (d : D) (w : World) (e : Ending) (w' : World) : Prop :=
  ∃ (A : Option Addr) (n c : Nat), e = .returned (.agg #[.bool d.neg, .slice A n c, .int .i64 d.e]) ∧ Hid (Sl w' A n c (limbs d.k)) ∧ Hid (Below w.heap.size w w')
/-- A dyadic number and an error. -/
def DyE (r : D × Int) (w : World) (e : Ending) (w' : World) : Prop :=
  ∃ (A : Option Addr) (n c : Nat), e = .returned (.tuple #[.agg #[.bool r.1.neg, .slice A n c, .int .i64 r.1.e], .int .i64 r.2]) ∧ Hid (Sl w' A n c (limbs r.1.k)) ∧ Hid (Below w.heap.size w w')
/-- A value. -/
def Ret (v : Value) (w : World) (e : Ending) (w' : World) : Prop := e = .returned v ∧ Hid (Below w.heap.size w w')

end Go.Proofs.YtlmflomonbcjiaaDoor
