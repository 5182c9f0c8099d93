/-
  The walk of ratio.Enclose.
-/
import Derived.Test.YtlmflomonbcjiaaDoorRaB
set_option linter.unusedVariables false
namespace Go.Fl
open Go.RowKit
theorem store7_put {w : World} {g : Nat} {t : TypeId} {a b c d e f h : Value} (hB : Blk w g t #[a, b, c, d, e, f, h]) (a' b' c' d' e' f' h' : Value) :
    ((((((w.setCell ⟨g, 0, none⟩ a').setCell ⟨g, 1, none⟩ b').setCell ⟨g, 2, none⟩ c').setCell ⟨g, 3, none⟩ d').setCell ⟨g, 4, none⟩ e').setCell ⟨g, 5, none⟩ f').setCell ⟨g, 6, none⟩ h' = putB w g t #[a', b', c', d', e', f', h'] := by
  rw [hB.setCell_eq 0 a', (hB.put _).setCell_eq 1 b', putB_putB, (hB.put _).setCell_eq 2 c', putB_putB, (hB.put _).setCell_eq 3 d', putB_putB, (hB.put _).setCell_eq 4 e', putB_putB, (hB.put _).setCell_eq 5 f', putB_putB, (hB.put _).setCell_eq 6 h', putB_putB]
  rfl
theorem noU7 {a b s : Bool} {A B : Option Addr} {n c m d : Nat} {e f : Int} : NoU #[.bool a, .slice A n c, .int .i64 e, .bool b, .slice B m d, .int .i64 f, .bool s] := by
  intro i x h
  match i with
  | 0 => simp at h
  | 1 => simp at h
  | 2 => simp at h
  | 3 => simp at h
  | 4 => simp at h
  | 5 => simp at h
  | 6 => simp at h
  | i + 7 => simp at h
theorem below_ad {w x : World} {o : Obj} (h : Below ((w.alloc o).drewN 1).heap.size ((w.alloc o).drewN 1) x) : Below w.heap.size w x := (below_drewN (below_a1 w o) 1).trans (h.mono (below_drewN (below_a1 w o) 1).size)
theorem below_a {w x : World} {o : Obj} (h : Below (w.alloc o).heap.size (w.alloc o) x) : Below w.heap.size w x := (below_a1 w o).trans (h.mono (below_a1 w o).size)
end Go.Fl
namespace Go.Fl.Dy
/-- What Enclose returns: the ends, and whether it is everything. -/
def encR (n d p : Int) : D × D × Bool :=
  if Rt.vB n d = true ∧ (divE (canon (decide (n < 0)) n.natAbs 0) (canon false d.natAbs 0) p false).2 = 0 ∧ (divE (canon (decide (n < 0)) n.natAbs 0) (canon false d.natAbs 0) p true).2 = 0 then
    ((divE (canon (decide (n < 0)) n.natAbs 0) (canon false d.natAbs 0) p false).1, (divE (canon (decide (n < 0)) n.natAbs 0) (canon false d.natAbs 0) p true).1, false)
  else (⟨false, 0, 0⟩, ⟨false, 0, 0⟩, true)
theorem canon_small {neg : Bool} {k : Nat} (h : k ≤ 1073741824) : vld (canon neg k 0) := by
  refine canon_vld ?_
  by_cases h0 : k = 0
  · subst h0; rfl
  · rw [canon_pos h0]
    have := blen_od h0
    have : Nm.blen k ≤ 31 := Nm.blen_le (by omega)
    exact inR_of (k := od k) (e := 0 + v2 k) (by omega) (by omega) (by omega) (by omega)
end Go.Fl.Dy
namespace Go.Proofs.YtlmflomonbcjiaaDoor
open Go.RowKit Go.Fl Go.Fl.Nm Go.Fl.Dy Go.Fl.Rt
/-- An interval. -/
def IvR (r : D × D × Bool) (w : World) (e : Ending) (w' : World) : Prop :=
  ∃ (A B : Option Addr) (n c m d : Nat), e = .returned (.agg #[.bool r.1.neg, .slice A n c, .int .i64 r.1.e, .bool r.2.1.neg, .slice B m d, .int .i64 r.2.1.e, .bool r.2.2]) ∧ Hid (Sl w' A n c (limbs r.1.k)) ∧ Hid (Sl w' B m d (limbs r.2.1.k)) ∧ Hid (Below w.heap.size w w')
theorem ivr_all {w w' : World} {e : Ending} {r : D × D × Bool} (hr : r = (⟨false, 0, 0⟩, ⟨false, 0, 0⟩, true)) (he : e = .returned (.agg #[.bool false, .slice none 0 0, .int .i64 0, .bool false, .slice none 0 0, .int .i64 0, .bool true])) (hb : Below w.heap.size w w') : IvR r w e w' := by
  subst hr
  exact ⟨none, none, 0, 0, 0, 0, he, Lib.hid (by rw [limbs_zero]; exact Sl.none_ _), Lib.hid (by rw [limbs_zero]; exact Sl.none_ _), Lib.hid hb⟩
end Go.Proofs.YtlmflomonbcjiaaDoor
