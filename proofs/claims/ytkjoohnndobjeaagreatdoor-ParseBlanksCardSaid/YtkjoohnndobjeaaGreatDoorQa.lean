/-
  strings.Builder's methods, and the walk of the texts of declarations.
-/
import Derived.Test.YtkjoohnndobjeaaGreatDoorQV
import Derived.Test.YtkjoohnndobjeaaGreatDoorNumShelf2
import Derived.Shelf.Strings.BuilderK
import Derived.Test.YtkjoohnndobjeaaGreatDoorQH
set_option linter.unusedVariables false
namespace Go.Proofs.YtkjoohnndobjeaaGreatDoor
open Go.RowKit Go.Fl Go.Fl.Nm Go.Fl.Dy Go.Fl.Rt Go.Fl.Fm
/-- A builder in block b that holds the bytes l; what it owns lies from B on. -/
def Bd (B b : Nat) (l : List UInt8) (w : World) : Prop := Lib.IsBuilderF 87 5 B b (Lib.byteCells l) w
/-- What a write leaves as it was. -/
structure Kept (B b : Nat) (w w' : World) : Prop where
  below : Below B w w'
  others : Lib.OthersKept 5 (some b) w w'
theorem Kept.refl (B b : Nat) (w : World) : Kept B b w w := ⟨Below.refl _ _, Lib.OthersKept.refl _ _ _⟩
theorem Kept.trans {B b : Nat} {a c d : World} (h : Kept B b a c) (k : Kept B b c d) : Kept B b a d := ⟨h.below.trans k.below, h.others.trans k.others⟩
theorem Kept.of {B b : Nat} {w w' : World} (h : Below w.heap.size w w') (hB : B ≤ w.heap.size) : Kept B b w w' :=
 ⟨h.mono hB, fun k o hk _ _ => (h.block k (Array.getElem?_eq_some_iff.1 hk).1).trans hk⟩
theorem Kept.size {B b : Nat} {w w' : World} (h : Kept B b w w') : w.heap.size ≤ w'.heap.size := h.below.size
theorem Blk.kept {B b g : Nat} {t : TypeId} {cs : Array Value} {w w' : World} (h : Blk w g t cs) (k : Kept B b w w') (hg : g ≠ b) (ht : t ≠ 5) : Blk w' g t cs :=
 k.others g _ h (fun e => hg (Option.some.inj e)) (fun c fz e => ht (by injection e))
theorem BdAt.belowW {B b : Nat} {p : Value} {bs : List Value} {w w' : World} (h : Lib.BuilderAtF 87 5 B b p bs w) (hb : Below w.heap.size w w') : Lib.BuilderAtF 87 5 B b p bs w' := by
 obtain ⟨hB, v, hk, hown, hne⟩ := h
 refine ⟨hB, v, (hb.block b (Array.getElem?_eq_some_iff.1 hk).1).trans hk, hown.kept (row := none) ⟨hb.os, hb.tape, hb.output, hb.size, fun k hk _ => hb.block k hk⟩ ?_, hne⟩
 cases v.ownBlock with
 | none => exact .inl rfl
 | some k => exact .inr (by simp)
theorem BdAt.b9 {B b : Nat} {p : Value} {bs : List Value} {w w' : World} (h : Lib.BuilderAtF 87 5 B b p bs w) (hb : Go.RowKit.Hid (Go.RowKit.Below w.heap.size w w')) : Go.RowKit.Hid (Lib.BuilderAtF 87 5 B b p bs w') := hI (BdAt.belowW h hb.out)
theorem Bd.belowW {B b : Nat} {l : List UInt8} {w w' : World} (h : Bd B b l w) (hb : Below w.heap.size w w') : Bd B b l w' := by
 rcases h with h | h
 ·
  exact .inl (BdAt.belowW h hb)
 exact .inr (BdAt.belowW h hb)
theorem Bd.b9 {B b : Nat} {l : List UInt8} {w w' : World} (h : Bd B b l w) (hb : Go.RowKit.Hid (Go.RowKit.Below w.heap.size w w')) : Go.RowKit.Hid (Bd B b l w') := hI (Bd.belowW h hb.out)
theorem Bd.fresh (w : World) : Bd w.heap.size w.heap.size [] (w.alloc (.cells #[.pointer none, .slice none 0 0] 87)) := Lib.IsBuilderF.of (Lib.fresh_isBuilder _ _ w)
theorem ws_any (B b : Nat) (l : List UInt8) (T : ByteArray) (w : World) (hb : Bd B b l w) (hl : l.length + T.size ≤ 140737488355328) (hB : B ≤ w.heap.size) :
    Calls Tryz.prog 36 #[.pointer (some ⟨b, 0, none⟩), .string T] w fun e w' => e = .returned (.tuple #[.int .i64 T.size, .nilIface]) ∧ Hid (Bd B b (l ++ T.data.toList) w') ∧ Hid (Kept B b w w') :=
  (Any.Builder_WriteString_k { Tryz.lays156 with } Tryz.Builder_Extra_156 B b (Lib.byteCells l) T w hb (by rw [Lib.byteCells_length]; exact hl) hB).mono (by
    rintro e w' ⟨rfl, h1, h2, h3⟩
    refine ⟨rfl, ?_, hI ⟨h2, h3⟩⟩
    unfold Hid Bd
    rw [Lib.byteCells_append]
    exact .inr h1)
theorem bstr_any (B b : Nat) (l : List UInt8) (w : World) (hb : Bd B b l w) (hB : B ≤ w.heap.size) :
    Calls Tryz.prog 38 #[.pointer (some ⟨b, 0, none⟩)] w fun e w' => e = .returned (.string ⟨l.toArray⟩) ∧ Hid (Kept B b w w') :=
  (Any.Builder_String_any_k { Tryz.lays156 with } Tryz.Builder_Extra_156 B b l w hb hB).mono (by
    rintro e w' ⟨rfl, h1, h2, h3⟩
    exact ⟨rfl, hI ⟨h2, h3⟩⟩)
theorem blen_any (B b : Nat) (l : List UInt8) (w : World) (hb : Bd B b l w) :
 Calls Tryz.prog 37 #[.pointer (some ⟨b, 0, none⟩)] w fun e w' => e = .returned (.int .i64 (l.length : Nat)) ∧ w' = w := by
 obtain ⟨p, hB, v, hbk, hown, hne⟩ : ∃ p, Lib.BuilderAtF 87 5 B b p (Lib.byteCells l) w := by
  rcases hb with h | h
  ·
   exact ⟨_, h⟩
  exact ⟨_, h⟩
 rw [Lib.byteCells_length] at hown
 obtain ⟨ao, cap, rfl⟩ : ∃ ao cap, v = .slice ao l.length cap := by
  rcases hown.2 with ⟨hv, h0⟩ | ⟨g, cap, cur, fz, hv, _⟩
  ·
   exact ⟨none, 0, by rw [hv, h0]⟩
  exact ⟨_, _, hv⟩
 have c1 : w.cell? ⟨b, 1, none⟩ = some (.slice ao l.length cap) := by rw [Lib.cell_of_heap hbk]; rfl
 clear hbk hown hne
 go_enter Tryz.func37, Tryz.ntmps37
 go_wp2_with fail
 go_ret
 exact ⟨rfl, rfl⟩
theorem take_le {α : Type} (l : List α) (j : Nat) : (l.take j).length ≤ l.length := by rw [List.length_take]; exact Nat.min_le_right _ _
end Go.Proofs.YtkjoohnndobjeaaGreatDoor
