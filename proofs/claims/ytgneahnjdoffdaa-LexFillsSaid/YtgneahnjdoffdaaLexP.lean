/-
  The walk of LexFills.
-/
import Derived.Test.YtgneahnjdoffdaaLexN
import Derived.Test.YtgneahnjdoffdaaLexO
import Derived.Test.YtgneahnjdoffdaaLexShelf2
import Derived.StillTailTactics
import Derived.Lib.IndexAny
namespace Go.Proofs.Ytgneahnjdoffdaa
open Go.RowKit Go.Fl Go.Fl.Lx

theorem has_nl (l : List UInt8) : decide (0 ≤ Lib.indexByte l 10) = l.contains 10 := (Lib.contains_iff_indexByte l 10).symm

theorem isb_alloc {T e : TypeId} {B b : Nat} {bs : List Value} {w : World} (h : Lib.IsBuilder T e B b bs w) (o : Obj) : Lib.IsBuilder T e B b bs (w.alloc o) := by
  have key : ∀ p, Lib.BuilderAt T e B b p bs w → Lib.BuilderAt T e B b p bs (w.alloc o) := by
    rintro p ⟨h1, v, h2, h3, h4⟩
    exact ⟨h1, v, (Below.heap_alloc w o b (Array.getElem?_eq_some_iff.1 h2).1).trans h2, h3.alloc o, h4⟩
  rcases h with h | h
  · exact .inl (key _ h)
  · exact .inr (key _ h)

/-- The fills as the law lays them. -/
def fillCells (cm : ByteArray) : Array Value := #[.string ⟨#[32]⟩, .string ⟨#[10]⟩, .string ⟨#[9, 32, 13, 10]⟩, .string (⟨#[35]⟩ ++ cm ++ ⟨#[10]⟩), .string ⟨#[32, 35, 32, 35, 10, 10]⟩, .string ⟨#[32, 32]⟩]
theorem fillCells_at (cm : ByteArray) (hl : cm.size ≤ 40) (h10 : cm.data.toList.contains 10 = false) (k : Nat) (hk : k < 6) : ∃ fb : ByteArray, (fillCells cm)[k]? = some (.string fb) ∧ Fill fb.data.toList := by
  have hl' : cm.data.toList.length ≤ 40 := by rw [length_data]; exact hl
  have h10' : (10 : UInt8) ∉ cm.data.toList := by simpa using h10
  have key := fun f h => fills_fill cm.data.toList hl' h10' k f h
  match k, hk with
  | 0, _ => exact ⟨_, rfl, key _ rfl⟩
  | 1, _ => exact ⟨_, rfl, key _ rfl⟩
  | 2, _ => exact ⟨_, rfl, key _ rfl⟩
  | 3, _ => exact ⟨_, rfl, by simpa [ByteArray.data_append] using key _ rfl⟩
  | 4, _ => exact ⟨_, rfl, key _ rfl⟩
  | 5, _ => exact ⟨_, rfl, key _ rfl⟩
end Go.Proofs.Ytgneahnjdoffdaa
