/-
  A block that is known whole, and the world in which it is written. Of no program.
-/
import Derived.Test.YtlmflomonbcjiaaDoorBase
namespace Go.Fl
open Go.RowKit

/-- Block g is just the cells cs of element type t, none frozen. -/
def Blk (w : World) (g : Nat) (t : TypeId) (cs : Array Value) : Prop := w.heap[g]? = some (.cells cs t (0, 0))
/-- The world with block g written anew. -/
def putB (w : World) (g : Nat) (t : TypeId) (cs : Array Value) : World := { w with heap := w.heap.setIfInBounds g (.cells cs t (0, 0)) }

section
variable {w w' : World} {g : Nat} {t : TypeId} {cs cs' : Array Value}
theorem Blk.lt (h : Blk w g t cs) : g < w.heap.size := by
  rcases Nat.lt_or_ge g w.heap.size with hlt | hge
  · exact hlt
  · unfold Blk at h; rw [Array.getElem?_eq_none hge] at h; cases h
theorem Blk.cell (h : Blk w g t cs) (i : Nat) : w.cell? ⟨g, i, none⟩ = cs[i]? := cell_of_row w g i cs t (0, 0) h
theorem Blk.frozen (h : Blk w g t cs) (i : Nat) : w.frozen? ⟨g, i, none⟩ = false := by
  unfold Blk at h
  simp [World.frozen?, h]
theorem Blk.put (h : Blk w g t cs) (cs' : Array Value) : Blk (putB w g t cs') g t cs' := by
  have := h.lt
  unfold Blk putB
  simp [this]
theorem Blk.setCell_eq (h : Blk w g t cs) (i : Nat) (v : Value) : w.setCell ⟨g, i, none⟩ v = putB w g t (cs.setIfInBounds i v) := by
  have hlt := h.lt
  unfold Blk at h
  unfold putB World.setCell
  congr 1
  apply Array.ext_getElem?
  intro k
  rw [Array.getElem?_modify, Array.getElem?_setIfInBounds]
  by_cases hk : g = k
  · subst hk; rw [if_pos rfl, if_pos rfl, if_pos hlt, h]; rfl
  · simp [hk]
theorem putB_putB (w : World) (g : Nat) (t : TypeId) (cs cs' : Array Value) : putB (putB w g t cs) g t cs' = putB w g t cs' := by
  unfold putB
  simp
theorem Blk.put_self (h : Blk w g t cs) : putB w g t cs = w := by
  have hlt := h.lt
  unfold Blk at h
  unfold putB
  have : w.heap.setIfInBounds g (.cells cs t (0, 0)) = w.heap := by
    apply Array.ext_getElem?
    intro k
    rw [Array.getElem?_setIfInBounds]
    by_cases hk : g = k
    · subst hk; rw [if_pos rfl, if_pos hlt, h]
    · simp [hk]
  rw [this]
theorem putB_size (w : World) (g : Nat) (t : TypeId) (cs : Array Value) : (putB w g t cs).heap.size = w.heap.size := by simp [putB]
theorem putB_grown (w : World) (g : Nat) (t : TypeId) (cs : Array Value) : w.grownBy (putB w g t cs) (some g) :=
  ⟨rfl, rfl, rfl, by simp [putB], fun k _ hk => by
    unfold putB
    rw [Array.getElem?_setIfInBounds, if_neg (fun e => hk (by rw [e]))]⟩
theorem putB_below {B : Nat} (w : World) (g : Nat) (t : TypeId) (cs : Array Value) (h : B ≤ g) : Below B w (putB w g t cs) :=
  ⟨rfl, rfl, rfl, by simp [putB], fun k hk => by
    unfold putB
    rw [Array.getElem?_setIfInBounds, if_neg (by omega)]⟩
theorem Blk.drewN (h : Blk w g t cs) (n : Nat) : Blk (w.drewN n) g t cs := h
theorem Blk.drew (h : Blk w g t cs) : Blk w.drew g t cs := h
theorem Blk.new (w : World) (t : TypeId) (cs : Array Value) : Blk (w.alloc (.cells cs t)) w.heap.size t cs := heap_alloc_new w _
theorem Blk.alloc (h : Blk w g t cs) (o : Obj) : Blk (w.alloc o) g t cs := (Below.heap_alloc w o g h.lt).trans h
theorem Blk.below {B : Nat} (h : Blk w g t cs) (hb : Below B w w') (hg : g < B) : Blk w' g t cs := (hb.block g hg).trans h
theorem Blk.grown {row : Option Nat} (h : Blk w g t cs) (hb : w.grownBy w' row) (hg : some g ≠ row) : Blk w' g t cs := (hb.block g h.lt hg).trans h
theorem Blk.far {g' : Nat} {t' : TypeId} (h : Blk w g t cs) (hp : g ≠ g') (cs' : Array Value) : Blk (putB w g' t' cs') g t cs := by
  unfold Blk putB at *
  rw [Array.getElem?_setIfInBounds, if_neg (fun e => hp e.symm)]
  exact h
theorem own_putB {base size n : Nat} {e : TypeId} {v : Value} {xs : List Value} (h : w.ownsRow base e size v n xs) (hg : g < base) (t : TypeId) (cs : Array Value) : (putB w g t cs).ownsRow base e size v n xs :=
  h.kept (putB_grown w g t cs) (by
    cases hv : v.ownBlock with
    | none => exact .inl rfl
    | some k =>
      right
      intro e
      have := (h.lt k hv).1
      injection e with e
      omega)
theorem only_drew {a x : World} {row : Option Nat} (h : a.grownBy x row) : a.grownBy x.drew row := ⟨h.os, h.tape, h.output, h.size, h.block⟩
theorem only_drewN {a x : World} {row : Option Nat} (h : a.grownBy x row) (n : Nat) : a.grownBy (x.drewN n) row := ⟨h.os, h.tape, h.output, h.size, h.block⟩
theorem only_drewN_alloc (x : World) (n : Nat) (o : Obj) (row : Option Nat) : x.grownBy ((x.drewN n).alloc o) row :=
  have h := World.grownBy_alloc (x.drewN n) o row
  ⟨h.os, h.tape, h.output, h.size, h.block⟩
theorem below_drewN {B : Nat} {a x : World} (h : Below B a x) (n : Nat) : Below B a (x.drewN n) := ⟨h.os, h.tape, h.output, h.size, h.block⟩
end
theorem tw_lt (p : UInt8 → Bool) (s : ByteArray) (i n k : Nat) (hn : n = ((s.data.toList.drop i).takeWhile p).length) (h1 : i ≤ k) (h2 : k < i + n) (hk : k < s.size) : p s[k] = true := by
  have hlt : k - i < ((s.data.toList.drop i).takeWhile p).length := by omega
  have hm : ((s.data.toList.drop i).takeWhile p)[k - i] ∈ (s.data.toList.drop i).takeWhile p := List.getElem_mem hlt
  have hall := List.all_takeWhile (p := p) (l := s.data.toList.drop i)
  rw [List.all_eq_true] at hall
  have h := hall _ hm
  have e : ((s.data.toList.drop i).takeWhile p)[k - i] = s[k] := by
    have h1' := (take_takeWhile p (s.data.toList.drop i)).1
    have : ((s.data.toList.drop i).takeWhile p)[k - i]? = s.data.toList[k]? := by
      rw [← h1', List.getElem?_take_of_lt hlt, List.getElem?_drop]
      congr 1; omega
    rw [List.getElem?_eq_getElem hlt, List.getElem?_eq_getElem (by simpa using hk)] at this
    injection this
  rw [e] at h
  exact h
theorem tw_end (p : UInt8 → Bool) (s : ByteArray) (i n : Nat) (hn : n = ((s.data.toList.drop i).takeWhile p).length) (hk : i + n < s.size) : p s[i + n] = false := by
  have h2 := (take_takeWhile p (s.data.toList.drop i)).2
  rw [← hn, List.drop_drop, drop_cons s (i + n) hk] at h2
  cases hb : p s[i + n] with
  | false => rfl
  | true =>
    have := List.head?_dropWhile_not (p := p) (l := s.data.toList.drop i)
    rw [← h2] at this
    simp [hb] at this
end Go.Fl
