/-
  Base of the walks: the imports, and small facts that belong to no program.
  A block that is known whole, and the world in which it is written. Of no program.
  A slice that reads as a list of cells. Of no program.
  append onto a row of the call's own, from a slice that reads as a list. Of no program.
  An argument that is a slice of integers, opened to a list. Of no program.
-/
import Derived.WalkKit
import Derived.WalkSpells
import Derived.WalkLawsBesides
import Derived.BigQuiet
import Derived.Deep.QuietTactic
import Derived.Lib.Hide
import Derived.Lib.Bytealg
import Derived.Deep.AppendLies
import Derived.Maps.AppendAt
import Derived.ChangeSlices
import Derived.ChangeSame
import Derived.ChangeOld
set_option linter.unusedVariables false
namespace Go.Fl
open Go.RowKit

theorem indexByte_nonneg (l : List UInt8) (c : UInt8) : 0 ≤ Lib.indexByte l c ↔ c ∈ l := by
  induction l with
  | nil => simp [Lib.indexByte]
  | cons b l ih =>
    have := Lib.indexByte_ge l c
    unfold Lib.indexByte
    split
    · rename_i h; simp at h; simp [h]
    · rename_i h
      simp at h
      rw [List.mem_cons]
      split
      · rename_i h2; simp at h2; rw [h2] at ih; simp at ih; simp [ih, Ne.symm h]
      · rename_i h2; simp at h2
        have : 0 ≤ Lib.indexByte l c := by omega
        simp [ih.1 this]; omega

theorem take_snoc (s : ByteArray) (k : Nat) (h : k < s.size) : s.data.toList.take (k + 1) = s.data.toList.take k ++ [s[k]] := by
  rw [List.take_succ_eq_append_getElem (by simpa using h)]; rfl
theorem drop_cons (s : ByteArray) (k : Nat) (h : k < s.size) : s.data.toList.drop k = s[k] :: s.data.toList.drop (k + 1) := by
  rw [List.drop_eq_getElem_cons (by simpa using h)]; rfl
theorem take_all (s : ByteArray) (k : Nat) (h : ¬ k < s.size) : s.data.toList.take k = s.data.toList := List.take_of_length_le (by simp; omega)
theorem length_data (s : ByteArray) : s.data.toList.length = s.size := by simp
theorem ret_bool {a b : Bool} (h : a = b) : Ending.returned (.bool a) = .returned (.bool b) := by rw [h]
theorem ret_int {k : IntKind} {a b : Int} (h : a = b) : Ending.returned (.int k a) = .returned (.int k b) := by rw [h]
theorem isEmpty_data (s : ByteArray) : s.toList.isEmpty = s.data.toList.isEmpty := by rw [ByteArray.toList_eq]
theorem getElem_data (s : ByteArray) (k : Nat) (h : k < s.size) : s.data.toList[k]'(by simpa using h) = s[k] := rfl
theorem indexByte_spec (l : List UInt8) (c : UInt8) :
    (c ∉ l ∧ Lib.indexByte l c = -1) ∨ (c ∈ l ∧ ∃ i : Nat, Lib.indexByte l c = i ∧ i < l.length ∧ l.takeWhile (· != c) = l.take i ∧ l.dropWhile (· != c) = l.drop i ∧ l.drop i = c :: l.drop (i + 1)) := by
  induction l with
  | nil => left; simp [Lib.indexByte]
  | cons b l ih =>
    by_cases h : b = c
    · right
      subst h
      exact ⟨by simp, 0, by simp [Lib.indexByte], by simp, by simp, by simp, by simp⟩
    · have hb : (b == c) = false := by simpa using h
      have hn : (b != c) = true := by simpa using h
      rcases ih with ⟨h1, h2⟩ | ⟨h1, i, h2, h3, h4, h5, h6⟩
      · left
        refine ⟨by simp [h1, Ne.symm h], ?_⟩
        simp [Lib.indexByte, hb, h2]
      · right
        refine ⟨by simp [h1], i + 1, ?_, by simp; omega, ?_, ?_, ?_⟩
        · simp only [Lib.indexByte, hb, h2]
          have : ((i : Int) == -1) = false := by rw [beq_eq_false_iff_ne]; omega
          simp [this]
        · rw [List.takeWhile_cons, hn]; simp [h4]
        · rw [List.dropWhile_cons, hn]; simp [h5]
        · simpa using h6
theorem takeWhile_not_mem (l : List UInt8) (c : UInt8) (h : c ∉ l) : l.takeWhile (· != c) = l ∧ l.dropWhile (· != c) = [] := by
  induction l with
  | nil => simp
  | cons b l ih =>
    simp only [List.mem_cons, not_or] at h
    have hn : (b != c) = true := by rw [bne_iff_ne]; exact fun e => h.1 e.symm
    rw [List.takeWhile_cons, List.dropWhile_cons, hn]
    simp [ih h.2]
theorem takeWhile_len_stop {p : UInt8 → Bool} (s : ByteArray) (k : Nat) (h : k < s.size) (hall : (s.data.toList.take k).all p = true) (hs : p s[k] = false) : (s.data.toList.takeWhile p).length = k := by
  have e := List.take_append_drop k s.data.toList
  have h1 : ∀ x ∈ s.data.toList.take k, p x = true := fun x hx => List.all_eq_true.1 hall x hx
  rw [← e, List.takeWhile_append_of_pos h1, drop_cons s k h, List.takeWhile_cons, hs]
  simp
  omega
theorem takeWhile_len_all {p : UInt8 → Bool} (s : ByteArray) (hall : s.data.toList.all p = true) : (s.data.toList.takeWhile p).length = s.size := by
  have h1 : ∀ x ∈ s.data.toList, p x = true := fun x hx => List.all_eq_true.1 hall x hx
  have := List.takeWhile_append_of_pos (l₂ := []) h1
  simp only [List.append_nil, List.takeWhile_nil] at this
  rw [this]; simp
theorem take_takeWhile (p : UInt8 → Bool) (l : List UInt8) : l.take (l.takeWhile p).length = l.takeWhile p ∧ l.drop (l.takeWhile p).length = l.dropWhile p := by
  have e := List.takeWhile_append_dropWhile (p := p) (l := l)
  refine ⟨?_, ?_⟩
  · conv => lhs; arg 2; rw [← e]
    rw [List.take_left]
  · conv => lhs; arg 2; rw [← e]
    rw [List.drop_left]
theorem takeWhile_le (p : UInt8 → Bool) (l : List UInt8) : (l.takeWhile p).length ≤ l.length := by
  have e := congrArg List.length (List.takeWhile_append_dropWhile (p := p) (l := l))
  rw [List.length_append] at e
  omega
end Go.Fl
namespace Go.Fl
open Go.RowKit

/-- Block g is just the cells cs of element type t, none frozen. -/
def Blk (w : World) (g : Nat) (t : TypeId) (cs : Array Value) : Prop := w.heap[g]? = some (.cells cs t (0, 0))
/-- The world with block g written anew. -/
def putB (w : World) (g : Nat) (t : TypeId) (cs : Array Value) : World := { w with heap := w.heap.setIfInBounds g (.cells cs t (0, 0)) }

section
variable {w w' : World} {g : Nat} {t : TypeId} {cs cs' : Array Value}
theorem Blk.lt (h : Blk w g t cs) : g < w.heap.size := by
  rcases Nat.lt_or_ge g w.heap.size with hlt | hge
  · exact hlt
  · unfold Blk at h; rw [Array.getElem?_eq_none hge] at h; cases h
theorem Blk.cell (h : Blk w g t cs) (i : Nat) : w.cell? ⟨g, i, none⟩ = cs[i]? := cell_of_row w g i cs t (0, 0) h
theorem Blk.frozen (h : Blk w g t cs) (i : Nat) : w.frozen? ⟨g, i, none⟩ = false := by
  unfold Blk at h
  simp [World.frozen?, h]
theorem Blk.put (h : Blk w g t cs) (cs' : Array Value) : Blk (putB w g t cs') g t cs' := by
  have := h.lt
  unfold Blk putB
  simp [this]
theorem Blk.setCell_eq (h : Blk w g t cs) (i : Nat) (v : Value) : w.setCell ⟨g, i, none⟩ v = putB w g t (cs.setIfInBounds i v) := by
  have hlt := h.lt
  unfold Blk at h
  unfold putB World.setCell
  congr 1
  apply Array.ext_getElem?
  intro k
  rw [Array.getElem?_modify, Array.getElem?_setIfInBounds]
  by_cases hk : g = k
  · subst hk; rw [if_pos rfl, if_pos rfl, if_pos hlt, h]; rfl
  · simp [hk]
theorem putB_putB (w : World) (g : Nat) (t : TypeId) (cs cs' : Array Value) : putB (putB w g t cs) g t cs' = putB w g t cs' := by
  unfold putB
  simp
theorem Blk.put_self (h : Blk w g t cs) : putB w g t cs = w := by
  have hlt := h.lt
  unfold Blk at h
  unfold putB
  have : w.heap.setIfInBounds g (.cells cs t (0, 0)) = w.heap := by
    apply Array.ext_getElem?
    intro k
    rw [Array.getElem?_setIfInBounds]
    by_cases hk : g = k
    · subst hk; rw [if_pos rfl, if_pos hlt, h]
    · simp [hk]
  rw [this]
theorem putB_size (w : World) (g : Nat) (t : TypeId) (cs : Array Value) : (putB w g t cs).heap.size = w.heap.size := by simp [putB]
theorem putB_grown (w : World) (g : Nat) (t : TypeId) (cs : Array Value) : w.grownBy (putB w g t cs) (some g) :=
  ⟨rfl, rfl, rfl, by simp [putB], fun k _ hk => by
    unfold putB
    rw [Array.getElem?_setIfInBounds, if_neg (fun e => hk (by rw [e]))]⟩
theorem putB_below {B : Nat} (w : World) (g : Nat) (t : TypeId) (cs : Array Value) (h : B ≤ g) : Below B w (putB w g t cs) :=
  ⟨rfl, rfl, rfl, by simp [putB], fun k hk => by
    unfold putB
    rw [Array.getElem?_setIfInBounds, if_neg (by omega)]⟩
theorem Blk.drewN (h : Blk w g t cs) (n : Nat) : Blk (w.drewN n) g t cs := h
theorem Blk.drew (h : Blk w g t cs) : Blk w.drew g t cs := h
theorem Blk.new (w : World) (t : TypeId) (cs : Array Value) : Blk (w.alloc (.cells cs t)) w.heap.size t cs := heap_alloc_new w _
theorem Blk.alloc (h : Blk w g t cs) (o : Obj) : Blk (w.alloc o) g t cs := (Below.heap_alloc w o g h.lt).trans h
theorem Blk.below {B : Nat} (h : Blk w g t cs) (hb : Below B w w') (hg : g < B) : Blk w' g t cs := (hb.block g hg).trans h
theorem Blk.grown {row : Option Nat} (h : Blk w g t cs) (hb : w.grownBy w' row) (hg : some g ≠ row) : Blk w' g t cs := (hb.block g h.lt hg).trans h
theorem Blk.far {g' : Nat} {t' : TypeId} (h : Blk w g t cs) (hp : g ≠ g') (cs' : Array Value) : Blk (putB w g' t' cs') g t cs := by
  unfold Blk putB at *
  rw [Array.getElem?_setIfInBounds, if_neg (fun e => hp e.symm)]
  exact h
theorem own_putB {base size n : Nat} {e : TypeId} {v : Value} {xs : List Value} (h : w.ownsRow base e size v n xs) (hg : g < base) (t : TypeId) (cs : Array Value) : (putB w g t cs).ownsRow base e size v n xs :=
  h.kept (putB_grown w g t cs) (by
    cases hv : v.ownBlock with
    | none => exact .inl rfl
    | some k =>
      right
      intro e
      have := (h.lt k hv).1
      injection e with e
      omega)
theorem only_drew {a x : World} {row : Option Nat} (h : a.grownBy x row) : a.grownBy x.drew row := ⟨h.os, h.tape, h.output, h.size, h.block⟩
theorem only_drewN {a x : World} {row : Option Nat} (h : a.grownBy x row) (n : Nat) : a.grownBy (x.drewN n) row := ⟨h.os, h.tape, h.output, h.size, h.block⟩
theorem only_drewN_alloc (x : World) (n : Nat) (o : Obj) (row : Option Nat) : x.grownBy ((x.drewN n).alloc o) row :=
  have h := World.grownBy_alloc (x.drewN n) o row
  ⟨h.os, h.tape, h.output, h.size, h.block⟩
theorem below_drewN {B : Nat} {a x : World} (h : Below B a x) (n : Nat) : Below B a (x.drewN n) := ⟨h.os, h.tape, h.output, h.size, h.block⟩
end
theorem tw_lt (p : UInt8 → Bool) (s : ByteArray) (i n k : Nat) (hn : n = ((s.data.toList.drop i).takeWhile p).length) (h1 : i ≤ k) (h2 : k < i + n) (hk : k < s.size) : p s[k] = true := by
  have hlt : k - i < ((s.data.toList.drop i).takeWhile p).length := by omega
  have hm : ((s.data.toList.drop i).takeWhile p)[k - i] ∈ (s.data.toList.drop i).takeWhile p := List.getElem_mem hlt
  have hall := List.all_takeWhile (p := p) (l := s.data.toList.drop i)
  rw [List.all_eq_true] at hall
  have h := hall _ hm
  have e : ((s.data.toList.drop i).takeWhile p)[k - i] = s[k] := by
    have h1' := (take_takeWhile p (s.data.toList.drop i)).1
    have : ((s.data.toList.drop i).takeWhile p)[k - i]? = s.data.toList[k]? := by
      rw [← h1', List.getElem?_take_of_lt hlt, List.getElem?_drop]
      congr 1; omega
    rw [List.getElem?_eq_getElem hlt, List.getElem?_eq_getElem (by simpa using hk)] at this
    injection this
  rw [e] at h
  exact h
theorem tw_end (p : UInt8 → Bool) (s : ByteArray) (i n : Nat) (hn : n = ((s.data.toList.drop i).takeWhile p).length) (hk : i + n < s.size) : p s[i + n] = false := by
  have h2 := (take_takeWhile p (s.data.toList.drop i)).2
  rw [← hn, List.drop_drop, drop_cons s (i + n) hk] at h2
  cases hb : p s[i + n] with
  | false => rfl
  | true =>
    have := List.head?_dropWhile_not (p := p) (l := s.data.toList.drop i)
    rw [← h2] at this
    simp [hb] at this
end Go.Fl
namespace Go.Fl
open Go.RowKit

/-- The slice value with the address A and n elements of 'size' cells each holds the cells xs. -/
def Rd (w : World) (size : Nat) (A : Option Addr) (n : Nat) (xs : List Value) : Prop :=
  xs.length = n * size ∧ (0 < n → ∃ b off, A = some ⟨b, off, none⟩ ∧ b < w.heap.size ∧ ∀ j u, xs[j]? = some u → w.cell? ⟨b, off + j, none⟩ = some u)

section
variable {w w' : World} {size n : Nat} {A : Option Addr} {xs : List Value}
theorem Rd.at_ (h : Rd w size A n xs) (hn : 0 < n) : ∃ b off, A = some ⟨b, off, none⟩ ∧ b < w.heap.size ∧ ∀ j u, xs[j]? = some u → w.cell? ⟨b, off + j, none⟩ = some u := h.2 hn
theorem Rd.keep (h : Rd w size A n xs) (hs : w.heap.size ≤ w'.heap.size) (hk : ∀ b off, b < w.heap.size → w'.cell? ⟨b, off, none⟩ = w.cell? ⟨b, off, none⟩) : Rd w' size A n xs :=
  ⟨h.1, fun hn => by
    obtain ⟨b, off, e, hb, hc⟩ := h.2 hn
    exact ⟨b, off, e, by omega, fun j u hu => (hk _ _ hb).trans (hc j u hu)⟩⟩
theorem Rd.below (h : Rd w size A n xs) (hb : Below w.heap.size w w') : Rd w' size A n xs := h.keep hb.size fun _ _ hp => hb.cell (p := ⟨_, _, none⟩) hp
theorem Rd.drewN (h : Rd w size A n xs) (k : Nat) : Rd (w.drewN k) size A n xs := h
theorem Rd.alloc (h : Rd w size A n xs) (o : Obj) : Rd (w.alloc o) size A n xs := h.keep (by simp) fun b off hp => World.cell?_alloc_lt w o ⟨b, off, none⟩ hp
theorem Rd.none_ (w : World) (size : Nat) : Rd w size none 0 [] := ⟨by simp, fun h => absurd h (by omega)⟩
theorem Rd.of_own {base : Nat} {e : TypeId} {v : Value} (h : w.ownsRow base e size v n xs) : ∃ A c, v = .slice A n c ∧ Rd w size A n xs ∧ n ≤ c ∧ c ≤ maxLen := by
  rcases h.2 with ⟨rfl, rfl⟩ | ⟨g, cap, cur, rfl, hb, hg, hnc, hcm, _, _⟩
  · have := h.1
    simp at this
    subst this
    exact ⟨none, 0, rfl, Rd.none_ w size, by omega, by unfold maxLen; omega⟩
  · refine ⟨_, cap, rfl, ⟨h.1, fun _ => ⟨g, 0, rfl, (Array.getElem?_eq_some_iff.1 hg).1, fun j u hu => ?_⟩⟩, hnc, hcm⟩
    have := h.cells (g := g) rfl j u hu
    rw [Addr.add_lit] at this
    exact this
end
end Go.Fl
namespace Go.Fl
open Go.RowKit

section
variable {P : Program} (w : World)
theorem run_append_rd (base : Nat) (t ty e : TypeId) (i : TypeInfo) (z : Value) (size bytes : Nat) (ht : P.underlying t = some (.slice e)) (hi : P.info? e = some i) (hz : i.zero = some z)
    (hsize : i.size = size) (hby : i.bytes = bytes) (hzs : z.cells.size = size) (hsz : 0 < size)
    (v : Value) (n : Nat) (xs : List Value) (hown : w.ownsRow base e size v n xs) (A : Option Addr) (m c : Nat) (hc : A = none → c = 0) (news : List Value) (hr : Rd w size A m news)
    (h1 : ∀ u ∈ news, u.oneCell' = true) (h63 : n + m ≤ maxLen) (hbytes : (n + m) * bytes ≤ 140737488355328) (hbase : base ≤ w.heap.size) :
    ∃ v' w', (Builtin.append_ #[t, t] ty #[v, .slice A m c]).run P w = .ok v' w' ∧ w'.ownsRow base e size v' (n + m) (xs ++ news) ∧ w.grownBy w' v.ownBlock := by
  cases A with
  | none =>
    have hm : m = 0 := by
      rcases Nat.eq_zero_or_pos m with h | h
      · exact h
      · obtain ⟨b, off, h2, _⟩ := hr.2 h; cases h2
    subst hm
    have hn : news = [] := List.eq_nil_of_length_eq_zero (by simpa using hr.1)
    subst hn
    have := hc rfl
    subst this
    exact ⟨v, w, run_append_owned_none (P := P) w base t ty e i size ht hi v n xs hown, by simpa using hown, World.grownBy.refl w _⟩
  | some ad =>
    have hcells : ∀ j u, news[j]? = some u → w.cell? (ad.add j) = some u := by
      intro j u hu
      rcases Nat.eq_zero_or_pos m with h0 | h0
      · subst h0
        have hn : news = [] := List.eq_nil_of_length_eq_zero (by simpa using hr.1)
        subst hn
        simp at hu
      · obtain ⟨b, off, h, _, hcc⟩ := hr.2 h0
        injection h with h
        subst h
        rw [Addr.add_lit]
        exact hcc j u hu
    obtain ⟨v', w', hrun, h2, h3, _⟩ := run_append_own_at (P := P) w base t ty e i z size bytes ht hi hz hsize hby hzs hsz v n xs hown ad m c news hr.1 hcells h1 h63 hbytes hbase
    exact ⟨v', w', hrun, h2, h3⟩

theorem wpList_append_rd {ops : Array Oper} {rest : List Oper} {o : Oper} {a : Act} {Q : Exit → Act → World → Prop} (hw : Region.wanted o (yielded ops a.tmps) = true) (s x : Operand) (t : TypeId)
    (ho : o.op = .call { callee := .builtin .append, args := #[s, x], argTypes := #[t, t] })
    (base : Nat) (e : TypeId) (i : TypeInfo) (z : Value) (size bytes : Nat) (ht : P.underlying t = some (.slice e)) (hi : P.info? e = some i) (hz : i.zero = some z)
    (hsize : i.size = size) (hby : i.bytes = bytes) (hzs : z.cells.size = size) (hsz : 0 < size)
    (v : Value) (n : Nat) (xs : List Value) (hs : a.eval s = v) (hown : w.ownsRow base e size v n xs)
    (A : Option Addr) (m c : Nat) (hc : A = none → c = 0) (news : List Value) (hx : a.eval x = .slice A m c) (hr : Rd w size A m news) (h1 : ∀ u ∈ news, u.oneCell' = true)
    (h63 : n + m ≤ maxLen) (hbytes : (n + m) * bytes ≤ 140737488355328) (hbase : base ≤ w.heap.size)
    (h : ∀ v' w', w'.ownsRow base e size v' (n + m) (xs ++ news) → w.grownBy w' v.ownBlock → wpList P ops Q rest (a.put o.dst v') w') : wpList P ops Q (o :: rest) a w := by
  refine BigFrame.wpList_want hw fun K hK => ?_
  obtain ⟨v', w', hrun, h2, h3⟩ := run_append_rd (P := P) w base t o.type e i z size bytes ht hi hz hsize hby hzs hsz v n xs hown A m c hc news hr h1 h63 hbytes hbase
  unfold Oper.wp execOp
  simp only [ho, resolve, invoke, builtin, Sem.run_bind, Sem.run_pure, Result.andThen_ok, List.map_toArray, List.map_cons, List.map_nil, hs, hx, hrun]
  exact hK _ _ (h v' w' h2 h3)
end
end Go.Fl
namespace Go.Fl
open Go.ChangeShapes Go.WideShapes Go.RowKit

section
variable {H : Type} {enc : TypeId × Value → H} {P : Program} {w : World} {base : Nat} {spare : Nat → Bool} {held : Bool}

theorem open_ints_rd {t e : TypeId} {k : IntKind} {fuel : Nat} {a : Option Addr} {len cap : Nat} {x : DataW H × List MemPlace} (ht : P.underlying t = some (.slice e)) (he : P.underlying e = some (.int k)) (hc : P.cellsOf e = 1)
    (h : DataW.trod enc P w base spare held fuel t [.slice a len cap] = some x) :
    len ≤ maxLen ∧ len ≤ cap ∧ cap ≤ maxLen ∧ (a = none → cap = 0) ∧ ∃ zs : List Int, zs.length = len ∧ (∀ z ∈ zs, (Lit.int k z).wf = true) ∧ Rd w 1 a len (zs.map (Value.int k)) := by
  rcases open_ints ht he hc h with ⟨hcs, _⟩ | ⟨ad, l, c, zs, hcs, hb, hl, hm, hlen, _, hcell, hwf⟩
  · injection hcs with hcs
    injection hcs with h1 h2 h3
    subst h1 h2 h3
    exact ⟨by omega, by omega, by unfold maxLen; omega, fun _ => rfl, [], rfl, by simp, Rd.none_ _ _⟩
  · injection hcs with hcs
    injection hcs with h1 h2 h3
    subst h1 h2 h3
    have hlz : len ≤ zs.length := by rw [hlen]; split <;> omega
    refine ⟨by omega, hl, hm, fun h => (by cases h), zs.take len, by simp; omega, fun z hz => hwf z (List.mem_of_mem_take hz), ⟨by simp; omega, fun h0 => ?_⟩⟩
    have h00 := hcell 0 (by omega)
    have hspot : ad.spot = none ∧ ad.block < w.heap.size := by
      simp only [Addr.add, if_pos] at h00
      unfold World.cell? at h00
      split at h00
      · rename_i c e f hh
        refine ⟨?_, (Array.getElem?_eq_some_iff.1 hh).1⟩
        split at h00
        · cases h00
        · rename_i hs
          simpa using hs
      · cases h00
    obtain ⟨b, off, sp⟩ := ad
    obtain ⟨rfl, hbl⟩ : sp = none ∧ b < w.heap.size := hspot
    refine ⟨b, off, rfl, hbl, fun j u hu => ?_⟩
    rw [List.getElem?_map] at hu
    have hj : j < len := by
      rcases Nat.lt_or_ge j len with h | h
      · exact h
      · rw [List.getElem?_eq_none (by simp; omega)] at hu; cases hu
    rw [List.getElem?_take_of_lt hj, List.getElem?_eq_getElem (by omega)] at hu
    simp only [Option.map_some] at hu
    injection hu with hu
    have hcj := hcell j (by omega)
    rw [Addr.add_lit] at hcj
    rw [hcj, ← hu, List.getD_eq_getElem?_getD, List.getElem?_eq_getElem (by omega)]
    rfl
end
end Go.Fl
