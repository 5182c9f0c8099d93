/-
  Contracts of the kit's shelf at this dump: none is needed here.
  A block that is known whole, and the world in which it is written. Of no program.
  A slice that reads as a list of cells. Of no program.
  append onto a row of the call's own, from a slice that reads as a list. Of no program.
  An argument that is a slice of integers, opened to a list. Of no program.
  Slices of limbs; walks of trim, Cmp.
  Bits of words of 32 and 64 bits. Of no program.
  Walks of math/bits.Add32, Sub32, Div32.
  Contracts of the kit's shelf at this dump: written by its lay-shelf.mjs and lay-plain.mjs, cut down to what is used here (cutshelf.py).
-/
import Derived.Test.YtoogeihbhhcpaaaGreatDoorProg
import Derived.Test.YtoogeihbhhcpaaaGreatDoorPkA
import Derived.Deep.AppendLies
import Derived.Maps.AppendAt
import Derived.ChangeSlices
import Derived.ChangeSame
import Derived.ChangeOld
import Derived.Deep.LoopGhost
import Derived.Laws.BitsLemmas
import Derived.Shelf.Small.Bits
import Derived.Ground.SlgnProg
import Derived.Shelf.SlicesE.Clone
set_option linter.unusedVariables false

namespace Go.Fl
open Go.RowKit

/-- Block g is just the cells cs of element type t, none frozen. -/
def Blk (w : World) (g : Nat) (t : TypeId) (cs : Array Value) : Prop := w.heap[g]? = some (.cells cs t (0, 0))
/-- The world with block g written anew. -/
def putB (w : World) (g : Nat) (t : TypeId) (cs : Array Value) : World := { w with heap := w.heap.setIfInBounds g (.cells cs t (0, 0)) }

section
variable {w w' : World} {g : Nat} {t : TypeId} {cs cs' : Array Value}
theorem Blk.lt (h : Blk w g t cs) : g < w.heap.size := by
  rcases Nat.lt_or_ge g w.heap.size with hlt | hge
  · exact hlt
  · unfold Blk at h; rw [Array.getElem?_eq_none hge] at h; cases h
theorem Blk.cell (h : Blk w g t cs) (i : Nat) : w.cell? ⟨g, i, none⟩ = cs[i]? := cell_of_row w g i cs t (0, 0) h
theorem Blk.frozen (h : Blk w g t cs) (i : Nat) : w.frozen? ⟨g, i, none⟩ = false := by
  unfold Blk at h
  simp [World.frozen?, h]
theorem Blk.put (h : Blk w g t cs) (cs' : Array Value) : Blk (putB w g t cs') g t cs' := by
  have := h.lt
  unfold Blk putB
  simp [this]
theorem Blk.setCell_eq (h : Blk w g t cs) (i : Nat) (v : Value) : w.setCell ⟨g, i, none⟩ v = putB w g t (cs.setIfInBounds i v) := by
  have hlt := h.lt
  unfold Blk at h
  unfold putB World.setCell
  congr 1
  apply Array.ext_getElem?
  intro k
  rw [Array.getElem?_modify, Array.getElem?_setIfInBounds]
  by_cases hk : g = k
  · subst hk; rw [if_pos rfl, if_pos rfl, if_pos hlt, h]; rfl
  · simp [hk]
theorem putB_putB (w : World) (g : Nat) (t : TypeId) (cs cs' : Array Value) : putB (putB w g t cs) g t cs' = putB w g t cs' := by
  unfold putB
  simp
theorem Blk.put_self (h : Blk w g t cs) : putB w g t cs = w := by
  have hlt := h.lt
  unfold Blk at h
  unfold putB
  have : w.heap.setIfInBounds g (.cells cs t (0, 0)) = w.heap := by
    apply Array.ext_getElem?
    intro k
    rw [Array.getElem?_setIfInBounds]
    by_cases hk : g = k
    · subst hk; rw [if_pos rfl, if_pos hlt, h]
    · simp [hk]
  rw [this]
theorem putB_grown (w : World) (g : Nat) (t : TypeId) (cs : Array Value) : w.grownBy (putB w g t cs) (some g) :=
  ⟨rfl, rfl, rfl, by simp [putB], fun k _ hk => by
    unfold putB
    rw [Array.getElem?_setIfInBounds, if_neg (fun e => hk (by rw [e]))]⟩
theorem putB_below {B : Nat} (w : World) (g : Nat) (t : TypeId) (cs : Array Value) (h : B ≤ g) : Below B w (putB w g t cs) :=
  ⟨rfl, rfl, rfl, by simp [putB], fun k hk => by
    unfold putB
    rw [Array.getElem?_setIfInBounds, if_neg (by omega)]⟩
theorem Blk.drewN (h : Blk w g t cs) (n : Nat) : Blk (w.drewN n) g t cs := h
theorem Blk.drew (h : Blk w g t cs) : Blk w.drew g t cs := h
theorem Blk.new (w : World) (t : TypeId) (cs : Array Value) : Blk (w.alloc (.cells cs t)) w.heap.size t cs := heap_alloc_new w _
theorem Blk.alloc (h : Blk w g t cs) (o : Obj) : Blk (w.alloc o) g t cs := (Below.heap_alloc w o g h.lt).trans h
theorem Blk.below {B : Nat} (h : Blk w g t cs) (hb : Below B w w') (hg : g < B) : Blk w' g t cs := (hb.block g hg).trans h
theorem Blk.grown {row : Option Nat} (h : Blk w g t cs) (hb : w.grownBy w' row) (hg : some g ≠ row) : Blk w' g t cs := (hb.block g h.lt hg).trans h
theorem Blk.far {g' : Nat} {t' : TypeId} (h : Blk w g t cs) (hp : g ≠ g') (cs' : Array Value) : Blk (putB w g' t' cs') g t cs := by
  unfold Blk putB at *
  rw [Array.getElem?_setIfInBounds, if_neg (fun e => hp e.symm)]
  exact h
theorem below_drewN {B : Nat} {a x : World} (h : Below B a x) (n : Nat) : Below B a (x.drewN n) := ⟨h.os, h.tape, h.output, h.size, h.block⟩
end
end Go.Fl
namespace Go.Fl
open Go.RowKit

/-- The slice value with the address A and n elements of 'size' cells each holds the cells xs. -/
def Rd (w : World) (size : Nat) (A : Option Addr) (n : Nat) (xs : List Value) : Prop :=
  xs.length = n * size ∧ (0 < n → ∃ b off, A = some ⟨b, off, none⟩ ∧ b < w.heap.size ∧ ∀ j u, xs[j]? = some u → w.cell? ⟨b, off + j, none⟩ = some u)

section
variable {w w' : World} {size n : Nat} {A : Option Addr} {xs : List Value}
theorem Rd.at_ (h : Rd w size A n xs) (hn : 0 < n) : ∃ b off, A = some ⟨b, off, none⟩ ∧ b < w.heap.size ∧ ∀ j u, xs[j]? = some u → w.cell? ⟨b, off + j, none⟩ = some u := h.2 hn
theorem Rd.keep (h : Rd w size A n xs) (hs : w.heap.size ≤ w'.heap.size) (hk : ∀ b off, b < w.heap.size → w'.cell? ⟨b, off, none⟩ = w.cell? ⟨b, off, none⟩) : Rd w' size A n xs :=
  ⟨h.1, fun hn => by
    obtain ⟨b, off, e, hb, hc⟩ := h.2 hn
    exact ⟨b, off, e, by omega, fun j u hu => (hk _ _ hb).trans (hc j u hu)⟩⟩
theorem Rd.below (h : Rd w size A n xs) (hb : Below w.heap.size w w') : Rd w' size A n xs := h.keep hb.size fun _ _ hp => hb.cell (p := ⟨_, _, none⟩) hp
theorem Rd.drewN (h : Rd w size A n xs) (k : Nat) : Rd (w.drewN k) size A n xs := h
theorem Rd.alloc (h : Rd w size A n xs) (o : Obj) : Rd (w.alloc o) size A n xs := h.keep (by simp) fun b off hp => World.cell?_alloc_lt w o ⟨b, off, none⟩ hp
theorem Rd.none_ (w : World) (size : Nat) : Rd w size none 0 [] := ⟨by simp, fun h => absurd h (by omega)⟩
theorem Rd.of_own {base : Nat} {e : TypeId} {v : Value} (h : w.ownsRow base e size v n xs) : ∃ A c, v = .slice A n c ∧ Rd w size A n xs ∧ n ≤ c ∧ c ≤ maxLen := by
  rcases h.2 with ⟨rfl, rfl⟩ | ⟨g, cap, cur, rfl, hb, hg, hnc, hcm, _, _⟩
  · have := h.1
    simp at this
    subst this
    exact ⟨none, 0, rfl, Rd.none_ w size, by omega, by unfold maxLen; omega⟩
  · refine ⟨_, cap, rfl, ⟨h.1, fun _ => ⟨g, 0, rfl, (Array.getElem?_eq_some_iff.1 hg).1, fun j u hu => ?_⟩⟩, hnc, hcm⟩
    have := h.cells (g := g) rfl j u hu
    rw [Addr.add_lit] at this
    exact this
end
end Go.Fl
namespace Go.Fl
open Go.RowKit

section
variable {P : Program} (w : World)
theorem run_append_rd (base : Nat) (t ty e : TypeId) (i : TypeInfo) (z : Value) (size bytes : Nat) (ht : P.underlying t = some (.slice e)) (hi : P.info? e = some i) (hz : i.zero = some z)
    (hsize : i.size = size) (hby : i.bytes = bytes) (hzs : z.cells.size = size) (hsz : 0 < size)
    (v : Value) (n : Nat) (xs : List Value) (hown : w.ownsRow base e size v n xs) (A : Option Addr) (m c : Nat) (hc : A = none → c = 0) (news : List Value) (hr : Rd w size A m news)
    (h1 : ∀ u ∈ news, u.oneCell' = true) (h63 : n + m ≤ maxLen) (hbytes : (n + m) * bytes ≤ 140737488355328) (hbase : base ≤ w.heap.size) :
    ∃ v' w', (Builtin.append_ #[t, t] ty #[v, .slice A m c]).run P w = .ok v' w' ∧ w'.ownsRow base e size v' (n + m) (xs ++ news) ∧ w.grownBy w' v.ownBlock := by
  cases A with
  | none =>
    have hm : m = 0 := by
      rcases Nat.eq_zero_or_pos m with h | h
      · exact h
      · obtain ⟨b, off, h2, _⟩ := hr.2 h; cases h2
    subst hm
    have hn : news = [] := List.eq_nil_of_length_eq_zero (by simpa using hr.1)
    subst hn
    have := hc rfl
    subst this
    exact ⟨v, w, run_append_owned_none (P := P) w base t ty e i size ht hi v n xs hown, by simpa using hown, World.grownBy.refl w _⟩
  | some ad =>
    have hcells : ∀ j u, news[j]? = some u → w.cell? (ad.add j) = some u := by
      intro j u hu
      rcases Nat.eq_zero_or_pos m with h0 | h0
      · subst h0
        have hn : news = [] := List.eq_nil_of_length_eq_zero (by simpa using hr.1)
        subst hn
        simp at hu
      · obtain ⟨b, off, h, _, hcc⟩ := hr.2 h0
        injection h with h
        subst h
        rw [Addr.add_lit]
        exact hcc j u hu
    obtain ⟨v', w', hrun, h2, h3, _⟩ := run_append_own_at (P := P) w base t ty e i z size bytes ht hi hz hsize hby hzs hsz v n xs hown ad m c news hr.1 hcells h1 h63 hbytes hbase
    exact ⟨v', w', hrun, h2, h3⟩

theorem wpList_append_rd {ops : Array Oper} {rest : List Oper} {o : Oper} {a : Act} {Q : Exit → Act → World → Prop} (hw : Region.wanted o (yielded ops a.tmps) = true) (s x : Operand) (t : TypeId)
    (ho : o.op = .call { callee := .builtin .append, args := #[s, x], argTypes := #[t, t] })
    (base : Nat) (e : TypeId) (i : TypeInfo) (z : Value) (size bytes : Nat) (ht : P.underlying t = some (.slice e)) (hi : P.info? e = some i) (hz : i.zero = some z)
    (hsize : i.size = size) (hby : i.bytes = bytes) (hzs : z.cells.size = size) (hsz : 0 < size)
    (v : Value) (n : Nat) (xs : List Value) (hs : a.eval s = v) (hown : w.ownsRow base e size v n xs)
    (A : Option Addr) (m c : Nat) (hc : A = none → c = 0) (news : List Value) (hx : a.eval x = .slice A m c) (hr : Rd w size A m news) (h1 : ∀ u ∈ news, u.oneCell' = true)
    (h63 : n + m ≤ maxLen) (hbytes : (n + m) * bytes ≤ 140737488355328) (hbase : base ≤ w.heap.size)
    (h : ∀ v' w', w'.ownsRow base e size v' (n + m) (xs ++ news) → w.grownBy w' v.ownBlock → wpList P ops Q rest (a.put o.dst v') w') : wpList P ops Q (o :: rest) a w := by
  refine BigFrame.wpList_want hw fun K hK => ?_
  obtain ⟨v', w', hrun, h2, h3⟩ := run_append_rd (P := P) w base t o.type e i z size bytes ht hi hz hsize hby hzs hsz v n xs hown A m c hc news hr h1 h63 hbytes hbase
  unfold Oper.wp execOp
  simp only [ho, resolve, invoke, builtin, Sem.run_bind, Sem.run_pure, Result.andThen_ok, List.map_toArray, List.map_cons, List.map_nil, hs, hx, hrun]
  exact hK _ _ (h v' w' h2 h3)
end
end Go.Fl
namespace Go.Fl
open Go.ChangeShapes Go.WideShapes Go.RowKit

section
variable {H : Type} {enc : TypeId × Value → H} {P : Program} {w : World} {base : Nat} {spare : Nat → Bool} {held : Bool}

theorem open_ints_rd {t e : TypeId} {k : IntKind} {fuel : Nat} {a : Option Addr} {len cap : Nat} {x : DataW H × List MemPlace} (ht : P.underlying t = some (.slice e)) (he : P.underlying e = some (.int k)) (hc : P.cellsOf e = 1)
    (h : DataW.trod enc P w base spare held fuel t [.slice a len cap] = some x) :
    len ≤ maxLen ∧ len ≤ cap ∧ cap ≤ maxLen ∧ (a = none → cap = 0) ∧ ∃ zs : List Int, zs.length = len ∧ (∀ z ∈ zs, (Lit.int k z).wf = true) ∧ Rd w 1 a len (zs.map (Value.int k)) := by
  rcases open_ints ht he hc h with ⟨hcs, _⟩ | ⟨ad, l, c, zs, hcs, hb, hl, hm, hlen, _, hcell, hwf⟩
  · injection hcs with hcs
    injection hcs with h1 h2 h3
    subst h1 h2 h3
    exact ⟨by omega, by omega, by unfold maxLen; omega, fun _ => rfl, [], rfl, by simp, Rd.none_ _ _⟩
  · injection hcs with hcs
    injection hcs with h1 h2 h3
    subst h1 h2 h3
    have hlz : len ≤ zs.length := by rw [hlen]; split <;> omega
    refine ⟨by omega, hl, hm, fun h => (by cases h), zs.take len, by simp; omega, fun z hz => hwf z (List.mem_of_mem_take hz), ⟨by simp; omega, fun h0 => ?_⟩⟩
    have h00 := hcell 0 (by omega)
    have hspot : ad.spot = none ∧ ad.block < w.heap.size := by
      simp only [Addr.add, if_pos] at h00
      unfold World.cell? at h00
      split at h00
      · rename_i c e f hh
        refine ⟨?_, (Array.getElem?_eq_some_iff.1 hh).1⟩
        split at h00
        · cases h00
        · rename_i hs
          simpa using hs
      · cases h00
    obtain ⟨b, off, sp⟩ := ad
    obtain ⟨rfl, hbl⟩ : sp = none ∧ b < w.heap.size := hspot
    refine ⟨b, off, rfl, hbl, fun j u hu => ?_⟩
    rw [List.getElem?_map] at hu
    have hj : j < len := by
      rcases Nat.lt_or_ge j len with h | h
      · exact h
      · rw [List.getElem?_eq_none (by simp; omega)] at hu; cases hu
    rw [List.getElem?_take_of_lt hj, List.getElem?_eq_getElem (by omega)] at hu
    simp only [Option.map_some] at hu
    injection hu with hu
    have hcj := hcell j (by omega)
    rw [Addr.add_lit] at hcj
    rw [hcj, ← hu, List.getD_eq_getElem?_getD, List.getElem?_eq_getElem (by omega)]
    rfl
end
end Go.Fl
namespace Go.Fl.Nm
open Go.RowKit Go.Fl

/-- The cells of limbs. -/
def U (l : List Nat) : List Value := l.map fun x : Nat => Value.int .u32 (x : Int)
theorem U_len (l : List Nat) : (U l).length = l.length := by simp [U]
theorem U_at (l : List Nat) (i x : Nat) (h : l[i]? = some x) : (U l)[i]? = some (.int .u32 x) := by simp [U, h]
theorem U_take (l : List Nat) (n : Nat) : U (l.take n) = (U l).take n := by simp [U]
theorem U_append (a b : List Nat) : U (a ++ b) = U a ++ U b := by simp [U]
theorem U_set (l : List Nat) (i x : Nat) : U (l.set i x) = (U l).set i (.int .u32 x) := by simp [U, List.map_set]

/-- The slice value '.slice A n c' holds the limbs l. -/
def Sl (w : World) (A : Option Addr) (n c : Nat) (l : List Nat) : Prop :=
  l.length = n ∧ ok l ∧ n ≤ c ∧ c ≤ maxLen ∧ (A = none → c = 0) ∧ Rd w 1 A n (U l)

section
variable {w w' : World} {A : Option Addr} {n c : Nat} {l : List Nat}
theorem Sl.len (h : Sl w A n c l) : l.length = n := h.1
theorem Sl.ok (h : Sl w A n c l) : ok l := h.2.1
theorem Sl.cap (h : Sl w A n c l) : n ≤ c := h.2.2.1
theorem Sl.capMax (h : Sl w A n c l) : c ≤ maxLen := h.2.2.2.1
theorem Sl.nil (h : Sl w A n c l) : A = none → c = 0 := h.2.2.2.2.1
theorem Sl.rd (h : Sl w A n c l) : Rd w 1 A n (U l) := h.2.2.2.2.2
theorem Sl.max (h : Sl w A n c l) : n ≤ maxLen := Nat.le_trans h.cap h.capMax
theorem Sl.below (h : Sl w A n c l) (hb : Below w.heap.size w w') : Sl w' A n c l := ⟨h.1, h.2.1, h.2.2.1, h.2.2.2.1, h.2.2.2.2.1, h.rd.below hb⟩
theorem Sl.alloc (h : Sl w A n c l) (o : Obj) : Sl (w.alloc o) A n c l := ⟨h.1, h.2.1, h.2.2.1, h.2.2.2.1, h.2.2.2.2.1, h.rd.alloc o⟩
theorem Sl.drewN (h : Sl w A n c l) (k : Nat) : Sl (w.drewN k) A n c l := h
theorem Sl.none_ (w : World) : Sl w none 0 0 [] := ⟨rfl, ok_nil, Nat.le_refl _, by unfold maxLen; omega, fun _ => rfl, Rd.none_ _ _⟩
theorem Sl.at_ (h : Sl w A n c l) {i : Nat} (hi : i < n) : ∃ b off x, A = some ⟨b, off, none⟩ ∧ b < w.heap.size ∧ l[i]? = some x ∧ x < BB ∧ w.cell? ⟨b, off + i, none⟩ = some (.int .u32 x) := by
  obtain ⟨b, off, hA, hb, hc⟩ := h.rd.at_ (by omega)
  have hil : i < l.length := by rw [h.len]; exact hi
  exact ⟨b, off, l[i], hA, hb, List.getElem?_eq_getElem hil, ok_at h.ok (List.getElem?_eq_getElem hil), hc i _ (U_at l i _ (List.getElem?_eq_getElem hil))⟩
/-- The first m limbs, with any capacity from m on. -/
theorem Sl.cut (h : Sl w A n c l) {m c' : Nat} (hm : m ≤ n) (hc : m ≤ c') (hc' : c' ≤ maxLen) (hn : A = none → c' = 0) : Sl w A m c' (l.take m) :=
  ⟨by rw [List.length_take, h.len]; omega, ok_take h.ok m, hc, hc', hn, by
    refine ⟨by rw [U_len, List.length_take, h.len]; omega, fun h0 => ?_⟩
    obtain ⟨b, off, hA, hb, hcell⟩ := h.rd.at_ (by omega)
    refine ⟨b, off, hA, hb, fun j u hu => hcell j u ?_⟩
    rw [U_take] at hu
    have hj : j < m := by
      rcases Nat.lt_or_ge j m with hj | hj
      · exact hj
      · rw [List.getElem?_eq_none (by simp; omega)] at hu; cases hu
    rwa [List.getElem?_take_of_lt hj] at hu⟩
end
end Go.Fl.Nm

namespace Go.Proofs.YtoogeihbhhcpaaaGreatDoor
open Go.RowKit Go.Fl Go.Fl.Nm

set_option maxHeartbeats 400000 in
theorem trim_any (A : Option Addr) (n c : Nat) (l : List Nat) (w : World) (h : Sl w A n c l) :
    Calls Tryz.prog 139 #[.slice A n c] w fun e w' => e = .returned (.slice A (tl l) c) ∧ w = w' := by
  have hm := h.max
  have hcap := h.cap
  have hcm := h.capMax
  unfold maxLen at hm hcm
  have H := Lib.hid h
  have hlen : l.length = n := h.len
  have HL := Lib.hid hlen
  cases A with
  | none =>
    have := h.nil rfl
    subst this
    obtain rfl : n = 0 := by omega
    have : l = [] := List.eq_nil_of_length_eq_zero hlen
    subst this
    clear h hlen
    go_enter Tryz.func139, Tryz.ntmps139
    go_wp2
    go_loop [3] (fun i => i = .int .i64 0) (fun _ => 0)
    case atStart => rfl
    case round =>
      subst hrel
      go_wp2
      go_ret
      exact ⟨rfl, rfl⟩
  | some ad =>
    clear h hlen
    go_enter Tryz.func139, Tryz.ntmps139
    go_wp2
    go_loop [3] (fun i => ∃ k : Nat, i = .int .i64 k ∧ k ≤ n ∧ Hid (∀ x ∈ l.drop k, x = 0)) (fun i => (intOf i).toNat)
    case atStart => exact ⟨n, rfl, by omega, Lib.hid (by rw [List.drop_eq_nil_of_le (by rw [HL.out]; omega)]; simp)⟩
    case round =>
      obtain ⟨k, rfl, hk, HZ⟩ := hrel
      by_cases hk0 : k = 0
      · subst hk0
        have HT := Lib.hid (tl_unique (by omega) HZ.out (fun x h => absurd h (by omega)))
        go_wp2
        go_ret
        exact ⟨by rw [HT.out]; rfl, rfl⟩
      · obtain ⟨j, rfl⟩ : ∃ j, k = j + 1 := ⟨k - 1, by omega⟩
        obtain ⟨b, off, x, hA, hb, hx, hxB, hcell⟩ := H.out.at_ (i := j) (by omega)
        injection hA with hA
        subst hA
        have HX := Lib.hid hx
        clear hx hk0
        unfold BB at hxB
        by_cases hx0 : x = 0
        · subst hx0
          have HZ' := Lib.hid (show ∀ x ∈ l.drop j, x = 0 by
            rw [drop_at HX.out]
            intro y hy
            rcases List.mem_cons.1 hy with rfl | hy
            · rfl
            · exact HZ.out y hy)
          go_wp2
          go_round
          case rel => exact ⟨j, by go_num, by omega, HZ'⟩
          case measure => simp [intOf]
        · have HT := Lib.hid (tl_unique (by rw [HL.out]; exact hk) HZ.out (fun y _ hy => by
            rw [show j + 1 - 1 = j by omega, HX.out] at hy
            injection hy with hy
            omega))
          have hxe : ((x : Int) == 0) = false := by rw [beq_eq_false_iff_ne]; omega
          go_wp2
          go_ret
          exact ⟨by rw [HT.out]; rfl, rfl⟩
end Go.Proofs.YtoogeihbhhcpaaaGreatDoor
namespace Go.Fl.Nm
open Go.RowKit Go.Fl

theorem bv_bits (op : BinOp) (f : BitVec 32 → BitVec 32 → BitVec 32) (h : ∀ a b : Int, bits op .u32 a b = IntKind.u32.wrap (f (BitVec.ofInt 32 a) (BitVec.ofInt 32 b)).toNat) (A B : BitVec 32) :
    bits op .u32 (A.toNat : Int) (B.toNat : Int) = ((f A B).toNat : Int) := by
  rw [h, IntKind.wrap_u32]
  have e : ∀ V : BitVec 32, BitVec.ofInt 32 (V.toNat : Int) = V := fun V => by simp
  rw [e, e]
  have := (f A B).isLt
  omega
theorem bv_and (A B : BitVec 32) : bits .and .u32 (A.toNat : Int) (B.toNat : Int) = ((A &&& B).toNat : Int) := bv_bits .and (· &&& ·) (fun _ _ => rfl) A B
theorem or_join64 (x y : Nat) (hx : x % 4294967296 = 0) (hx1 : x < 18446744073709551616) (hy : y < 4294967296) : bits .or .u64 (x : Int) (y : Int) = ((x + y : Nat) : Int) := by
  have := bits_join .u64 64 (by decide) (fun n h0 h1 => by simp [IntKind.wrap, IntKind.bits, IntKind.signed]; omega) 32 x y (by omega) (by omega) (by omega) (by omega) (by omega) (by omega)
  rw [this]; omega
end Go.Fl.Nm
namespace Go.Proofs.YtoogeihbhhcpaaaGreatDoor
open Go.RowKit Go.Fl Go.Fl.Nm

theorem ret_ints {k k' : IntKind} {a b a' b' : Int} (h : a = a') (h' : b = b') : Ending.returned (.tuple #[.int k a, .int k' b]) = .returned (.tuple #[.int k a', .int k' b']) := by rw [h, h']

theorem mod_div (Z y : Nat) (h : Z / y < 4294967296) : ((Z : Int) / y) % 4294967296 = ((Z / y : Nat) : Int) := by
  rw [← Int.natCast_ediv]; generalize Z / y = q at *; omega
theorem mod_mod (Z y : Nat) (h : Z % y < 4294967296) : ((Z : Int) % y) % 4294967296 = ((Z % y : Nat) : Int) := by
  rw [← Int.natCast_emod]; generalize Z % y = q at *; omega

set_option maxHeartbeats 400000 in
theorem add32_any (x y c : Nat) (w : World) (hx : x < 4294967296) (hy : y < 4294967296) (hc : c ≤ 1) :
    Calls Tryz.prog 179 #[.int .u32 x, .int .u32 y, .int .u32 c] w fun e w' => e = .returned (.tuple #[.int .u32 ((x + y + c) % 4294967296 : Nat), .int .u32 ((x + y + c) / 4294967296 : Nat)]) ∧ w = w' := by
  go_enter Tryz.func179, Tryz.ntmps179
  go_wp2
  go_ret2
  exact ⟨ret_ints (by simp) (by simp), rfl⟩

set_option maxHeartbeats 400000 in
theorem div32_any (h l y : Nat) (w : World) (hh : h < y) (hl : l < 4294967296) (hy : y < 4294967296) :
    Calls Tryz.prog 174 #[.int .u32 h, .int .u32 l, .int .u32 y] w fun e w' => e = .returned (.tuple #[.int .u32 ((h * 4294967296 + l) / y : Nat), .int .u32 ((h * 4294967296 + l) % y : Nat)]) ∧ ∃ n, w' = w.drewN n := by
  have y0 : ((y : Int) == 0) = false := by rw [beq_eq_false_iff_ne]; omega
  have y1 : ((y : Int) != 0) = true := by rw [bne_iff_ne]; omega
  have y2 : decide (y ≤ h) = false := by simp; omega
  have y3 : ¬ ((y : Int) = 0) := by omega
  have hz := or_join64 (h * 4294967296) l (by omega) (by omega) hl
  rw [show ((h * 4294967296 : Nat) : Int) = (h : Int) * 4294967296 by omega] at hz
  have hq : (h * 4294967296 + l) / y < 4294967296 := by
    rw [Nat.div_lt_iff_lt_mul (by omega)]
    have : (h + 1) * 4294967296 ≤ y * 4294967296 := Nat.mul_le_mul_right _ hh
    omega
  have hr : (h * 4294967296 + l) % y < y := Nat.mod_lt _ (by omega)
  have HQ := Lib.hid hq
  have HR := Lib.hid hr
  clear hq hr
  go_enter Tryz.func174, Tryz.ntmps174
  go_wp2
  go_quiet (fail)
  go_wp2
  go_ret2
  have e : (h : Int) * 4294967296 + l = ((h * 4294967296 + l : Nat) : Int) := by omega
  exact ⟨ret_ints (by rw [e]; exact mod_div _ _ HQ.out) (by rw [e]; exact mod_mod _ _ (Nat.lt_trans HR.out hy)), _, rfl⟩
end Go.Proofs.YtoogeihbhhcpaaaGreatDoor
namespace Go.Proofs
open Go.Shelf
def Tryz.lays128_ren : Go.Shelf.Ren := ⟨fun | 128 => 147 | n => n, fun | 51 => 125 | 3 => 3 | 4 => 4 | 46 => 157 | 5 => 5 | 9 => 9 | n => n, fun | n => n⟩
theorem Tryz.lays128 : Go.Proofs.Lays.n128 Tryz.prog Tryz.lays128_ren := {
  mixed := by kernel_rfl
  f128 := Tryz.func147.trans (congrArg some (by kernel_rfl))
  t3 := Tryz.underlying3
  a3 := Tryz.isAgg3
  z3 := Tryz.sizeOf3
  v3 := Tryz.zeroValue3
  t4 := Tryz.underlying4
  a4 := Tryz.isAgg4
  z4 := Tryz.sizeOf4
  v4 := Tryz.zeroValue4
  t5 := Tryz.underlying5
  a5 := Tryz.isAgg5
  z5 := Tryz.sizeOf5
  v5 := Tryz.zeroValue5
  t9 := Tryz.underlying9
  a9 := Tryz.isAgg9
  z9 := Tryz.sizeOf9
  v9 := Tryz.zeroValue9
  t46 := Tryz.underlying157
  a46 := Tryz.isAgg157
  z46 := Tryz.sizeOf157
  v46 := Tryz.zeroValue157
  t51 := Tryz.underlying125
  a51 := Tryz.isAgg125
  z51 := Tryz.sizeOf125
  v51 := Tryz.zeroValue125 }
/-- bits.Len32: "Len32 returns the minimum number of bits required to represent x; the result is 0 for x == 0.": IT RETURNS 'Lib.bitLen x'; the world is as it was. ('h0', 'h1': x is a uint32.) (LAID: no walk: one application.) -/
theorem Tryz.bits_Len32 (x : Int) (w : World) (h0 : 0 ≤ x) (h1 : x ≤ 4294967295) :
    Calls Tryz.prog 147 #[.int .u32 x] w fun e w' => e = .returned (.int .i64 (Lib.bitLen x.toNat)) ∧ w' = w := Any.bits_Len32 Tryz.lays128 x w h0 h1
def Tryz.lays129_ren : Go.Shelf.Ren := ⟨fun | 129 => 185 | n => n, fun | 53 => 101 | 3 => 3 | 4 => 4 | 46 => 157 | 5 => 5 | 9 => 9 | n => n, fun | n => n⟩
theorem Tryz.lays129 : Go.Proofs.Lays.n129 Tryz.prog Tryz.lays129_ren := {
  mixed := by kernel_rfl
  f129 := Tryz.func185.trans (congrArg some (by kernel_rfl))
  t3 := Tryz.underlying3
  a3 := Tryz.isAgg3
  z3 := Tryz.sizeOf3
  v3 := Tryz.zeroValue3
  t4 := Tryz.underlying4
  a4 := Tryz.isAgg4
  z4 := Tryz.sizeOf4
  v4 := Tryz.zeroValue4
  t5 := Tryz.underlying5
  a5 := Tryz.isAgg5
  z5 := Tryz.sizeOf5
  v5 := Tryz.zeroValue5
  t9 := Tryz.underlying9
  a9 := Tryz.isAgg9
  z9 := Tryz.sizeOf9
  v9 := Tryz.zeroValue9
  t46 := Tryz.underlying157
  a46 := Tryz.isAgg157
  z46 := Tryz.sizeOf157
  v46 := Tryz.zeroValue157
  t53 := Tryz.underlying101
  a53 := Tryz.isAgg101
  z53 := Tryz.sizeOf101
  v53 := Tryz.zeroValue101 }
/-- bits.Len64: "Len64 returns the minimum number of bits required to represent x; the result is 0 for x == 0.": IT RETURNS 'Lib.bitLen x'; the world is as it was. ('h0', 'h1': x is a uint64.) (LAID: no walk: one application.) -/
theorem Tryz.bits_Len64 (x : Int) (w : World) (h0 : 0 ≤ x) (h1 : x ≤ 18446744073709551615) :
    Calls Tryz.prog 185 #[.int .u64 x] w fun e w' => e = .returned (.int .i64 (Lib.bitLen x.toNat)) ∧ w' = w := Any.bits_Len64 Tryz.lays129 x w h0 h1
end Go.Proofs
