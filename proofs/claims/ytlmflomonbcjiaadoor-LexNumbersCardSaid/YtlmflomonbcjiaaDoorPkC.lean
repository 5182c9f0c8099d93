/-
  Walks of long, Clip, done, Cmp, Bits.
  Walks of Cmp, done; new slices.
  New slices of limbs; the walk of add.
  The walk of sub.
  The walk of mul.
  The walks of short, shr, shl.
-/
import Derived.Test.YtlmflomonbcjiaaDoorNumB
import Derived.Test.YtlmflomonbcjiaaDoorNumShelf
import Derived.Laws.MakeOwn
set_option linter.unusedVariables false
namespace Go.Proofs.YtlmflomonbcjiaaDoor
open Go.RowKit Go.Fl Go.Fl.Nm

theorem bitLen_blen (x : Nat) (h : x < 2 ^ 64) : Lib.bitLen x = blen x := by
  induction x using Nat.strongRecOn with
  | ind x ih =>
    by_cases h0 : x = 0
    · subst h0; rfl
    · rw [Lib.bitLen_half x h0 h, ih (x / 2) (by omega) (by omega)]
      by_cases h1 : x / 2 = 0
      · have : x = 1 := by omega
        subst this; rfl
      · have e : x = 2 ^ 1 * (x / 2) + x % 2 := by omega
        conv => rhs; rw [e]
        rw [blen_mul h1 (by omega)]

/-- A slice value by its parts. -/
abbrev SV := Option Addr × Nat × Nat
def sv (p : SV) : Value := .slice p.1 p.2.1 p.2.2
def longer (K : Nat) (p : SV) : Bool := decide (K < p.2.1)

def LenFn (F K : Nat) : Prop := ∀ (A : Option Addr) (n c : Nat) (w : World), n ≤ maxLen → Calls Tryd.prog F #[.slice A n c] w fun e w' => e = .returned (.bool (decide (K < n))) ∧ w = w'
def IdxPost (b : Bool) (w : World) (e : Ending) (w' : World) : Prop := ∃ r : Int, e = .returned (.int .i64 r) ∧ Hid (decide (0 ≤ r) = b) ∧ w = w'

/-- A function that asks whether one of some slices is longer than K. -/
def LongFn (f K : Nat) : Prop := ∀ (g m : Nat) (xs : List SV) (w : World), xs.length = m → m ≤ 1000 → (∀ p ∈ xs, p.2.1 ≤ maxLen) → (∀ j p, xs[j]? = some p → w.cell? ⟨g, j, none⟩ = some (sv p)) →
    Calls Tryd.prog f #[.slice (some ⟨g, 0, none⟩) m m] w fun e w' => e = .returned (.bool (xs.any (longer K))) ∧ w = w'
end Go.Proofs.YtlmflomonbcjiaaDoor
namespace Go.Proofs.YtlmflomonbcjiaaDoor
open Go.RowKit Go.Fl Go.Fl.Nm

theorem drewN_drewN (w : World) (a b : Nat) : (w.drewN a).drewN b = w.drewN (a + b) := by
  unfold World.drewN; simp [Nat.add_assoc]

theorem drew1 {w wr : World} (h : ∃ q, wr = w.drewN q) (k : Nat) : ∃ q, wr.drewN k = w.drewN q := by
  obtain ⟨q, rfl⟩ := h
  exact ⟨_, drewN_drewN w q k⟩

def CmpPost (w : World) (r : Int) (e : Ending) (w' : World) : Prop := e = .returned (.int .i64 r) ∧ ∃ q, w' = w.drewN q

end Go.Proofs.YtlmflomonbcjiaaDoor
namespace Go.Fl.Nm
open Go.RowKit Go.Fl

/-- The cells of a block that holds just the limbs l. -/
def UA (l : List Nat) : Array Value := (U l).toArray
theorem UA_size (l : List Nat) : (UA l).size = l.length := by simp [UA, U]
theorem UA_at (l : List Nat) (i x : Nat) (h : l[i]? = some x) : (UA l)[i]? = some (.int .u32 x) := by
  unfold UA; rw [List.getElem?_toArray]; exact U_at l i x h
theorem UA_set (l : List Nat) (i x : Nat) : (UA l).setIfInBounds i (.int .u32 x) = UA (l.set i x) := by
  unfold UA; rw [U_set]; simp
def zeros (n : Nat) : List Nat := List.replicate n 0
theorem zeros_len (n : Nat) : (zeros n).length = n := by simp [zeros]
theorem zeros_at (n j : Nat) (h : j < n) : (zeros n)[j]? = some 0 := by simp [zeros, h]
theorem made_zeros (n : Nat) : madeCells (Value.int .u32 0).cells (n * 1) = UA (zeros n) := by
  apply Array.ext_getElem?
  intro i
  unfold madeCells UA U zeros
  by_cases h : i < n
  · simp [Value.cells, h, Nat.mod_one]
  · simp [h]
theorem blkU_cell {w : World} {g : Nat} {t : TypeId} {l : List Nat} (h : Blk w g t (UA l)) {i x : Nat} (hx : l[i]? = some x) : w.cell? ⟨g, i, none⟩ = some (.int .u32 x) := (h.cell i).trans (UA_at l i x hx)
theorem blkU_set {w : World} {g : Nat} {t : TypeId} {l : List Nat} (h : Blk w g t (UA l)) (i x : Nat) : Blk (w.setCell ⟨g, i, none⟩ (.int .u32 x)) g t (UA (l.set i x)) := by
  rw [h.setCell_eq, UA_set]; exact h.put _
theorem setCell_size (w : World) (a : Addr) (v : Value) : (w.setCell a v).heap.size = w.heap.size := by simp [World.setCell]
theorem at_set_ne {α : Type} {l : List α} {i j : Nat} (x : α) (h : i ≠ j) : (l.set i x)[j]? = l[j]? := by rw [List.getElem?_set_ne h]
theorem val_set {l : List Nat} {j o : Nat} (z : Nat) (h : l[j]? = some o) : val (l.set j z) + BB ^ j * o = val l + BB ^ j * z := by
  induction l generalizing j with
  | nil => simp at h
  | cons x l ih =>
    cases j with
    | zero => simp at h; subst h; simp [val_cons]; omega
    | succ j =>
      simp only [List.getElem?_cons_succ] at h
      have := ih h
      simp only [List.set_cons_succ, val_cons, Nat.pow_succ]
      have e1 : BB ^ j * BB * o = BB * (BB ^ j * o) := by rw [Nat.mul_comm (BB ^ j) BB, Nat.mul_assoc]
      have e2 : BB ^ j * BB * z = BB * (BB ^ j * z) := by rw [Nat.mul_comm (BB ^ j) BB, Nat.mul_assoc]
      have e3 : BB * (val (l.set j z) + BB ^ j * o) = BB * (val l + BB ^ j * z) := by rw [this]
      rw [Nat.mul_add, Nat.mul_add] at e3
      rw [e1, e2]; omega
theorem val_set0 {l : List Nat} {j : Nat} (z : Nat) (h : l[j]? = some 0) : val (l.set j z) = val l + BB ^ j * z := by
  have := val_set z h; simpa using this

/-- A slice in a block from 'base' on, at the block's head, that nothing else names. -/
def Nw (w : World) (t : TypeId) (base : Nat) (A : Option Addr) (n c : Nat) (l : List Nat) : Prop :=
  Sl w A n c l ∧ (0 < n → ∃ (g : Nat) (cs : Array Value), A = some ⟨g, 0, none⟩ ∧ base ≤ g ∧ Blk w g t cs)
theorem Nw.sl {w : World} {t : TypeId} {base : Nat} {A : Option Addr} {n c : Nat} {l : List Nat} (h : Nw w t base A n c l) : Sl w A n c l := h.1
theorem Nw.cut {w : World} {t : TypeId} {base : Nat} {A : Option Addr} {n c : Nat} {l : List Nat} (h : Nw w t base A n c l) {m c' : Nat} (hm : m ≤ n) (hc : m ≤ c') (hc' : c' ≤ maxLen) (hn : A = none → c' = 0) : Nw w t base A m c' (l.take m) :=
  ⟨h.1.cut hm hc hc' hn, fun h0 => h.2 (by omega)⟩
theorem Nw.below {w w' : World} {t : TypeId} {base : Nat} {A : Option Addr} {n c : Nat} {l : List Nat} (h : Nw w t base A n c l) (hb : Below w.heap.size w w') : Nw w' t base A n c l :=
  ⟨h.1.below hb, fun h0 => by
    obtain ⟨g, cs, hA, hg, hB⟩ := h.2 h0
    exact ⟨g, cs, hA, hg, hB.below hb hB.lt⟩⟩
theorem Nw.base {w : World} {t : TypeId} {base base' : Nat} {A : Option Addr} {n c : Nat} {l : List Nat} (h : Nw w t base A n c l) (hb : base' ≤ base) : Nw w t base' A n c l :=
  ⟨h.1, fun h0 => by
    obtain ⟨g, cs, hA, hg, hB⟩ := h.2 h0
    exact ⟨g, cs, hA, by omega, hB⟩⟩
theorem Nw.alloc {w : World} {t : TypeId} {base : Nat} {A : Option Addr} {n c : Nat} {l : List Nat} (h : Nw w t base A n c l) (o : Obj) : Nw (w.alloc o) t base A n c l :=
  ⟨h.1.alloc o, fun h0 => by
    obtain ⟨g, cs, hA, hg, hB⟩ := h.2 h0
    exact ⟨g, cs, hA, hg, hB.alloc o⟩⟩
theorem Nw.none_ (w : World) (t : TypeId) (base : Nat) : Nw w t base none 0 0 [] := ⟨Sl.none_ w, fun h => absurd h (by omega)⟩
/-- Out of a block that is known whole. -/
theorem Nw.of_blk {w : World} {t : TypeId} {base g n : Nat} {l : List Nat} (hB : Blk w g t (UA l)) (hok : ok l) (hg : base ≤ g) (hn : l.length = n) (hm : n ≤ maxLen) : Nw w t base (some ⟨g, 0, none⟩) n n l :=
  ⟨⟨hn, hok, Nat.le_refl _, hm, fun h => (by cases h), by rw [U_len, hn]; omega, fun _ => ⟨g, 0, rfl, hB.lt, fun j u hu => by
    rw [Nat.zero_add, hB.cell]
    unfold UA
    rw [List.getElem?_toArray]; exact hu⟩⟩, fun _ => ⟨g, _, rfl, hg, hB⟩⟩
end Go.Fl.Nm

namespace Go.Proofs.YtlmflomonbcjiaaDoor
open Go.RowKit Go.Fl Go.Fl.Nm

/-- The element type of the new slices. -/
abbrev tU : TypeId := 79
theorem Tryd.infoU32 : (Tryd.prog.info? 79).map (fun i => (i.zero, i.size, i.bytes)) = some (some (.int .u32 0), 1, 4) := by kernel_rfl
/-- A new slice with the value v, of at most N limbs. -/
def Fv (N v : Nat) (w : World) (e : Ending) (w' : World) : Prop :=
  ∃ (A : Option Addr) (n c : Nat) (l : List Nat), e = .returned (.slice A n c) ∧ Hid (Nw w' tU w.heap.size A n c l) ∧ Hid (val l = v) ∧ n ≤ N ∧ Hid (Below w.heap.size w w')

def AddRel (w : World) (g n : Nat) (a b : List Nat) (k : Nat) (cv iv : Value) (wr : World) : Prop :=
  ∃ (i cc : Nat) (l : List Nat), iv = .int .i64 i ∧ cv = .int .u32 cc ∧ cc ≤ 1 ∧ i ≤ n ∧ k = n - i ∧ Hid (l.length = n + 1) ∧ Hid (ok l) ∧ Hid (Blk wr g tU (UA l)) ∧
    Hid (val l + BB ^ i * cc = val (a.take i) + val (b.take i)) ∧ Hid (∀ j, i ≤ j → j < n + 1 → l[j]? = some 0) ∧ Hid (Below w.heap.size w wr)

theorem add_step {l a b : List Nat} {i n x y cc : Nat} (hl : l.length = n + 1) (hok : ok l) (hi : i < n) (hv : val l + BB ^ i * cc = val (a.take i) + val (b.take i)) (hz : ∀ j, i ≤ j → j < n + 1 → l[j]? = some 0)
    (ha : val (a.take (i + 1)) = val (a.take i) + BB ^ i * x) (hb : val (b.take (i + 1)) = val (b.take i) + BB ^ i * y) :
    (l.set i ((x + y + cc) % BB)).length = n + 1 ∧ ok (l.set i ((x + y + cc) % BB)) ∧ val (l.set i ((x + y + cc) % BB)) + BB ^ (i + 1) * ((x + y + cc) / BB) = val (a.take (i + 1)) + val (b.take (i + 1)) ∧
      (∀ j, i + 1 ≤ j → j < n + 1 → (l.set i ((x + y + cc) % BB))[j]? = some 0) := by
  refine ⟨by simp [hl], ok_set hok _ _ (Nat.mod_lt _ BB_pos), ?_, fun j h1 h2 => by rw [at_set_ne _ (by omega)]; exact hz j (by omega) h2⟩
  rw [val_set0 _ (hz i (by omega) (by omega)), ha, hb, Nat.pow_succ, Nat.mul_assoc]
  have e : BB ^ i * (x + y + cc) = BB ^ i * ((x + y + cc) % BB) + BB ^ i * (BB * ((x + y + cc) / BB)) := by rw [← Nat.mul_add, Nat.mod_add_div]
  simp only [Nat.mul_add] at e ⊢
  omega

end Go.Proofs.YtlmflomonbcjiaaDoor
namespace Go.Proofs.YtlmflomonbcjiaaDoor
open Go.RowKit Go.Fl Go.Fl.Nm

def SubPost (x y c : Nat) (w : World) (e : Ending) (w' : World) : Prop := ∃ d r : Nat, e = .returned (.tuple #[.int .u32 d, .int .u32 r]) ∧ d < BB ∧ r ≤ 1 ∧ Hid (d + y + c = x + BB * r) ∧ w = w'
theorem val_beyond {l : List Nat} {i : Nat} (h : l.length ≤ i) : val (l.take (i + 1)) = val (l.take i) + BB ^ i * 0 := by
  rw [List.take_of_length_le h, List.take_of_length_le (by omega)]; simp

def SubRel (w : World) (g n : Nat) (a b : List Nat) (k : Nat) (cv iv : Value) (wr : World) : Prop :=
  ∃ (i cc : Nat) (l : List Nat), iv = .int .i64 i ∧ cv = .int .u32 cc ∧ cc ≤ 1 ∧ i ≤ n ∧ k = n - i ∧ Hid (l.length = n) ∧ Hid (ok l) ∧ Hid (Blk wr g tU (UA l)) ∧
    Hid (val l + val (b.take i) = val (a.take i) + BB ^ i * cc) ∧ Hid (∀ j, i ≤ j → j < n → l[j]? = some 0) ∧ Hid (Below w.heap.size w wr)

theorem sub_step {l a b : List Nat} {i n x y cc d r : Nat} (hl : l.length = n) (hok : ok l) (hi : i < n) (hv : val l + val (b.take i) = val (a.take i) + BB ^ i * cc) (hz : ∀ j, i ≤ j → j < n → l[j]? = some 0)
    (ha : val (a.take (i + 1)) = val (a.take i) + BB ^ i * x) (hb : val (b.take (i + 1)) = val (b.take i) + BB ^ i * y) (hd : d < BB) (he : d + y + cc = x + BB * r) :
    (l.set i d).length = n ∧ ok (l.set i d) ∧ val (l.set i d) + val (b.take (i + 1)) = val (a.take (i + 1)) + BB ^ (i + 1) * r ∧
      (∀ j, i + 1 ≤ j → j < n → (l.set i d)[j]? = some 0) := by
  refine ⟨by simp [hl], ok_set hok _ _ hd, ?_, fun j h1 h2 => by rw [at_set_ne _ (by omega)]; exact hz j (by omega) h2⟩
  rw [val_set0 _ (hz i (by omega) (by omega)), ha, hb, Nat.pow_succ, Nat.mul_assoc]
  have e : BB ^ i * (d + y + cc) = BB ^ i * (x + BB * r) := by rw [he]
  simp only [Nat.mul_add] at e ⊢
  omega

end Go.Proofs.YtlmflomonbcjiaaDoor
namespace Go.Proofs.YtlmflomonbcjiaaDoor
open Go.RowKit Go.Fl Go.Fl.Nm

def MulRel (w : World) (g n m : Nat) (a b : List Nat) (k : Nat) (iv : Value) (wr : World) : Prop :=
  ∃ (i : Nat) (l : List Nat), iv = .int .i64 i ∧ i ≤ n ∧ k = n - i ∧ Hid (l.length = n + m) ∧ Hid (ok l) ∧ Hid (Blk wr g tU (UA l)) ∧
    Hid (val l = val (a.take i) * val b) ∧ Hid (∀ j, i + m ≤ j → j < n + m → l[j]? = some 0) ∧ Hid (Below w.heap.size w wr)
def MulIn (w : World) (g n m i x : Nat) (b l0 : List Nat) (k : Nat) (cv iv : Value) (wr : World) : Prop :=
  ∃ (kk cc : Nat) (l : List Nat), iv = .int .i64 kk ∧ cv = .int .u64 cc ∧ cc < 4294967296 ∧ kk ≤ m ∧ k = m - kk ∧ Hid (l.length = n + m) ∧ Hid (ok l) ∧ Hid (Blk wr g tU (UA l)) ∧
    Hid (val l + BB ^ (i + kk) * cc = val l0 + BB ^ i * (x * val (b.take kk))) ∧ Hid (∀ j, i + m ≤ j → j < n + m → l[j]? = some 0) ∧ Hid (Below w.heap.size w wr)

theorem mul_step {l l0 b : List Nat} {i n m kk x y o cc : Nat} (hl : l.length = n + m) (hok : ok l) (hv : val l + BB ^ (i + kk) * cc = val l0 + BB ^ i * (x * val (b.take kk)))
    (hz : ∀ j, i + m ≤ j → j < n + m → l[j]? = some 0) (hk : kk < m) (hb : val (b.take (kk + 1)) = val (b.take kk) + BB ^ kk * y) (ho : l[i + kk]? = some o) :
    (l.set (i + kk) ((x * y + o + cc) % BB)).length = n + m ∧ ok (l.set (i + kk) ((x * y + o + cc) % BB)) ∧
      val (l.set (i + kk) ((x * y + o + cc) % BB)) + BB ^ (i + (kk + 1)) * ((x * y + o + cc) / BB) = val l0 + BB ^ i * (x * val (b.take (kk + 1))) ∧
      (∀ j, i + m ≤ j → j < n + m → (l.set (i + kk) ((x * y + o + cc) % BB))[j]? = some 0) := by
  refine ⟨by simp [hl], ok_set hok _ _ (Nat.mod_lt _ BB_pos), ?_, fun j h1 h2 => by rw [at_set_ne _ (by omega)]; exact hz j h1 h2⟩
  have h1 := val_set ((x * y + o + cc) % BB) ho
  rw [hb, ← Nat.add_assoc i kk 1, Nat.pow_succ, Nat.mul_assoc (BB ^ (i + kk))]
  have e : BB ^ (i + kk) * (x * y + o + cc) = BB ^ (i + kk) * ((x * y + o + cc) % BB) + BB ^ (i + kk) * (BB * ((x * y + o + cc) / BB)) := by rw [← Nat.mul_add, Nat.mod_add_div]
  have e2 : BB ^ i * (x * (val (b.take kk) + BB ^ kk * y)) = BB ^ i * (x * val (b.take kk)) + BB ^ (i + kk) * (x * y) := by
    rw [Nat.mul_add x, Nat.mul_add, Nat.pow_add, Nat.mul_left_comm x, Nat.mul_assoc (BB ^ i)]
  rw [e2]
  simp only [Nat.mul_add] at e h1 ⊢
  omega
theorem mul_out {l l0 a b : List Nat} {i n m x cc : Nat} (hl : l.length = n + m) (hok : ok l) (hv : val l + BB ^ (i + m) * cc = val l0 + BB ^ i * (x * val b)) (h0 : val l0 = val (a.take i) * val b)
    (hz : ∀ j, i + m ≤ j → j < n + m → l[j]? = some 0) (hi : i < n) (hc : cc < BB) (ha : val (a.take (i + 1)) = val (a.take i) + BB ^ i * x) :
    (l.set (i + m) cc).length = n + m ∧ ok (l.set (i + m) cc) ∧ val (l.set (i + m) cc) = val (a.take (i + 1)) * val b ∧ (∀ j, i + 1 + m ≤ j → j < n + m → (l.set (i + m) cc)[j]? = some 0) := by
  refine ⟨by simp [hl], ok_set hok _ _ hc, ?_, fun j h1 h2 => by rw [at_set_ne _ (by omega)]; exact hz j (by omega) h2⟩
  rw [val_set0 _ (hz (i + m) (by omega) (by omega)), hv, h0, ha, Nat.add_mul, Nat.mul_assoc]
theorem mul_bd {x y : Nat} (hx : x < 4294967296) (hy : y < 4294967296) : (x : Int) * y ≤ 18446744065119617025 ∧ 0 ≤ (x : Int) * y ∧ x * y ≤ 18446744065119617025 := by
  have h : x * y ≤ 4294967295 * 4294967295 := Nat.mul_le_mul (by omega) (by omega)
  have e : ((x * y : Nat) : Int) = (x : Int) * y := by simp
  refine ⟨?_, ?_, by omega⟩ <;> rw [← e] <;> omega

end Go.Proofs.YtlmflomonbcjiaaDoor
namespace Go.Proofs.YtlmflomonbcjiaaDoor
open Go.RowKit Go.Fl Go.Fl.Nm

def ShortPost (n d v : Nat) (w : World) (e : Ending) (w' : World) : Prop :=
  ∃ (A : Option Addr) (c : Nat) (l : List Nat), e = .returned (.tuple #[.slice A n c, .int .u32 (v % d : Nat)]) ∧ Hid (Nw w' tU w.heap.size A n c l) ∧ Hid (val l = v / d) ∧ Hid (Below w.heap.size w w')
def ShortRel (w : World) (g n d : Nat) (a : List Nat) (k : Nat) (rv iv : Value) (wr : World) : Prop :=
  ∃ (r : Nat) (l : List Nat), iv = .int .i64 ((k : Int) - 1) ∧ rv = .int .u32 r ∧ r < d ∧ k ≤ n ∧ Hid (l.length = n) ∧ Hid (ok l) ∧ Hid (Blk wr g tU (UA l)) ∧
    Hid (val (l.drop k) * d + r = val (a.drop k)) ∧ Hid (Below w.heap.size w wr)

theorem set_drop_succ {α : Type} (l : List α) (j : Nat) (x : α) : (l.set j x).drop (j + 1) = l.drop (j + 1) := by
  rw [List.drop_set_of_lt (by omega)]
theorem short_step {l a : List Nat} {j n d r x : Nat} (hl : l.length = n) (hok : ok l) (hj : j < n) (hr : r < d) (hv : val (l.drop (j + 1)) * d + r = val (a.drop (j + 1))) (hx : a[j]? = some x) (hxB : x < BB) :
    (l.set j ((r * BB + x) / d)).length = n ∧ ok (l.set j ((r * BB + x) / d)) ∧ val ((l.set j ((r * BB + x) / d)).drop j) * d + (r * BB + x) % d = val (a.drop j) ∧ (r * BB + x) / d < BB := by
  have hq : (r * BB + x) / d < BB := by
    rw [Nat.div_lt_iff_lt_mul (by omega)]
    have : (r + 1) * BB ≤ d * BB := Nat.mul_le_mul_right _ hr
    rw [Nat.mul_comm d] at this
    rw [Nat.add_mul] at this
    omega
  refine ⟨by simp [hl], ok_set hok _ _ hq, ?_, hq⟩
  have h1 : (l.set j ((r * BB + x) / d))[j]? = some ((r * BB + x) / d) := by rw [List.getElem?_set_self (by omega)]
  rw [val_drop h1, val_drop hx, set_drop_succ, ← hv, Nat.add_mul, Nat.mul_assoc, Nat.mul_add]
  have e := Nat.div_add_mod (r * BB + x) d
  rw [Nat.mul_comm d] at e
  rw [Nat.mul_comm BB r]
  omega

def DivPost (h l y : Nat) (w : World) (e : Ending) (w' : World) : Prop := ∃ q r : Nat, e = .returned (.tuple #[.int .u32 q, .int .u32 r]) ∧ Hid ((h * BB + l) / y = q) ∧ Hid ((h * BB + l) % y = r) ∧ r < y ∧ Hid (∃ n, w' = w.drewN n)
end Go.Proofs.YtlmflomonbcjiaaDoor
