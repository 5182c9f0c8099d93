/-
  Slices of limbs; walks of trim, Cmp.
  Bits of words of 32 and 64 bits. Of no program.
  Walks of math/bits.Add32, Sub32, Div32.
  Contracts of the kit's shelf at this dump: written by its lay-shelf.mjs and lay-plain.mjs, cut down to what is used here (cutshelf.py).
  Walks of long, Clip, done, Cmp, Bits.
  Walks of Cmp, done; new slices.
  New slices of limbs; the walk of add.
  The walk of sub.
  The walk of mul.
  The walks of short, shr, shl.
  The walk of shr.
  The walk of shl.
  Digits of quotients: digit, guess.
  The walk of take.
  Plain mathematics of the long division.
  The walk of divide: small numbers, and one limb.
  The walk of divide: the long division.
  The walks of natural's exported functions Add, Sub, Mul, Shl, Shr, DivMod.
  The walks of natural's Sqrt and Gcd.
-/
import Derived.Test.YtoogeihbhhcpaaaDoorNumPlain
import Derived.Test.YtoogeihbhhcpaaaDoorPkB
import Derived.Deep.LoopGhost
import Derived.Test.YtoogeihbhhcpaaaDoorProg
import Derived.Laws.BitsLemmas
import Derived.Shelf.Small.Bits
import Derived.Laws.MakeOwn
import Derived.Lib.LazyBuf
import Derived.Outline
set_option linter.unusedVariables false
namespace Go.Fl.Nm
open Go.RowKit Go.Fl

/-- The cells of limbs. -/
def U (l : List Nat) : List Value := l.map fun x : Nat => Value.int .u32 (x : Int)
theorem U_len (l : List Nat) : (U l).length = l.length := by simp [U]
theorem U_at (l : List Nat) (i x : Nat) (h : l[i]? = some x) : (U l)[i]? = some (.int .u32 x) := by simp [U, h]
/-- The slice value '.slice A n c' holds the limbs l. -/
def Sl (w : World) (A : Option Addr) (n c : Nat) (l : List Nat) : Prop :=
  l.length = n ∧ ok l ∧ n ≤ c ∧ c ≤ maxLen ∧ (A = none → c = 0) ∧ Rd w 1 A n (U l)

section
variable {w w' : World} {A : Option Addr} {n c : Nat} {l : List Nat}
theorem Sl.len (h : Sl w A n c l) : l.length = n := h.1
theorem Sl.ok (h : Sl w A n c l) : ok l := h.2.1
theorem Sl.cap (h : Sl w A n c l) : n ≤ c := h.2.2.1
theorem Sl.capMax (h : Sl w A n c l) : c ≤ maxLen := h.2.2.2.1
theorem Sl.nil (h : Sl w A n c l) : A = none → c = 0 := h.2.2.2.2.1
theorem Sl.rd (h : Sl w A n c l) : Rd w 1 A n (U l) := h.2.2.2.2.2
theorem Sl.max (h : Sl w A n c l) : n ≤ maxLen := Nat.le_trans h.cap h.capMax
theorem Sl.below (h : Sl w A n c l) (hb : Below w.heap.size w w') : Sl w' A n c l := ⟨h.1, h.2.1, h.2.2.1, h.2.2.2.1, h.2.2.2.2.1, h.rd.below hb⟩
theorem Sl.alloc (h : Sl w A n c l) (o : Obj) : Sl (w.alloc o) A n c l := ⟨h.1, h.2.1, h.2.2.1, h.2.2.2.1, h.2.2.2.2.1, h.rd.alloc o⟩
theorem Sl.drewN (h : Sl w A n c l) (k : Nat) : Sl (w.drewN k) A n c l := h
theorem Sl.none_ (w : World) : Sl w none 0 0 [] := ⟨rfl, ok_nil, Nat.le_refl _, by unfold maxLen; omega, fun _ => rfl, Rd.none_ _ _⟩
theorem Sl.at_ (h : Sl w A n c l) {i : Nat} (hi : i < n) : ∃ b off x, A = some ⟨b, off, none⟩ ∧ b < w.heap.size ∧ l[i]? = some x ∧ x < BB ∧ w.cell? ⟨b, off + i, none⟩ = some (.int .u32 x) := by
  obtain ⟨b, off, hA, hb, hc⟩ := h.rd.at_ (by omega)
  have hil : i < l.length := by rw [h.len]; exact hi
  exact ⟨b, off, l[i], hA, hb, List.getElem?_eq_getElem hil, ok_at h.ok (List.getElem?_eq_getElem hil), hc i _ (U_at l i _ (List.getElem?_eq_getElem hil))⟩
end
end Go.Fl.Nm

namespace Go.Proofs.YtoogeihbhhcpaaaDoor
open Go.RowKit Go.Fl Go.Fl.Nm

end Go.Proofs.YtoogeihbhhcpaaaDoor
namespace Go.Fl.Nm
open Go.RowKit Go.Fl

end Go.Fl.Nm
namespace Go.Proofs.YtoogeihbhhcpaaaDoor
open Go.RowKit Go.Fl Go.Fl.Nm

end Go.Proofs.YtoogeihbhhcpaaaDoor
namespace Go.Proofs
open Go.Shelf
end Go.Proofs
namespace Go.Proofs.YtoogeihbhhcpaaaDoor
open Go.RowKit Go.Fl Go.Fl.Nm

/-- A slice value by its parts. -/
abbrev SV := Option Addr × Nat × Nat
def sv (p : SV) : Value := .slice p.1 p.2.1 p.2.2
end Go.Proofs.YtoogeihbhhcpaaaDoor
namespace Go.Proofs.YtoogeihbhhcpaaaDoor
open Go.RowKit Go.Fl Go.Fl.Nm

theorem drewN_drewN (w : World) (a b : Nat) : (w.drewN a).drewN b = w.drewN (a + b) := by
  unfold World.drewN; simp [Nat.add_assoc]

end Go.Proofs.YtoogeihbhhcpaaaDoor
namespace Go.Fl.Nm
open Go.RowKit Go.Fl

/-- The cells of a block that holds just the limbs l. -/
def UA (l : List Nat) : Array Value := (U l).toArray
/-- A slice in a block from 'base' on, at the block's head, that nothing else names. -/
def Nw (w : World) (t : TypeId) (base : Nat) (A : Option Addr) (n c : Nat) (l : List Nat) : Prop :=
  Sl w A n c l ∧ (0 < n → ∃ (g : Nat) (cs : Array Value), A = some ⟨g, 0, none⟩ ∧ base ≤ g ∧ Blk w g t cs)
theorem Nw.sl {w : World} {t : TypeId} {base : Nat} {A : Option Addr} {n c : Nat} {l : List Nat} (h : Nw w t base A n c l) : Sl w A n c l := h.1
theorem Nw.below {w w' : World} {t : TypeId} {base : Nat} {A : Option Addr} {n c : Nat} {l : List Nat} (h : Nw w t base A n c l) (hb : Below w.heap.size w w') : Nw w' t base A n c l :=
  ⟨h.1.below hb, fun h0 => by
    obtain ⟨g, cs, hA, hg, hB⟩ := h.2 h0
    exact ⟨g, cs, hA, hg, hB.below hb hB.lt⟩⟩
theorem Nw.base {w : World} {t : TypeId} {base base' : Nat} {A : Option Addr} {n c : Nat} {l : List Nat} (h : Nw w t base A n c l) (hb : base' ≤ base) : Nw w t base' A n c l :=
  ⟨h.1, fun h0 => by
    obtain ⟨g, cs, hA, hg, hB⟩ := h.2 h0
    exact ⟨g, cs, hA, by omega, hB⟩⟩
theorem Nw.alloc {w : World} {t : TypeId} {base : Nat} {A : Option Addr} {n c : Nat} {l : List Nat} (h : Nw w t base A n c l) (o : Obj) : Nw (w.alloc o) t base A n c l :=
  ⟨h.1.alloc o, fun h0 => by
    obtain ⟨g, cs, hA, hg, hB⟩ := h.2 h0
    exact ⟨g, cs, hA, hg, hB.alloc o⟩⟩
theorem Nw.none_ (w : World) (t : TypeId) (base : Nat) : Nw w t base none 0 0 [] := ⟨Sl.none_ w, fun h => absurd h (by omega)⟩
/-- Out of a block that is known whole. -/
theorem Nw.of_blk {w : World} {t : TypeId} {base g n : Nat} {l : List Nat} (hB : Blk w g t (UA l)) (hok : ok l) (hg : base ≤ g) (hn : l.length = n) (hm : n ≤ maxLen) : Nw w t base (some ⟨g, 0, none⟩) n n l :=
  ⟨⟨hn, hok, Nat.le_refl _, hm, fun h => (by cases h), by rw [U_len, hn]; omega, fun _ => ⟨g, 0, rfl, hB.lt, fun j u hu => by
    rw [Nat.zero_add, hB.cell]
    unfold UA
    rw [List.getElem?_toArray]; exact hu⟩⟩, fun _ => ⟨g, _, rfl, hg, hB⟩⟩
end Go.Fl.Nm

namespace Go.Proofs.YtoogeihbhhcpaaaDoor
open Go.RowKit Go.Fl Go.Fl.Nm

/-- The element type of the new slices. -/
abbrev tU : TypeId := 71
end Go.Proofs.YtoogeihbhhcpaaaDoor
namespace Go.Proofs.YtoogeihbhhcpaaaDoor
open Go.RowKit Go.Fl Go.Fl.Nm

end Go.Proofs.YtoogeihbhhcpaaaDoor
namespace Go.Proofs.YtoogeihbhhcpaaaDoor
open Go.RowKit Go.Fl Go.Fl.Nm

end Go.Proofs.YtoogeihbhhcpaaaDoor
namespace Go.Proofs.YtoogeihbhhcpaaaDoor
open Go.RowKit Go.Fl Go.Fl.Nm

end Go.Proofs.YtoogeihbhhcpaaaDoor
namespace Go.Fl.Nm
open Go.RowKit Go.Fl

end Go.Fl.Nm

namespace Go.Proofs.YtoogeihbhhcpaaaDoor
open Go.RowKit Go.Fl Go.Fl.Nm

end Go.Proofs.YtoogeihbhhcpaaaDoor
namespace Go.Fl.Nm
open Go.RowKit Go.Fl

end Go.Fl.Nm

namespace Go.Proofs.YtoogeihbhhcpaaaDoor
open Go.RowKit Go.Fl Go.Fl.Nm

end Go.Proofs.YtoogeihbhhcpaaaDoor
namespace Go.Fl.Nm
open Go.RowKit Go.Fl

end Go.Fl.Nm

namespace Go.Proofs.YtoogeihbhhcpaaaDoor
open Go.RowKit Go.Fl Go.Fl.Nm

theorem quiet_left {P : Program} {f : FuncId} {args : Array Value} {w : World} {n : Nat} {v : Value}
    (h : Calls P f args (w.drewN n) fun e w' => e = .returned v ∧ w.drewN n = w') : Calls P f args (w.drewN n) fun e w'' => e = .returned v ∧ ∃ m, w'' = w.drewN m :=
  h.mono fun _ _ ⟨he, hm⟩ => ⟨he, n, hm.symm⟩

end Go.Proofs.YtoogeihbhhcpaaaDoor
namespace Go.Fl.Nm
open Go.RowKit Go.Fl

theorem grown_trans {a b c : World} {row : Option Nat} (h1 : a.grownBy b row) (h2 : b.grownBy c row) : a.grownBy c row :=
  ⟨h2.os.trans h1.os, h2.tape.trans h1.tape, h2.output.trans h1.output, Nat.le_trans h1.size h2.size, fun k hk hr => (h2.block k (by have := h1.size; omega) hr).trans (h1.block k hk hr)⟩
end Go.Fl.Nm

namespace Go.Proofs.YtoogeihbhhcpaaaDoor
open Go.RowKit Go.Fl Go.Fl.Nm

end Go.Proofs.YtoogeihbhhcpaaaDoor
namespace Go.Fl.Nm
open Go.RowKit Go.Fl

end Go.Fl.Nm
namespace Go.Proofs.YtoogeihbhhcpaaaDoor
open Go.RowKit Go.Fl Go.Fl.Nm

end Go.Proofs.YtoogeihbhhcpaaaDoor
namespace Go.Fl.Nm
open Go.RowKit Go.Fl
theorem Sl.grown {w w' : World} {A : Option Addr} {n c g : Nat} {l : List Nat} (h : Sl w A n c l) (hg : w.grownBy w' (some g)) (hne : ∀ b o, A = some ⟨b, o, none⟩ → b ≠ g) : Sl w' A n c l :=
  ⟨h.1, h.2.1, h.2.2.1, h.2.2.2.1, h.2.2.2.2.1, h.rd.1, fun h0 => by
    obtain ⟨b, off, hA, hb, hc⟩ := h.rd.2 h0
    refine ⟨b, off, hA, by have := hg.size; omega, fun j u hu => hg.cell (hc j u hu) ?_⟩
    intro e
    injection e with e
    exact hne b off hA e⟩
end Go.Fl.Nm

namespace Go.Proofs.YtoogeihbhhcpaaaDoor
open Go.RowKit Go.Fl Go.Fl.Nm

theorem quiet_left2 {P : Program} {f : FuncId} {args : Array Value} {w : World} {n : Nat} {v : Value}
    (h : Calls P f args (w.drewN n) fun e w' => e = .returned v ∧ ∃ k, w' = (w.drewN n).drewN k) : Calls P f args (w.drewN n) fun e w'' => e = .returned v ∧ ∃ m, w'' = w.drewN m :=
  h.mono fun _ _ ⟨he, k, hm⟩ => ⟨he, n + k, by rw [hm, drewN_drewN]⟩

end Go.Proofs.YtoogeihbhhcpaaaDoor
namespace Go.Proofs.YtoogeihbhhcpaaaDoor
open Go.RowKit Go.Fl Go.Fl.Nm

/-- What a result is: the limbs of a number, or ErrBig. -/
def ResV (v : Nat) (l : List Nat) (er : Int) : Prop := (er = 0 ∧ l = limbs v ∧ (limbs v).length ≤ 256) ∨ (er = 9 ∧ l = [] ∧ 256 < (limbs v).length)
def Res (base v : Nat) (w : World) (e : Ending) (w' : World) : Prop :=
  ∃ (A : Option Addr) (n : Nat) (l : List Nat) (er : Int), e = .returned (.tuple #[.slice A n n, .int .i64 er]) ∧ Hid (Nw w' tU base A n n l) ∧ Hid (ResV v l er) ∧ Hid (Below w.heap.size w w')
theorem ResV.len {v : Nat} {l : List Nat} {er : Int} (h : ResV v l er) : l.length ≤ 256 := by
  rcases h with ⟨_, rfl, h⟩ | ⟨_, rfl, _⟩
  · exact h
  · simp

end Go.Proofs.YtoogeihbhhcpaaaDoor
namespace Go.Fl.Nm
end Go.Fl.Nm

namespace Go.Proofs.YtoogeihbhhcpaaaDoor
open Go.RowKit Go.Fl Go.Fl.Nm

end Go.Proofs.YtoogeihbhhcpaaaDoor
