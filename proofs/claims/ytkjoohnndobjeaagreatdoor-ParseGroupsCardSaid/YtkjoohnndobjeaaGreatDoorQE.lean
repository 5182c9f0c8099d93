/-
  The walk of shr.
  The walk of shl.
  Digits of quotients: digit, guess.
  The walk of take.
  Plain mathematics of the long division.
  The walk of divide: small numbers, and one limb.
  The walk of divide: the long division.
  The walks of natural's exported functions Add, Sub, Mul, Shl, Shr, DivMod.
  The walks of natural's Sqrt and Gcd.
-/
import Derived.Test.YtkjoohnndobjeaaGreatDoorQD
import Derived.Lib.LazyBuf
import Derived.Outline
set_option linter.unusedVariables false
namespace Go.Fl.Nm
open Go.RowKit Go.Fl

end Go.Fl.Nm

namespace Go.Proofs.YtkjoohnndobjeaaGreatDoor
open Go.RowKit Go.Fl Go.Fl.Nm

end Go.Proofs.YtkjoohnndobjeaaGreatDoor
namespace Go.Fl.Nm
open Go.RowKit Go.Fl

theorem Nw.of_own {w : World} {t : TypeId} {base n : Nat} {v : Value} {l : List Nat} (h : w.ownsRow base t 1 v n (U l)) (hok : ok l) : ∃ A c, v = .slice A n c ∧ Nw w t base A n c l := by
  have hl : l.length = n := by have := h.1; rw [U_len] at this; omega
  obtain ⟨A, c, hv, hrd, hnc, hcm⟩ := Rd.of_own h
  rcases h.2 with ⟨h1, h2⟩ | ⟨g, cap, cur, h1, hb, hg, _, _, _, _⟩
  · rw [h1] at hv
    injection hv with h3 h4 h5
    subst h3 h4 h5
    exact ⟨none, 0, h1, ⟨hl, hok, by omega, hcm, fun _ => rfl, hrd⟩, fun h => absurd h (by omega)⟩
  · rw [h1] at hv
    injection hv with h3 h4 h5
    subst h3 h5
    exact ⟨_, _, h1, ⟨hl, hok, hnc, hcm, fun h => (by cases h), hrd⟩, fun _ => ⟨g, cur, rfl, hb, hg⟩⟩
end Go.Fl.Nm

namespace Go.Proofs.YtkjoohnndobjeaaGreatDoor
open Go.RowKit Go.Fl Go.Fl.Nm

theorem below_of_grown {B : Nat} {w w' : World} {row : Option Nat} (h : w.grownBy w' row) (hr : ∀ g, row = some g → B ≤ g) (hB : B ≤ w.heap.size) : Below B w w' :=
  ⟨h.os, h.tape, h.output, h.size, fun k hk => h.block k (by omega) (fun e => by have := hr k e.symm; omega)⟩

end Go.Proofs.YtkjoohnndobjeaaGreatDoor
namespace Go.Fl.Nm
open Go.RowKit Go.Fl

end Go.Fl.Nm

namespace Go.Proofs.YtkjoohnndobjeaaGreatDoor
open Go.RowKit Go.Fl Go.Fl.Nm

theorem quiet_left {P : Program} {f : FuncId} {args : Array Value} {w : World} {n : Nat} {v : Value}
    (h : Calls P f args (w.drewN n) fun e w' => e = .returned v ∧ w.drewN n = w') : Calls P f args (w.drewN n) fun e w'' => e = .returned v ∧ ∃ m, w'' = w.drewN m :=
  h.mono fun _ _ ⟨he, hm⟩ => ⟨he, n, hm.symm⟩

end Go.Proofs.YtkjoohnndobjeaaGreatDoor
namespace Go.Fl.Nm
open Go.RowKit Go.Fl

theorem grown_trans {a b c : World} {row : Option Nat} (h1 : a.grownBy b row) (h2 : b.grownBy c row) : a.grownBy c row :=
  ⟨h2.os.trans h1.os, h2.tape.trans h1.tape, h2.output.trans h1.output, Nat.le_trans h1.size h2.size, fun k hk hr => (h2.block k (by have := h1.size; omega) hr).trans (h1.block k hk hr)⟩
end Go.Fl.Nm

namespace Go.Proofs.YtkjoohnndobjeaaGreatDoor
open Go.RowKit Go.Fl Go.Fl.Nm

end Go.Proofs.YtkjoohnndobjeaaGreatDoor
namespace Go.Fl.Nm
open Go.RowKit Go.Fl

end Go.Fl.Nm
namespace Go.Proofs.YtkjoohnndobjeaaGreatDoor
open Go.RowKit Go.Fl Go.Fl.Nm

end Go.Proofs.YtkjoohnndobjeaaGreatDoor
namespace Go.Fl.Nm
open Go.RowKit Go.Fl
theorem Sl.grown {w w' : World} {A : Option Addr} {n c g : Nat} {l : List Nat} (h : Sl w A n c l) (hg : w.grownBy w' (some g)) (hne : ∀ b o, A = some ⟨b, o, none⟩ → b ≠ g) : Sl w' A n c l :=
  ⟨h.1, h.2.1, h.2.2.1, h.2.2.2.1, h.2.2.2.2.1, h.rd.1, fun h0 => by
    obtain ⟨b, off, hA, hb, hc⟩ := h.rd.2 h0
    refine ⟨b, off, hA, by have := hg.size; omega, fun j u hu => hg.cell (hc j u hu) ?_⟩
    intro e
    injection e with e
    exact hne b off hA e⟩
end Go.Fl.Nm

namespace Go.Proofs.YtkjoohnndobjeaaGreatDoor
open Go.RowKit Go.Fl Go.Fl.Nm

theorem quiet_left2 {P : Program} {f : FuncId} {args : Array Value} {w : World} {n : Nat} {v : Value}
    (h : Calls P f args (w.drewN n) fun e w' => e = .returned v ∧ ∃ k, w' = (w.drewN n).drewN k) : Calls P f args (w.drewN n) fun e w'' => e = .returned v ∧ ∃ m, w'' = w.drewN m :=
  h.mono fun _ _ ⟨he, k, hm⟩ => ⟨he, n + k, by rw [hm, drewN_drewN]⟩

end Go.Proofs.YtkjoohnndobjeaaGreatDoor
namespace Go.Proofs.YtkjoohnndobjeaaGreatDoor
open Go.RowKit Go.Fl Go.Fl.Nm

/-- What a result is: the limbs of a number, or ErrBig. -/
def ResV (v : Nat) (l : List Nat) (er : Int) : Prop := (er = 0 ∧ l = limbs v ∧ (limbs v).length ≤ 256) ∨ (er = 9 ∧ l = [] ∧ 256 < (limbs v).length)
def Res (base v : Nat) (w : World) (e : Ending) (w' : World) : Prop :=
  ∃ (A : Option Addr) (n : Nat) (l : List Nat) (er : Int), e = .returned (.tuple #[.slice A n n, .int .i64 er]) ∧ Hid (Nw w' tU base A n n l) ∧ Hid (ResV v l er) ∧ Hid (Below w.heap.size w w')
theorem ResV.len {v : Nat} {l : List Nat} {er : Int} (h : ResV v l er) : l.length ≤ 256 := by
  rcases h with ⟨_, rfl, h⟩ | ⟨_, rfl, _⟩
  · exact h
  · simp

end Go.Proofs.YtkjoohnndobjeaaGreatDoor
namespace Go.Fl.Nm
end Go.Fl.Nm

namespace Go.Proofs.YtkjoohnndobjeaaGreatDoor
open Go.RowKit Go.Fl Go.Fl.Nm

end Go.Proofs.YtkjoohnndobjeaaGreatDoor
