/-
  The walk of the program's text of an operand, and what its own text's walk needs.
-/
import Derived.Test.YtoogeihbhhcpaaaDoorFmG
import Derived.Deep.RegionHeld3
import Derived.Deep.QuietTactic
import Derived.BigQuiet
set_option linter.unusedVariables false
namespace Go.Proofs.YtoogeihbhhcpaaaDoor
open Go.RowKit Go.Fl Go.Fl.Nm Go.Fl.Fm Go.Fl.Rt
/-- An element of a slice of expressions. -/
structure ElAt (w : World) (b off : Nat) (x : Nd) : Prop where
  lt : b < w.heap.size
  c : ∀ (j : Nat) (u : Value), x.cells[j]? = some u → w.cell? ⟨b, off + j, none⟩ = some u
theorem ElAt.belowW {w w' : World} {b off : Nat} {x : Nd} (h : ElAt w b off x) (hb : Below w.heap.size w w') : ElAt w' b off x :=
  ⟨Nat.lt_of_lt_of_le h.lt hb.size, fun j u hu => (hb.cell (p := ⟨b, off + j, none⟩) h.lt).trans (h.c j u hu)⟩
theorem ElAt.c0 {w : World} {b off : Nat} {x : Nd} (h : ElAt w b off x) : w.cell? ⟨b, off, none⟩ = some (.int .i64 x.h.kind) := h.c 0 _ rfl
theorem ElAt.c1 {w : World} {b off : Nat} {x : Nd} (h : ElAt w b off x) : w.cell? ⟨b, off + 1, none⟩ = some (.int .i64 x.h.n) := h.c 1 _ rfl
theorem ElAt.c2 {w : World} {b off : Nat} {x : Nd} (h : ElAt w b off x) : w.cell? ⟨b, off + 2, none⟩ = some (.int .i64 x.h.d) := h.c 2 _ rfl
theorem ElAt.c3 {w : World} {b off : Nat} {x : Nd} (h : ElAt w b off x) : w.cell? ⟨b, off + 3, none⟩ = some (.string x.h.name) := h.c 3 _ rfl
theorem ElAt.c4 {w : World} {b off : Nat} {x : Nd} (h : ElAt w b off x) : w.cell? ⟨b, off + 4, none⟩ = some (.int .i64 x.h.k) := h.c 4 _ rfl
theorem ElAt.c5 {w : World} {b off : Nat} {x : Nd} (h : ElAt w b off x) : w.cell? ⟨b, off + 5, none⟩ = some (.slice x.A x.len x.cap) := h.c 5 _ rfl
/-- The one element of an expression that has one. -/
theorem InE.one {w : World} {T : TE} {v : Nd} (h : InE w T v) (hl : v.len = 1) : ∃ b o x, v.A = some ⟨b, o, none⟩ ∧ InE w T.a x ∧ ElAt w b o x := by
  obtain ⟨b, o, x, hA, hb, hx, hc⟩ := h.at_ 0 (by omega)
  refine ⟨b, o, x, hA, ?_, hb, fun j u hu => ?_⟩
  · have : T.a = T.l.getD 0 default := by unfold TE.a; cases T.l <;> rfl
    rw [this]; exact hx
  · have hj : j < 6 := by
      have := (List.getElem?_eq_some_iff.1 hu).1
      exact this
    have := hc j u hu hj
    rwa [Nat.zero_mul, Nat.zero_add] at this
theorem InE.two {w : World} {T : TE} {v : Nd} (h : InE w T v) (hl : v.len = 2) : ∃ b o x y, v.A = some ⟨b, o, none⟩ ∧ InE w T.a x ∧ InE w T.b y ∧ ElAt w b o x ∧ ElAt w b (o + 6) y := by
  obtain ⟨b, o, x, hA, hb, hx, hc⟩ := h.at_ 0 (by omega)
  obtain ⟨b', o', y, hA', hb', hy, hc'⟩ := h.at_ 1 (by omega)
  rw [hA] at hA'
  have e := Option.some.inj hA'
  injection e with e1 e2 e3
  subst e1 e2
  refine ⟨b, o, x, y, hA, ?_, ?_, ⟨hb, fun j u hu => ?_⟩, ⟨hb', fun j u hu => ?_⟩⟩
  · have : T.a = T.l.getD 0 default := by unfold TE.a; cases T.l <;> rfl
    rw [this]; exact hx
  · have : T.b = T.l.getD 1 default := by
      unfold TE.b
      cases T.l with
      | nil => rfl
      | cons p q => cases q <;> rfl
    rw [this]; exact hy
  · have hj : j < 6 := (List.getElem?_eq_some_iff.1 hu).1
    have := hc j u hu hj
    rwa [Nat.zero_mul, Nat.zero_add] at this
  · have hj : j < 6 := (List.getElem?_eq_some_iff.1 hu).1
    have := hc' j u hu hj
    rwa [Nat.one_mul, ← Nat.add_assoc] at this
/-- The contract of the program's text at so many levels. -/
def ExprAt (f : Nat) : Prop := ∀ (T : TE) (v : Nd) (w : World), InE w T v → good nameP f T → (txt f T).length ≤ 20000 → RB w → Calls Tryd.prog 12 #[v.val] w (StrP (txt f T) w)
theorem tkY {P : Program} {md : Region.Mode} {ops : Array Oper} {Q : Exit → Act → World → Prop} {S : World → Prop} (i : Nat) {oi : Oper} {v : Value} {fuel : Nat} {listed : Array Bool} {a : Act} {w : World} (hi : ops[i]? = some oi)
    (hy : YieldsIf P ops S oi v a) (h : wpAnyH P md ops Q S fuel (listed.setIfInBounds i true) (a.put oi.dst v) w)
    (hs : Region.noSelect ops = true := by kernel_rfl) (hf : Region.free md ops listed i = true := by kernel_rfl) (hr : (Region.ready md ops listed).contains i = true := by kernel_rfl)
    (hQ : ∀ c a w, Q (.panic c) (a.put oi.dst v) w → Q (.panic c) a w := by exact fun _ _ _ h => h) (hS : S w := by assumption) : wpAnyH P md ops Q S (fuel + 1) listed a w :=
  wpAnyH_take hi hs hf hr hQ hy hS h
theorem below_dr (w : World) : Below w.heap.size w w.drew := below_drewN (Below.refl _ _) 1
theorem strp_size {S : ByteArray} {l : List UInt8} (h : S.data.toList = l) : S.size = l.length := by rw [← h]; rfl

set_option maxHeartbeats 1000000 in
theorem operand_at (f : Nat) (ih : ExprAt f) (T : TE) (v : Nd) (w : World) (need : Bool) (hin : InE w T v) (hg : good nameP f T) (hl : (txt f T).length ≤ 20000) (ht : RB w) :
    Calls Tryd.prog 24 #[v.val, .bool need] w (StrP (par need (txt f T)) w) := by
  have K := Lib.hid (fun w' hb => ih T v w' (hin.go hb) hg hl (ht.belowW hb))
  clear hin hg ht ih
  obtain ⟨⟨kd, n, d, nm, k⟩, A, len, cap⟩ := v
  obtain ⟨L, hL⟩ : ∃ L, L = txt f T := ⟨_, rfl⟩
  rw [← hL] at K hl ⊢
  clear hL
  simp only [Nd.val]
  cases need with
  | false =>
    go_enter Tryd.func24, Tryd.ntmps24
    go_wp2_with fail
    refine (K.out _ (below_box w _)).mono ?_
    rintro e w2 ⟨S, rfl, HS, HB⟩
    go_wp2_with fail
    go_ret
    exact ⟨S, rfl, HS, Lib.hid ((below_box w _).trans (HB.out.mono (below_box w _).size))⟩
  | true =>
    go_enter Tryd.func24, Tryd.ntmps24
    go_wp2_with fail
    refine (K.out _ (below_box w _)).mono ?_
    rintro e w2 ⟨S, rfl, HS, HB⟩
    have hS : S.size ≤ 20000 := by rw [strp_size HS.out]; exact hl
    go_wp2_with fail
    go_ret
    exact ⟨_, rfl, Lib.hid (by rw [data_app, data_app, HS.out]; rfl), Lib.hid ((below_box w _).trans (HB.out.mono (below_box w _).size))⟩
end Go.Proofs.YtoogeihbhhcpaaaDoor
