/-
  Expressions as they lie in memory.
-/
import Derived.Test.YtoogeihbhhcpaaaDoorPkB
import Derived.Test.YtoogeihbhhcpaaaDoorFmPlain
set_option linter.unusedVariables false
namespace Go.Proofs.YtoogeihbhhcpaaaDoor
open Go.RowKit Go.Fl Go.Fl.Fm

/-- A node as it lies. -/
structure Nd where
  h : Hd
  A : Option Addr
  len : Nat
  cap : Nat
@[reducible] def Nd.val (x : Nd) : Value := .agg #[.int .i64 x.h.kind, .int .i64 x.h.n, .int .i64 x.h.d, .string x.h.name, .int .i64 x.h.k, .slice x.A x.len x.cap]
def Nd.cells (x : Nd) : List Value := [.int .i64 x.h.kind, .int .i64 x.h.n, .int .i64 x.h.d, .string x.h.name, .int .i64 x.h.k, .slice x.A x.len x.cap]
def ndsCells (l : List Nd) : List Value := l.flatMap Nd.cells
structure HdOk (h : Hd) : Prop where
  k1 : -9223372036854775808 ≤ h.kind
  k2 : h.kind ≤ 9223372036854775807
  n1 : -9223372036854775808 ≤ h.n
  n2 : h.n ≤ 9223372036854775807
  d1 : -9223372036854775808 ≤ h.d
  d2 : h.d ≤ 9223372036854775807
  e1 : -9223372036854775808 ≤ h.k
  e2 : h.k ≤ 9223372036854775807
  s : h.name.size ≤ maxLen
/-- An expression lies at a node. -/
inductive InE (w : World) : TE → Nd → Prop where
  | mk (h : Hd) (l : List TE) (A : Option Addr) (len cap : Nat) (vs : List Nd) (ok : HdOk h) (hl : l.length = len) (hc : len ≤ cap) (hm : cap ≤ maxLen) (hv : vs.length = len) (hr : Rd w 6 A len (ndsCells vs))
      (hi : ∀ (i : Nat) T v, l[i]? = some T → vs[i]? = some v → InE w T v) : InE w (.mk h l) ⟨h, A, len, cap⟩
theorem InE.go {w w' : World} {T : TE} {v : Nd} (h : InE w T v) (hb : Below w.heap.size w w') : InE w' T v := by
  induction h with
  | mk h l A len cap vs ok hl hc hm hv hr hi ih => exact .mk h l A len cap vs ok hl hc hm hv (hr.below hb) ih
theorem InE.belowW {w w' : World} {T : TE} {v : Nd} (h : InE w T v) (hb : Below w.heap.size w w') : InE w' T v := h.go hb
theorem InE.ok {w : World} {T : TE} {v : Nd} (h : InE w T v) : HdOk v.h := by
  cases h with
  | mk h l A len cap vs ok => exact ok
theorem InE.hd {w : World} {T : TE} {v : Nd} (h : InE w T v) : T.h = v.h := by
  cases h with
  | mk h l A len cap vs ok => rfl
theorem InE.length {w : World} {T : TE} {v : Nd} (h : InE w T v) : T.l.length = v.len := by
  cases h with
  | mk h l A len cap vs ok hl => exact hl
theorem InE.caps {w : World} {T : TE} {v : Nd} (h : InE w T v) : v.len ≤ v.cap ∧ v.cap ≤ maxLen := by
  cases h with
  | mk h l A len cap vs ok hl hc hm => exact ⟨hc, hm⟩
theorem nds_at (l : List Nd) (k : Nat) (v : Nd) (h : l[k]? = some v) (j : Nat) (hj : j < 6) : (ndsCells l)[k * 6 + j]? = v.cells[j]? := by
  induction l generalizing k with
  | nil => cases h
  | cons x l ih =>
    have e : ndsCells (x :: l) = x.cells ++ ndsCells l := rfl
    have hx : x.cells.length = 6 := rfl
    cases k with
    | zero =>
      have : x = v := by simpa using h
      subst this
      rw [e, Nat.zero_mul, Nat.zero_add, List.getElem?_append_left (by omega)]
    | succ k =>
      have h' : l[k]? = some v := by simpa using h
      rw [e, List.getElem?_append_right (by omega), hx, show (k + 1) * 6 + j - 6 = k * 6 + j by omega]
      exact ih k h'
/-- The elements of an expression. -/
theorem InE.at_ {w : World} {T : TE} {v : Nd} (h : InE w T v) (i : Nat) (hi : i < v.len) :
    ∃ b o x, v.A = some ⟨b, o, none⟩ ∧ b < w.heap.size ∧ InE w (T.l.getD i default) x ∧ ∀ j u, x.cells[j]? = some u → j < 6 → w.cell? ⟨b, o + (i * 6 + j), none⟩ = some u := by
  cases h with
  | mk h l A len cap vs ok hl hc hm hv hr hin =>
    have hi' : i < len := hi
    obtain ⟨b, o, hA, hb, hcell⟩ := hr.at_ (by omega)
    obtain ⟨T, hT⟩ : ∃ T, l[i]? = some T := ⟨_, List.getElem?_eq_getElem (by omega)⟩
    obtain ⟨x, hx⟩ : ∃ x, vs[i]? = some x := ⟨_, List.getElem?_eq_getElem (by omega)⟩
    refine ⟨b, o, x, hA, hb, ?_, fun j u hu hj => ?_⟩
    · have : (TE.mk h l).l.getD i default = T := by
        show l.getD i default = T
        rw [List.getD_eq_getElem?_getD, hT]
        rfl
      rw [this]
      exact hin i T x hT hx
    · exact hcell _ _ ((nds_at vs i x hx j hj).trans hu)
end Go.Proofs.YtoogeihbhhcpaaaDoor
