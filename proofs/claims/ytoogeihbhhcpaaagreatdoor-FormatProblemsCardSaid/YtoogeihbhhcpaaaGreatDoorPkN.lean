/-
  The map of the functions' names.
  The walk of the program's text of an operand, and what its own text's walk needs.
-/
import Derived.Test.YtoogeihbhhcpaaaGreatDoorFmF
import Derived.Carry
import Derived.MapFrom
import Derived.Deep.RegionHeld3
import Derived.Deep.QuietTactic
import Derived.BigQuiet
set_option linter.unusedVariables false
namespace Go.Proofs.YtoogeihbhhcpaaaGreatDoor
open Go.RowKit Go.Fl Go.Fl.Fm
theorem upd_alloc (w : World) (es : Array MapEntry) (clock : Nat) (k : Int) (s : ByteArray) (hf : Instr.findNow (.int .i64) (.int .i64 k) es.toList 0 = some none) :
    Sem.run Tryz.prog (Instr.mapUpdate 96 (.map (some w.heap.size)) (.int .i64 k) (.string s)) (w.alloc (.map es clock)) =
      .ok () (w.alloc (.map (es.push { key := .int .i64 k, val := .string s, born := clock }) (clock + 1))) := by
  have hm := Tryz.underlying96
  have hd := Tryz.underlying3
  have hb : (w.alloc (.map es clock)).heap[w.heap.size]? = some (.map es clock) := heap_alloc_new w _
  have hk : MapKept.IsKey (.int .i64) (.int .i64 k) := rfl
  simp [Instr.mapUpdate, run_underlying hm, MapKept.run_getObj_map hb, MapKept.run_checkKey hd hk, MapKept.run_findKey hd hf, MapKept.run_setObj_map _ hb, Result.andThen]
  have hh : (w.alloc (.map es clock)).heap.setIfInBounds w.heap.size (.map (es.push { key := .int .i64 k, val := .string s, born := clock }) (clock + 1)) = (w.alloc (.map (es.push { key := .int .i64 k, val := .string s, born := clock }) (clock + 1))).heap := by
    show (w.heap.push _).setIfInBounds w.heap.size _ = w.heap.push _
    apply Array.ext_getElem?
    intro j
    rw [Array.getElem?_setIfInBounds, Array.getElem?_push, Array.getElem?_push]
    by_cases hj : w.heap.size = j
    · subst hj; simp
    · rw [if_neg hj, if_neg (fun e => hj e.symm), if_neg (fun e => hj e.symm)]
  rw [hh]
  rfl
theorem look_run (w : World) (g : Nat) (es : Array MapEntry) (clock : Nat) (k : Int) (i : Nat) (s : ByteArray) (hb : w.heap[g]? = some (.map es clock)) (hf : Instr.findNow (.int .i64) (.int .i64 k) es.toList 0 = some (some (i, .string s))) :
    Sem.run Tryz.prog (Instr.lookup 96 (.map (some g)) (.int .i64 k) false) w = .ok (.string s) w := by
  have hm := Tryz.underlying96
  have hd := Tryz.underlying3
  have hk : MapKept.IsKey (.int .i64) (.int .i64 k) := rfl
  simp [Instr.lookup, run_underlying hm, MapKept.run_getObj_map hb, MapKept.run_checkKey hd hk, MapKept.run_findKey hd hf, Result.andThen]
def sE : ByteArray := ⟨#[101, 120, 112]⟩
def sL : ByteArray := ⟨#[108, 111, 103]⟩
def sS : ByteArray := ⟨#[115, 105, 110]⟩
def sC : ByteArray := ⟨#[99, 111, 115]⟩
def sR : ByteArray := ⟨#[115, 113, 114, 116]⟩
def fnEs : Array MapEntry := #[⟨.int .i64 9, .string sE, 0⟩, ⟨.int .i64 10, .string sL, 1⟩, ⟨.int .i64 11, .string sS, 2⟩, ⟨.int .i64 12, .string sC, 3⟩, ⟨.int .i64 13, .string sR, 4⟩]
def fnS (k : Int) : ByteArray := ⟨(fnK k).toArray⟩
/-- Block g is the map of the functions' names. -/
def FnMap (w : World) (g : Nat) : Prop := w.heap[g]? = some (.map fnEs 5)
theorem FnMap.lt {w : World} {g : Nat} (h : FnMap w g) : g < w.heap.size := (Array.getElem?_eq_some_iff.1 h).1
theorem FnMap.belowW {w w' : World} {g : Nat} (h : FnMap w g) (hb : Below w.heap.size w w') : FnMap w' g := (hb.block g h.lt).trans h
theorem FnMap.look {w : World} {g : Nat} (h : FnMap w g) (k : Int) (hk : 9 ≤ k ∧ k ≤ 13) :
    Sem.run Tryz.prog (Instr.lookup 96 (.map (some g)) (.int .i64 k) false) w = .ok (.string (fnS k)) w := by
  obtain h1 | h1 | h1 | h1 | h1 : k = 9 ∨ k = 10 ∨ k = 11 ∨ k = 12 ∨ k = 13 := by omega
  · subst h1; exact look_run w g fnEs 5 9 0 _ h rfl
  · subst h1; exact look_run w g fnEs 5 10 1 _ h rfl
  · subst h1; exact look_run w g fnEs 5 11 2 _ h rfl
  · subst h1; exact look_run w g fnEs 5 12 3 _ h rfl
  · subst h1; exact look_run w g fnEs 5 13 4 _ h rfl
theorem functions_any (w : World) : Calls Tryz.prog 48 #[] w (fun e w' => ∃ g : Nat, e = .returned (.map (some g)) ∧ Hid (FnMap w' g) ∧ Hid (Below w.heap.size w w')) := by
  have hmm := @run_makeMap Tryz.prog
  have u1 := upd_alloc w #[] 0 9 sE rfl
  have u2 := upd_alloc w #[⟨.int .i64 9, .string sE, 0⟩] 1 10 sL rfl
  have u3 := upd_alloc w #[⟨.int .i64 9, .string sE, 0⟩, ⟨.int .i64 10, .string sL, 1⟩] 2 11 sS rfl
  have u4 := upd_alloc w #[⟨.int .i64 9, .string sE, 0⟩, ⟨.int .i64 10, .string sL, 1⟩, ⟨.int .i64 11, .string sS, 2⟩] 3 12 sC rfl
  have u5 := upd_alloc w #[⟨.int .i64 9, .string sE, 0⟩, ⟨.int .i64 10, .string sL, 1⟩, ⟨.int .i64 11, .string sS, 2⟩, ⟨.int .i64 12, .string sC, 3⟩] 4 13 sR rfl
  simp only [List.push_toArray, List.nil_append, List.cons_append, sE, sL, sS, sC, sR, Nat.zero_add, Nat.reduceAdd] at u1 u2 u3 u4 u5
  go_enter Tryz.func48, Tryz.ntmps48
  go_wp2_with fail
  go_ret
  exact ⟨_, rfl, Lib.hid (heap_alloc_new w _), Lib.hid (below_box _ _)⟩
end Go.Proofs.YtoogeihbhhcpaaaGreatDoor
namespace Go.Proofs.YtoogeihbhhcpaaaGreatDoor
open Go.RowKit Go.Fl Go.Fl.Nm Go.Fl.Fm Go.Fl.Rt
/-- An element of a slice of expressions. -/
structure ElAt (w : World) (b off : Nat) (x : Nd) : Prop where
  lt : b < w.heap.size
  c : ∀ (j : Nat) (u : Value), x.cells[j]? = some u → w.cell? ⟨b, off + j, none⟩ = some u
theorem ElAt.belowW {w w' : World} {b off : Nat} {x : Nd} (h : ElAt w b off x) (hb : Below w.heap.size w w') : ElAt w' b off x :=
  ⟨Nat.lt_of_lt_of_le h.lt hb.size, fun j u hu => (hb.cell (p := ⟨b, off + j, none⟩) h.lt).trans (h.c j u hu)⟩
theorem ElAt.c0 {w : World} {b off : Nat} {x : Nd} (h : ElAt w b off x) : w.cell? ⟨b, off, none⟩ = some (.int .i64 x.h.kind) := h.c 0 _ rfl
theorem ElAt.c1 {w : World} {b off : Nat} {x : Nd} (h : ElAt w b off x) : w.cell? ⟨b, off + 1, none⟩ = some (.int .i64 x.h.n) := h.c 1 _ rfl
theorem ElAt.c2 {w : World} {b off : Nat} {x : Nd} (h : ElAt w b off x) : w.cell? ⟨b, off + 2, none⟩ = some (.int .i64 x.h.d) := h.c 2 _ rfl
theorem ElAt.c3 {w : World} {b off : Nat} {x : Nd} (h : ElAt w b off x) : w.cell? ⟨b, off + 3, none⟩ = some (.string x.h.name) := h.c 3 _ rfl
theorem ElAt.c4 {w : World} {b off : Nat} {x : Nd} (h : ElAt w b off x) : w.cell? ⟨b, off + 4, none⟩ = some (.int .i64 x.h.k) := h.c 4 _ rfl
theorem ElAt.c5 {w : World} {b off : Nat} {x : Nd} (h : ElAt w b off x) : w.cell? ⟨b, off + 5, none⟩ = some (.slice x.A x.len x.cap) := h.c 5 _ rfl
/-- The one element of an expression that has one. -/
theorem InE.one {w : World} {T : TE} {v : Nd} (h : InE w T v) (hl : v.len = 1) : ∃ b o x, v.A = some ⟨b, o, none⟩ ∧ InE w T.a x ∧ ElAt w b o x := by
  obtain ⟨b, o, x, hA, hb, hx, hc⟩ := h.at_ 0 (by omega)
  refine ⟨b, o, x, hA, ?_, hb, fun j u hu => ?_⟩
  · have : T.a = T.l.getD 0 default := by unfold TE.a; cases T.l <;> rfl
    rw [this]; exact hx
  · have hj : j < 6 := by
      have := (List.getElem?_eq_some_iff.1 hu).1
      exact this
    have := hc j u hu hj
    rwa [Nat.zero_mul, Nat.zero_add] at this
theorem InE.two {w : World} {T : TE} {v : Nd} (h : InE w T v) (hl : v.len = 2) : ∃ b o x y, v.A = some ⟨b, o, none⟩ ∧ InE w T.a x ∧ InE w T.b y ∧ ElAt w b o x ∧ ElAt w b (o + 6) y := by
  obtain ⟨b, o, x, hA, hb, hx, hc⟩ := h.at_ 0 (by omega)
  obtain ⟨b', o', y, hA', hb', hy, hc'⟩ := h.at_ 1 (by omega)
  rw [hA] at hA'
  have e := Option.some.inj hA'
  injection e with e1 e2 e3
  subst e1 e2
  refine ⟨b, o, x, y, hA, ?_, ?_, ⟨hb, fun j u hu => ?_⟩, ⟨hb', fun j u hu => ?_⟩⟩
  · have : T.a = T.l.getD 0 default := by unfold TE.a; cases T.l <;> rfl
    rw [this]; exact hx
  · have : T.b = T.l.getD 1 default := by
      unfold TE.b
      cases T.l with
      | nil => rfl
      | cons p q => cases q <;> rfl
    rw [this]; exact hy
  · have hj : j < 6 := (List.getElem?_eq_some_iff.1 hu).1
    have := hc j u hu hj
    rwa [Nat.zero_mul, Nat.zero_add] at this
  · have hj : j < 6 := (List.getElem?_eq_some_iff.1 hu).1
    have := hc' j u hu hj
    rwa [Nat.one_mul, ← Nat.add_assoc] at this
/-- The contract of the program's text at so many levels. -/
def ExprAt (f : Nat) : Prop := ∀ (T : TE) (v : Nd) (w : World), InE w T v → good nameP f T → (txt f T).length ≤ 20000 → RB w → Calls Tryz.prog 21 #[v.val] w (StrP (txt f T) w)
theorem tkY {P : Program} {md : Region.Mode} {ops : Array Oper} {Q : Exit → Act → World → Prop} {S : World → Prop} (i : Nat) {oi : Oper} {v : Value} {fuel : Nat} {listed : Array Bool} {a : Act} {w : World} (hi : ops[i]? = some oi)
    (hy : YieldsIf P ops S oi v a) (h : wpAnyH P md ops Q S fuel (listed.setIfInBounds i true) (a.put oi.dst v) w)
    (hs : Region.noSelect ops = true := by kernel_rfl) (hf : Region.free md ops listed i = true := by kernel_rfl) (hr : (Region.ready md ops listed).contains i = true := by kernel_rfl)
    (hQ : ∀ c a w, Q (.panic c) (a.put oi.dst v) w → Q (.panic c) a w := by exact fun _ _ _ h => h) (hS : S w := by assumption) : wpAnyH P md ops Q S (fuel + 1) listed a w :=
  wpAnyH_take hi hs hf hr hQ hy hS h
theorem below_dr (w : World) : Below w.heap.size w w.drew := below_drewN (Below.refl _ _) 1
theorem strp_size {S : ByteArray} {l : List UInt8} (h : S.data.toList = l) : S.size = l.length := by rw [← h]; rfl

set_option maxHeartbeats 1000000 in
theorem operand_at (f : Nat) (ih : ExprAt f) (T : TE) (v : Nd) (w : World) (need : Bool) (hin : InE w T v) (hg : good nameP f T) (hl : (txt f T).length ≤ 20000) (ht : RB w) :
    Calls Tryz.prog 42 #[v.val, .bool need] w (StrP (par need (txt f T)) w) := by
  have K := Lib.hid (fun w' hb => ih T v w' (hin.go hb) hg hl (ht.belowW hb))
  clear hin hg ht ih
  obtain ⟨⟨kd, n, d, nm, k⟩, A, len, cap⟩ := v
  obtain ⟨L, hL⟩ : ∃ L, L = txt f T := ⟨_, rfl⟩
  rw [← hL] at K hl ⊢
  clear hL
  simp only [Nd.val]
  cases need with
  | false =>
    go_enter Tryz.func42, Tryz.ntmps42
    go_wp2_with fail
    refine (K.out _ (below_box w _)).mono ?_
    rintro e w2 ⟨S, rfl, HS, HB⟩
    go_wp2_with fail
    go_ret
    exact ⟨S, rfl, HS, Lib.hid ((below_box w _).trans (HB.out.mono (below_box w _).size))⟩
  | true =>
    go_enter Tryz.func42, Tryz.ntmps42
    go_wp2_with fail
    refine (K.out _ (below_box w _)).mono ?_
    rintro e w2 ⟨S, rfl, HS, HB⟩
    have hS : S.size ≤ 20000 := by rw [strp_size HS.out]; exact hl
    go_wp2_with fail
    go_ret
    exact ⟨_, rfl, Lib.hid (by rw [data_app, data_app, HS.out]; rfl), Lib.hid ((below_box w _).trans (HB.out.mono (below_box w _).size))⟩
end Go.Proofs.YtoogeihbhhcpaaaGreatDoor
