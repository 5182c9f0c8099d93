/-
  The map of the functions' names.
-/
import Derived.Test.YtoogeihbhhcpaaaDoorFmF
import Derived.Carry
import Derived.MapFrom
set_option linter.unusedVariables false
namespace Go.Proofs.YtoogeihbhhcpaaaDoor
open Go.RowKit Go.Fl Go.Fl.Fm
theorem upd_alloc (w : World) (es : Array MapEntry) (clock : Nat) (k : Int) (s : ByteArray) (hf : Instr.findNow (.int .i64) (.int .i64 k) es.toList 0 = some none) :
    Sem.run Tryd.prog (Instr.mapUpdate 45 (.map (some w.heap.size)) (.int .i64 k) (.string s)) (w.alloc (.map es clock)) =
      .ok () (w.alloc (.map (es.push { key := .int .i64 k, val := .string s, born := clock }) (clock + 1))) := by
  have hm := Tryd.underlying45
  have hd := Tryd.underlying3
  have hb : (w.alloc (.map es clock)).heap[w.heap.size]? = some (.map es clock) := heap_alloc_new w _
  have hk : MapKept.IsKey (.int .i64) (.int .i64 k) := rfl
  simp [Instr.mapUpdate, run_underlying hm, MapKept.run_getObj_map hb, MapKept.run_checkKey hd hk, MapKept.run_findKey hd hf, MapKept.run_setObj_map _ hb, Result.andThen]
  have hh : (w.alloc (.map es clock)).heap.setIfInBounds w.heap.size (.map (es.push { key := .int .i64 k, val := .string s, born := clock }) (clock + 1)) = (w.alloc (.map (es.push { key := .int .i64 k, val := .string s, born := clock }) (clock + 1))).heap := by
    show (w.heap.push _).setIfInBounds w.heap.size _ = w.heap.push _
    apply Array.ext_getElem?
    intro j
    rw [Array.getElem?_setIfInBounds, Array.getElem?_push, Array.getElem?_push]
    by_cases hj : w.heap.size = j
    · subst hj; simp
    · rw [if_neg hj, if_neg (fun e => hj e.symm), if_neg (fun e => hj e.symm)]
  rw [hh]
  rfl
theorem look_run (w : World) (g : Nat) (es : Array MapEntry) (clock : Nat) (k : Int) (i : Nat) (s : ByteArray) (hb : w.heap[g]? = some (.map es clock)) (hf : Instr.findNow (.int .i64) (.int .i64 k) es.toList 0 = some (some (i, .string s))) :
    Sem.run Tryd.prog (Instr.lookup 45 (.map (some g)) (.int .i64 k) false) w = .ok (.string s) w := by
  have hm := Tryd.underlying45
  have hd := Tryd.underlying3
  have hk : MapKept.IsKey (.int .i64) (.int .i64 k) := rfl
  simp [Instr.lookup, run_underlying hm, MapKept.run_getObj_map hb, MapKept.run_checkKey hd hk, MapKept.run_findKey hd hf, Result.andThen]
def sE : ByteArray := ⟨#[101, 120, 112]⟩
def sL : ByteArray := ⟨#[108, 111, 103]⟩
def sS : ByteArray := ⟨#[115, 105, 110]⟩
def sC : ByteArray := ⟨#[99, 111, 115]⟩
def sR : ByteArray := ⟨#[115, 113, 114, 116]⟩
def fnEs : Array MapEntry := #[⟨.int .i64 9, .string sE, 0⟩, ⟨.int .i64 10, .string sL, 1⟩, ⟨.int .i64 11, .string sS, 2⟩, ⟨.int .i64 12, .string sC, 3⟩, ⟨.int .i64 13, .string sR, 4⟩]
def fnS (k : Int) : ByteArray := ⟨(fnK k).toArray⟩
/-- Block g is the map of the functions' names. -/
def FnMap (w : World) (g : Nat) : Prop := w.heap[g]? = some (.map fnEs 5)
theorem FnMap.lt {w : World} {g : Nat} (h : FnMap w g) : g < w.heap.size := (Array.getElem?_eq_some_iff.1 h).1
theorem FnMap.belowW {w w' : World} {g : Nat} (h : FnMap w g) (hb : Below w.heap.size w w') : FnMap w' g := (hb.block g h.lt).trans h
theorem FnMap.look {w : World} {g : Nat} (h : FnMap w g) (k : Int) (hk : 9 ≤ k ∧ k ≤ 13) :
    Sem.run Tryd.prog (Instr.lookup 45 (.map (some g)) (.int .i64 k) false) w = .ok (.string (fnS k)) w := by
  obtain h1 | h1 | h1 | h1 | h1 : k = 9 ∨ k = 10 ∨ k = 11 ∨ k = 12 ∨ k = 13 := by omega
  · subst h1; exact look_run w g fnEs 5 9 0 _ h rfl
  · subst h1; exact look_run w g fnEs 5 10 1 _ h rfl
  · subst h1; exact look_run w g fnEs 5 11 2 _ h rfl
  · subst h1; exact look_run w g fnEs 5 12 3 _ h rfl
  · subst h1; exact look_run w g fnEs 5 13 4 _ h rfl
theorem functions_any (w : World) : Calls Tryd.prog 30 #[] w (fun e w' => ∃ g : Nat, e = .returned (.map (some g)) ∧ Hid (FnMap w' g) ∧ Hid (Below w.heap.size w w')) := by
  have hmm := @run_makeMap Tryd.prog
  have u1 := upd_alloc w #[] 0 9 sE rfl
  have u2 := upd_alloc w #[⟨.int .i64 9, .string sE, 0⟩] 1 10 sL rfl
  have u3 := upd_alloc w #[⟨.int .i64 9, .string sE, 0⟩, ⟨.int .i64 10, .string sL, 1⟩] 2 11 sS rfl
  have u4 := upd_alloc w #[⟨.int .i64 9, .string sE, 0⟩, ⟨.int .i64 10, .string sL, 1⟩, ⟨.int .i64 11, .string sS, 2⟩] 3 12 sC rfl
  have u5 := upd_alloc w #[⟨.int .i64 9, .string sE, 0⟩, ⟨.int .i64 10, .string sL, 1⟩, ⟨.int .i64 11, .string sS, 2⟩, ⟨.int .i64 12, .string sC, 3⟩] 4 13 sR rfl
  simp only [List.push_toArray, List.nil_append, List.cons_append, sE, sL, sS, sC, sR, Nat.zero_add, Nat.reduceAdd] at u1 u2 u3 u4 u5
  go_enter Tryd.func30, Tryd.ntmps30
  go_wp2_with fail
  go_ret
  exact ⟨_, rfl, Lib.hid (heap_alloc_new w _), Lib.hid (below_box _ _)⟩
end Go.Proofs.YtoogeihbhhcpaaaDoor
