/-
  From the row's conditions to the walk's: the listed variables, their witness, the library's bound of a short search.
-/
import Derived.Test.YtlmflomonbcjiaaDoorLexPlW
import Derived.Test.YtlmflomonbcjiaaDoorRows
import Derived.Lib.LaidTab
import Derived.Lib.SmallJoins
import Derived.LaidMore
import Derived.LaidSub
import Derived.LaidHandle
import Derived.MakeChecks
import Derived.Clock
import Derived.Stop.LaidErr
import Derived.Shelf.Vars
import Derived.Handed
import Derived.ProofKit
import Derived.ChangeOld
import Derived.Below
import GoSem.PinnedTables
set_option linter.unusedVariables false
namespace Go.Proofs.YtlmflomonbcjiaaDoor
open Go.RowKit Go.Fl Go.WideShapes Go.ChangeShapes
theorem own : ownKnob Tryd.prog.godebug = none := by kernel_rfl
theorem laidOut : laidOutB Tryd.prog = true := by kernel_rfl
def laid2 : List (String × DataW Unit) := [("unicode/utf8.acceptRanges", Rows.laid_unicode_utf8_acceptRanges), ("unicode/utf8.first", Rows.laid_unicode_utf8_first)]
noncomputable def laidWorld2 (os : Os) : World :=
  let w0 := World.doorLaid Tryd.prog 400 os
  { w0 with heap := w0.heap.modify 1 fun
      | .cells _ t frozen => .cells (Go.Pinned.utf8FirstZ.map fun z : Nat => Value.int .u8 (z : Int)).toArray t frozen
      | o => o }
theorem door_met2 (os : Os) (args : Array Value) : laidMetH Tryd.prog laid2 ((laidWorld2 os).forCall (fun _ _ => 0) ⟨#[], args, []⟩).memory :=
  laidMetH_of_parts3 (fuel := 8) (laidMet_of_run' 8 (by kernel_rfl) (by kernel_rfl)) (by kernel_rfl) (by kernel_rfl)
theorem mxp_of_shaped {W : World} (h : W.ShapedOpen Tryd.prog) : MXP W := by
  obtain ⟨m, hm⟩ := cell_of_shapedOpen_int (P := Tryd.prog) (g := 0) (t := 3) (zero := #[.int .i64 0]) h (of_decide_eq_true (by kernel_rfl)) (by kernel_rfl) rfl (by kernel_rfl) (by kernel_rfl) Tryd.underlying3
  exact ⟨Clock.block_lt hm, m, hm⟩
section
variable {H : Type} {enc : TypeId × Value → H}
/-- The wrap of a row whose walk needs the listed variables and the world's shape. -/
theorem handed_listed_shaped {a : Assume} {C : Checked} {os : Os} {f : FuncId} {fn : Func} {s : ChangeSpec} {conds : List PathCond} {apart fresh handsOn again : Bool} {X : World → Array Value → Prop}
    (hX : ∀ (w w' : World) (args : Array Value), w.heap = w'.heap → X w args → X w' args)
    (hown : ownKnob C.prog.godebug = none) (started : os.Started) (noInit : C.prog.inits.idxOf? f = none) (hfn : C.prog.funcs[f]? = some fn)
    (wit : ∃ (w : World) (tape : Tape) (i : Input), w.os = os ∧ (w.forCall tape i).Shaped C.prog ∧ i.vars = [] ∧ Input.okWide C.prog (w.forCall tape i) .any w.heap.size f i ∧
      ((s.pre enc C.prog fn conds apart (w.forCall tape i).memory i.args ∧ X (w.forCall tape i).memory i.args) ∧ sizedMet enc C.prog fn (OpenSpec.ofChange s) apart (w.forCall tape i).memory i.args) ∧ a.holds C.prog (lone (Frame.enter C.prog f i.args .normal) [] (w.forCall tape i)))
    (walk : ∀ (W : World) (base : Nat) (args : Array Value) (ds gs : List (DataW H)) (before : List MemPlace),
      (∀ (j : Nat) t v, fn.params[j]? = some t → args[j]? = some v → Value.okWide C.prog W .any base t v) →
      DataW.Whole enc C.prog fn.params.toList s.vars apart W args.toList ds gs before → X W args → W.ShapedOpen C.prog →
      Calls C.prog f args W fun e W' => ∃ v, e = .returned v ∧ s.post enc C.prog fn apart fresh handsOn again W args v W') :
    ReturnsInHanded a C os f .any (fun w args => (s.pre enc C.prog fn conds apart w args ∧ X w args) ∧ sizedMet enc C.prog fn (OpenSpec.ofChange s) apart w args) (s.post enc C.prog fn apart fresh handsOn again) := by
  refine returnsInHanded_of_calls hown started noInit wit fun w tape i _ shaped _ ok pre _ => ?_
  obtain ⟨_, _, _, gn, hgn, _, _, _, _, hval⟩ := ok
  obtain rfl : gn = fn := Option.some.inj (hgn.symm.trans hfn)
  obtain ⟨⟨⟨ds, gs, before, whole, _⟩, hx⟩, _⟩ := pre
  refine (walk (w.forCall tape i) w.heap.size i.args ds gs before hval (DataW.Whole.of_heap (w' := w.forCall tape i) (by rfl) whole) (hX _ _ _ (by rfl) hx) shaped).mono ?_
  rintro e W' ⟨v, rfl, hp⟩
  exact ChangeSpec.post_blind hp
end
end Go.Proofs.YtlmflomonbcjiaaDoor
