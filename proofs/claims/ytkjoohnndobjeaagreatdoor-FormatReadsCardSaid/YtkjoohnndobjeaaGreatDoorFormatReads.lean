/-
  For every input: flowpipelaw15.FormatReads returns true, and each argument reads afterwards as before (the given card Rows.FormatReadsCardSaid). The listed tables of Go's library hold what the program's text lays (the card ties them). No other condition.
-/
import Derived.Test.YtkjoohnndobjeaaGreatDoorRows
import Derived.Test.YtkjoohnndobjeaaGreatDoorCards
import Derived.Test.YtkjoohnndobjeaaGreatDoorTie
import Derived.Test.YtkjoohnndobjeaaGreatDoorPgA
import Derived.Test.YtkjoohnndobjeaaGreatDoorPbX
import Derived.WalkKit
import Derived.ProofKit
import Derived.OpenShut
import Derived.ShutString
import Derived.ChangeOld
import Derived.Below
import Derived.SevenTiedAt
namespace Go.Proofs.YtkjoohnndobjeaaGreatDoor.formatReads
open Go.ChangeShapes Go.WideShapes Go.ChangeAt Go.RowKit
open Go.ChangeMaps (open_string shut_string)
set_option linter.unusedVariables false
set_option maxRecDepth 100000

theorem lifted (os : Os) (started : os.Started) (H : Type) (enc : TypeId × Value → H) :
 ReturnsInHanded {} Tryz.checked os 10 .any (fun w args => (Rows.formatReadsSpec.pre enc Tryz.prog Tryz.f10 [] false w args ∧ laidMetH Tryz.prog laid8 w) ∧ sizedMet enc Tryz.prog Tryz.f10 (OpenSpec.ofChange Rows.formatReadsSpec) false w args) (Rows.formatReadsSpec.post enc Tryz.prog Tryz.f10 false true false false) := by
 refine returnsInHanded_of_change_and (C := Tryz.checked) (X := fun w _ => laidMetH Tryz.prog laid8 w) (fun _ _ _ hh h => h.of_heap hh) own started (by kernel_rfl) Tryz.func10
  (ChangeSpec.witness_shaped (enc := enc) (C := Tryz.checked) (os := os) (X := fun w _ => laidMetH Tryz.prog laid8 w) false (laidWorld8 os) #[.agg #[.slice none 0 0, .slice none 0 0, .slice none 0 0, .int .i64 0, .int .i64 0], .agg #[.int .i64 0, .int .i64 0, .int .i64 0, .int .i64 0]] 8 rfl (World.shaped_of_RefB (by kernel_rfl) (by kernel_rfl)) (by kernel_rfl) (by kernel_rfl) (by kernel_rfl) (door_met8 os _)) ?_
 intro W base args ds gs before hval0 hW _ _ hL _
 have r : RX W := rx_of_laid8 hL
 have s : FX W := fx_of_laid8 hL
 have a : ∀ (j : Nat) t v, Tryz.f10.params[j]? = some t → args[j]? = some v → Value.okWide Tryz.prog W .any base t v := hval0
 have u := hW
 obtain ⟨p, q, c, y, rfl, S, T⟩ := hW
 have d : DataW.TrodAll enc Tryz.prog W 0 (fun _ => true) true Tryz.f10.params.toList args.toList ds p := c
 rw [Tryz.params10] at d a
 obtain ⟨g, U, V, Y, z, Z, aa, rfl, rfl, i, B⟩ := trodAll_cons d
 obtain ⟨k, ab, d1, ad, D, q1, rfl, rfl, rfl, l, E⟩ := trodAll_cons B
 obtain ⟨rfl, rfl, rfl⟩ := trodAll_nil E
 obtain rfl : args = #[g, k] := by cases args; simp_all
 obtain ⟨rfl, rfl⟩ := trodVars_none y
 have n := i
 have F : ∀ x ∈ z, x.block < W.heap.size := by obtain ⟨m, b⟩ := n; exact DataW.trod_lt m _ _ _ b
 obtain ⟨G, I, J⟩ := open_pb (a 0 68 g rfl rfl) i
 subst I
 have o := l
 have L : ∀ x ∈ D, x.block < W.heap.size := by obtain ⟨m, b⟩ := o; exact DataW.trod_lt m _ _ _ b
 obtain ⟨M, N, O, P, Q, R⟩ := open_rgv (a 1 62 k rfl rfl) l
 subst Q
 clear c hval0
 refine (formatReads_any G M N O P W J R r s).mono fun e W' ⟨he, bel⟩ => ?_
 subst he
 exact ⟨_, rfl, _, _, _, [], _, [], u, trodAll_mk1 (shut_bool Tryz.underlying4 _), (trodAll_cons_mk (Below.trod laidOut (by kernel_rfl) (of_decide_eq_true (by kernel_rfl)) n bel.out F) (trodAll_cons_mk (Below.trod laidOut (by kernel_rfl) (of_decide_eq_true (by kernel_rfl)) o bel.out L) trodAll_mk0)), rfl, bel.out.frame _, fun h => by cases h⟩

theorem row_holds : Rows.FormatReadsSaid :=
 OpenClaim.holds_of_wide 10 Tryz.f10 rfl rfl rfl rfl rfl rfl rfl ⟨rfl, rfl, rfl, rfl, rfl⟩ rfl rfl rfl rfl rfl (by kernel_rfl) Tryz.func10 (by kernel_rfl)
  (of_decide_eq_true (by kernel_rfl)) (by unfold Func.isWrapper; first | (rw [if_pos (by decide +kernel)]; kernel_rfl) | (rw [if_neg (by decide +kernel)]; exact ⟨rfl, rfl⟩))
  (fun os started H enc _ => lifted os started H enc)

/-- The card. -/
theorem proved : Rows.FormatReadsCardSaid :=
  Claim7.holds_tied_plain_at .later [] [.data, .data, .data, .data, .sentinel, .sentinel, .mapped, .pinned] true Rows.formatReadsCard.stood.harness true
    row_holds (fun _ h => by cases h) (by kernel_rfl) (fun _ h => by cases h) formatReads_row_tie rfl ⟨rfl, rfl⟩ (by kernel_rfl) rfl
    (fun f fn hf hfn => by
      obtain rfl : f = 10 := Option.some.inj ((show Tryz.prog.funcNamed "flowpipe/flowpipelaw15.FormatReads" = some 10 by kernel_rfl).symm.trans hf) |>.symm
      obtain rfl : fn = Tryz.f10 := (Option.some.inj (Tryz.func10.symm.trans hfn)).symm
      exact ⟨by kernel_rfl, fun j t ht => by
        rw [Tryz.params10] at ht
        have hm : t ∈ [68, 62] := by simpa using Array.mem_of_getElem? ht
        have hall : ([68, 62].all fun u => !Tryz.prog.wantsStandIn u) = true := by kernel_rfl
        exact (show Tryz.prog.wantsStandIn t = false by simpa using List.all_eq_true.1 hall t hm)⟩)
    (by kernel_rfl)
#print axioms proved
end Go.Proofs.YtkjoohnndobjeaaGreatDoor.formatReads
