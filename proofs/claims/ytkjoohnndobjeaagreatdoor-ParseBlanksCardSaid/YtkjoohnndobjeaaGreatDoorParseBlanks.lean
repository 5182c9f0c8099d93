/-
  For every input: flowpipelaw14.ParseBlanks returns true, and each argument reads afterwards as before (the given card Rows.ParseBlanksCardSaid). The listed tables of Go's library hold what the program's text lays (the card ties them). No other condition.
-/
import Derived.Test.YtkjoohnndobjeaaGreatDoorRows
import Derived.Test.YtkjoohnndobjeaaGreatDoorCards
import Derived.Test.YtkjoohnndobjeaaGreatDoorTie
import Derived.Test.YtkjoohnndobjeaaGreatDoorPhD
import Derived.Test.YtkjoohnndobjeaaGreatDoorPbX
import Derived.WalkKit
import Derived.ProofKit
import Derived.OpenShut
import Derived.ShutString
import Derived.ChangeOld
import Derived.Below
import Derived.SevenTiedAt
namespace Go.Proofs.YtkjoohnndobjeaaGreatDoor.parseBlanks
open Go.ChangeShapes Go.WideShapes Go.ChangeAt Go.RowKit
open Go.ChangeMaps (open_string shut_string)
set_option linter.unusedVariables false
set_option maxRecDepth 100000

theorem lifted (os : Os) (started : os.Started) (H : Type) (enc : TypeId × Value → H) :
 ReturnsInHanded {} Tryz.checked os 9 .any (fun w args => (Rows.parseBlanksSpec.pre enc Tryz.prog Tryz.f9 [] false w args ∧ laidMetH Tryz.prog laid8 w) ∧ sizedMet enc Tryz.prog Tryz.f9 (OpenSpec.ofChange Rows.parseBlanksSpec) false w args) (Rows.parseBlanksSpec.post enc Tryz.prog Tryz.f9 false true false false) := by
 refine returnsInHanded_of_change_and (C := Tryz.checked) (X := fun w _ => laidMetH Tryz.prog laid8 w) (fun _ _ _ hh h => h.of_heap hh) own started (by kernel_rfl) Tryz.func9
  (ChangeSpec.witness_shaped (enc := enc) (C := Tryz.checked) (os := os) (X := fun w _ => laidMetH Tryz.prog laid8 w) false (laidWorld8 os) #[.string ByteArray.empty, .string ByteArray.empty] 8 rfl (World.shaped_of_RefB (by kernel_rfl) (by kernel_rfl)) (by kernel_rfl) (by kernel_rfl) (by kernel_rfl) (door_met8 os _)) ?_
 intro W base args ds gs before hval0 hW _ _ hL _
 have l : RX W := rx_of_laid8 hL
 have m : FX W := fx_of_laid8 hL
 have a : ∀ (j : Nat) t v, Tryz.f9.params[j]? = some t → args[j]? = some v → Value.okWide Tryz.prog W .any base t v := hval0
 have n := hW
 obtain ⟨p, q, b, o, rfl, B, D⟩ := hW
 have c : DataW.TrodAll enc Tryz.prog W 0 (fun _ => true) true Tryz.f9.params.toList args.toList ds p := b
 rw [Tryz.params9] at c a
 obtain ⟨d, E, F, G, I, J, L, rfl, rfl, r, s⟩ := trodAll_cons c
 obtain ⟨g, M, N, O, P, Q, rfl, rfl, rfl, u, x⟩ := trodAll_cons s
 obtain ⟨rfl, rfl, rfl⟩ := trodAll_nil x
 obtain rfl : args = #[d, g] := by cases args; simp_all
 obtain ⟨rfl, rfl⟩ := trodVars_none o
 obtain ⟨y, rfl, rfl, rfl, i⟩ := open_string Tryz.underlying9 (a 0 9 d rfl rfl) r
 obtain ⟨z, rfl, rfl, rfl, k⟩ := open_string Tryz.underlying9 (a 1 9 g rfl rfl) u
 clear b hval0
 refine (parseBlanks_any y z W i k l m).mono fun e W' ⟨he, bel⟩ => ?_
 subst he
 exact ⟨_, rfl, _, _, _, [], _, [], n, trodAll_mk1 (shut_bool Tryz.underlying4 _), (trodAll_cons_mk (shut_string Tryz.underlying9 i) (trodAll_cons_mk (shut_string Tryz.underlying9 k) trodAll_mk0)), rfl, bel.out.frame _, fun h => by cases h⟩

theorem row_holds : Rows.ParseBlanksSaid :=
 OpenClaim.holds_of_wide 9 Tryz.f9 rfl rfl rfl rfl rfl rfl rfl ⟨rfl, rfl, rfl, rfl, rfl⟩ rfl rfl rfl rfl rfl (by kernel_rfl) Tryz.func9 (by kernel_rfl)
  (of_decide_eq_true (by kernel_rfl)) (by unfold Func.isWrapper; first | (rw [if_pos (by decide +kernel)]; kernel_rfl) | (rw [if_neg (by decide +kernel)]; exact ⟨rfl, rfl⟩))
  (fun os started H enc _ => lifted os started H enc)

/-- The card. -/
theorem proved : Rows.ParseBlanksCardSaid :=
  Claim7.holds_tied_plain_at .later [] [.data, .data, .data, .data, .sentinel, .sentinel, .mapped, .pinned] true Rows.parseBlanksCard.stood.harness true
    row_holds (fun _ h => by cases h) (by kernel_rfl) (fun _ h => by cases h) parseBlanks_row_tie rfl ⟨rfl, rfl⟩ (by kernel_rfl) rfl
    (fun f fn hf hfn => by
      obtain rfl : f = 9 := Option.some.inj ((show Tryz.prog.funcNamed "flowpipe/flowpipelaw14.ParseBlanks" = some 9 by kernel_rfl).symm.trans hf) |>.symm
      obtain rfl : fn = Tryz.f9 := (Option.some.inj (Tryz.func9.symm.trans hfn)).symm
      exact ⟨by kernel_rfl, fun j t ht => by
        rw [Tryz.params9] at ht
        have hm : t ∈ [9, 9] := by simpa using Array.mem_of_getElem? ht
        have hall : ([9, 9].all fun u => !Tryz.prog.wantsStandIn u) = true := by kernel_rfl
        exact (show Tryz.prog.wantsStandIn t = false by simpa using List.all_eq_true.1 hall t hm)⟩)
    (by kernel_rfl)
#print axioms proved
end Go.Proofs.YtkjoohnndobjeaaGreatDoor.parseBlanks
