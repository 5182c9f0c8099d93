/-
  For every input: flowpipelaw15.FormatBack returns true, and each argument reads afterwards as before (the given card Rows.FormatBackCardSaid). The listed tables of Go's library hold what the program's text lays (the card ties them). No other condition.
-/
import Derived.Test.YtkjoohnndobjeaaGreatDoorRows
import Derived.Test.YtkjoohnndobjeaaGreatDoorCards
import Derived.Test.YtkjoohnndobjeaaGreatDoorTie
import Derived.Test.YtkjoohnndobjeaaGreatDoorPgE
import Derived.Test.YtkjoohnndobjeaaGreatDoorPbX
import Derived.WalkKit
import Derived.ProofKit
import Derived.OpenShut
import Derived.ShutString
import Derived.ChangeOld
import Derived.Below
import Derived.SevenTiedAt
namespace Go.Proofs.YtkjoohnndobjeaaGreatDoor.formatBack
open Go.ChangeShapes Go.WideShapes Go.ChangeAt Go.RowKit
open Go.ChangeMaps (open_string shut_string)
set_option linter.unusedVariables false
set_option maxRecDepth 100000

theorem lifted (os : Os) (started : os.Started) (H : Type) (enc : TypeId × Value → H) :
 ReturnsInHanded {} Tryz.checked os 11 .any (fun w args => (Rows.formatBackSpec.pre enc Tryz.prog Tryz.f11 [] false w args ∧ laidMetH Tryz.prog laid8 w) ∧ sizedMet enc Tryz.prog Tryz.f11 (OpenSpec.ofChange Rows.formatBackSpec) false w args) (Rows.formatBackSpec.post enc Tryz.prog Tryz.f11 false true false false) := by
 refine returnsInHanded_of_change_and (C := Tryz.checked) (X := fun w _ => laidMetH Tryz.prog laid8 w) (fun _ _ _ hh h => h.of_heap hh) own started (by kernel_rfl) Tryz.func11
  (ChangeSpec.witness_shaped (enc := enc) (C := Tryz.checked) (os := os) (X := fun w _ => laidMetH Tryz.prog laid8 w) false (laidWorld8 os) #[.string ByteArray.empty] 8 rfl (World.shaped_of_RefB (by kernel_rfl) (by kernel_rfl)) (by kernel_rfl) (by kernel_rfl) (by kernel_rfl) (door_met8 os _)) ?_
 intro W base args ds gs before hval0 hW _ _ hL _
 have i : RX W := rx_of_laid8 hL
 have k : FX W := fx_of_laid8 hL
 have a : ∀ (j : Nat) t v, Tryz.f11.params[j]? = some t → args[j]? = some v → Value.okWide Tryz.prog W .any base t v := hval0
 have l := hW
 obtain ⟨p, q, b, m, rfl, s, u⟩ := hW
 have c : DataW.TrodAll enc Tryz.prog W 0 (fun _ => true) true Tryz.f11.params.toList args.toList ds p := b
 rw [Tryz.params11] at c a
 obtain ⟨d, x, y, z, B, D, E, rfl, rfl, n, o⟩ := trodAll_cons c
 obtain ⟨rfl, rfl, rfl⟩ := trodAll_nil o
 obtain rfl : args = #[d] := by cases args; simp_all
 obtain ⟨rfl, rfl⟩ := trodVars_none m
 obtain ⟨r, rfl, rfl, rfl, g⟩ := open_string Tryz.underlying9 (a 0 9 d rfl rfl) n
 clear b hval0
 refine (formatBack_any r W g i k).mono fun e W' ⟨he, bel⟩ => ?_
 subst he
 exact ⟨_, rfl, _, _, _, [], _, [], l, trodAll_mk1 (shut_bool Tryz.underlying4 _), (trodAll_cons_mk (shut_string Tryz.underlying9 g) trodAll_mk0), rfl, bel.out.frame _, fun h => by cases h⟩

theorem row_holds : Rows.FormatBackSaid :=
 OpenClaim.holds_of_wide 11 Tryz.f11 rfl rfl rfl rfl rfl rfl rfl ⟨rfl, rfl, rfl, rfl, rfl⟩ rfl rfl rfl rfl rfl (by kernel_rfl) Tryz.func11 (by kernel_rfl)
  (of_decide_eq_true (by kernel_rfl)) (by unfold Func.isWrapper; first | (rw [if_pos (by decide +kernel)]; kernel_rfl) | (rw [if_neg (by decide +kernel)]; exact ⟨rfl, rfl⟩))
  (fun os started H enc _ => lifted os started H enc)

/-- The card. -/
theorem proved : Rows.FormatBackCardSaid :=
  Claim7.holds_tied_plain_at .later [] [.data, .data, .data, .data, .sentinel, .sentinel, .mapped, .pinned] true Rows.formatBackCard.stood.harness true
    row_holds (fun _ h => by cases h) (by kernel_rfl) (fun _ h => by cases h) formatBack_row_tie rfl ⟨rfl, rfl⟩ (by kernel_rfl) rfl
    (fun f fn hf hfn => by
      obtain rfl : f = 11 := Option.some.inj ((show Tryz.prog.funcNamed "flowpipe/flowpipelaw15.FormatBack" = some 11 by kernel_rfl).symm.trans hf) |>.symm
      obtain rfl : fn = Tryz.f11 := (Option.some.inj (Tryz.func11.symm.trans hfn)).symm
      exact ⟨by kernel_rfl, fun j t ht => by
        rw [Tryz.params11] at ht
        have hm : t ∈ [9] := by simpa using Array.mem_of_getElem? ht
        have hall : ([9].all fun u => !Tryz.prog.wantsStandIn u) = true := by kernel_rfl
        exact (show Tryz.prog.wantsStandIn t = false by simpa using List.all_eq_true.1 hall t hm)⟩)
    (by kernel_rfl)
#print axioms proved
end Go.Proofs.YtkjoohnndobjeaaGreatDoor.formatBack
