/-
 For every input: flowpipelaw14.ParseParts returns true, and each argument reads afterwards as before (the given card Rows.ParsePartsCardSaid). The listed tables of Go's library hold what the program's text lays (the card ties them). No other condition.
-/
import Derived.Test.YtkjoohnndobjeaaGreatDoorRows
import Derived.Test.YtkjoohnndobjeaaGreatDoorCards
import Derived.Test.YtkjoohnndobjeaaGreatDoorTie
import Derived.Test.YtkjoohnndobjeaaGreatDoorPgD
import Derived.Test.YtkjoohnndobjeaaGreatDoorPbX
import Derived.WalkKit
import Derived.ProofKit
import Derived.OpenShut
import Derived.ShutString
import Derived.ChangeOld
import Derived.Below
import Derived.SevenTiedAt
namespace Go.Proofs.YtkjoohnndobjeaaGreatDoor.parseParts
open Go.ChangeShapes Go.WideShapes Go.ChangeAt Go.RowKit
open Go.ChangeMaps (open_string shut_string)
set_option linter.unusedVariables false
set_option maxRecDepth 100000

theorem lifted (os : Os) (started : os.Started) (H : Type) (enc : TypeId × Value → H) :
  ReturnsInHanded {} Tryz.checked os 8 .any (fun w args => (Rows.parsePartsSpec.pre enc Tryz.prog Tryz.f8 [] false w args ∧ laidMetH Tryz.prog laid8 w) ∧ sizedMet enc Tryz.prog Tryz.f8 (OpenSpec.ofChange Rows.parsePartsSpec) false w args) (Rows.parsePartsSpec.post enc Tryz.prog Tryz.f8 false true false false) := by
 refine returnsInHanded_of_change_and (C := Tryz.checked) (X := fun w _ => laidMetH Tryz.prog laid8 w) (fun _ _ _ hh h => h.of_heap hh) own started (by kernel_rfl) Tryz.func8
  (ChangeSpec.witness_shaped (enc := enc) (C := Tryz.checked) (os := os) (X := fun w _ => laidMetH Tryz.prog laid8 w) false (laidWorld8 os) #[.string ByteArray.empty, .string ByteArray.empty, .string ByteArray.empty] 8 rfl (World.shaped_of_RefB (by kernel_rfl) (by kernel_rfl)) (by kernel_rfl) (by kernel_rfl) (by kernel_rfl) (door_met8 os _)) ?_
 intro W base args ds gs before hval0 hW _ _ hL _
 have n : RX W := rx_of_laid8 hL
 have o : FX W := fx_of_laid8 hL
 have a : ∀ (j : Nat) t v, Tryz.f8.params[j]? = some t → args[j]? = some v → Value.okWide Tryz.prog W .any base t v := hval0
 have r := hW
 obtain ⟨p, q, b, s, rfl, I, J⟩ := hW
 have c : DataW.TrodAll enc Tryz.prog W 0 (fun _ => true) true Tryz.f8.params.toList args.toList ds p := b
 rw [Tryz.params8] at c a
 obtain ⟨d, L, M, N, O, P, Q, rfl, rfl, u, x⟩ := trodAll_cons c
 obtain ⟨g, R, S, T, U, V, rfl, rfl, rfl, y, z⟩ := trodAll_cons x
 obtain ⟨i, Y, Z, aa, p2, q2, rfl, rfl, rfl, B, D⟩ := trodAll_cons z
 obtain ⟨rfl, rfl, rfl⟩ := trodAll_nil D
 obtain rfl : args = #[d, g, i] := by cases args; simp_all
 obtain ⟨rfl, rfl⟩ := trodVars_none s
 obtain ⟨E, rfl, rfl, rfl, k⟩ := open_string Tryz.underlying9 (a 0 9 d rfl rfl) u
 obtain ⟨F, rfl, rfl, rfl, l⟩ := open_string Tryz.underlying9 (a 1 9 g rfl rfl) y
 obtain ⟨G, rfl, rfl, rfl, m⟩ := open_string Tryz.underlying9 (a 2 9 i rfl rfl) B
 clear b hval0
 refine (parseParts_any E F G W k l m n o).mono fun e W' ⟨he, bel⟩ => ?_
 subst he
 exact ⟨_, rfl, _, _, _, [], _, [], r, trodAll_mk1 (shut_bool Tryz.underlying4 _), (trodAll_cons_mk (shut_string Tryz.underlying9 k) (trodAll_cons_mk (shut_string Tryz.underlying9 l) (trodAll_cons_mk (shut_string Tryz.underlying9 m) trodAll_mk0))), rfl, bel.out.frame _, fun h => by cases h⟩

theorem row_holds : Rows.ParsePartsSaid :=
 OpenClaim.holds_of_wide 8 Tryz.f8 rfl rfl rfl rfl rfl rfl rfl ⟨rfl, rfl, rfl, rfl, rfl⟩ rfl rfl rfl rfl rfl (by kernel_rfl) Tryz.func8 (by kernel_rfl)
  (of_decide_eq_true (by kernel_rfl)) (by unfold Func.isWrapper; first | (rw [if_pos (by decide +kernel)]; kernel_rfl) | (rw [if_neg (by decide +kernel)]; exact ⟨rfl, rfl⟩))
  (fun os started H enc _ => lifted os started H enc)

/-- The card. -/
theorem proved : Rows.ParsePartsCardSaid :=
  Claim7.holds_tied_plain_at .later [] [.data, .data, .data, .data, .sentinel, .sentinel, .mapped, .pinned] true Rows.parsePartsCard.stood.harness true
    row_holds (fun _ h => by cases h) (by kernel_rfl) (fun _ h => by cases h) parseParts_row_tie rfl ⟨rfl, rfl⟩ (by kernel_rfl) rfl
    (fun f fn hf hfn => by
      obtain rfl : f = 8 := Option.some.inj ((show Tryz.prog.funcNamed "flowpipe/flowpipelaw14.ParseParts" = some 8 by kernel_rfl).symm.trans hf) |>.symm
      obtain rfl : fn = Tryz.f8 := (Option.some.inj (Tryz.func8.symm.trans hfn)).symm
      exact ⟨by kernel_rfl, fun j t ht => by
        rw [Tryz.params8] at ht
        have hm : t ∈ [9, 9, 9] := by simpa using Array.mem_of_getElem? ht
        have hall : ([9, 9, 9].all fun u => !Tryz.prog.wantsStandIn u) = true := by kernel_rfl
        exact (show Tryz.prog.wantsStandIn t = false by simpa using List.all_eq_true.1 hall t hm)⟩)
    (by kernel_rfl)
#print axioms proved
end Go.Proofs.YtkjoohnndobjeaaGreatDoor.parseParts
