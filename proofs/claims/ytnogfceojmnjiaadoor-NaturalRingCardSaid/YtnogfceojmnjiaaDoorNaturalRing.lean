/-
  For every input: flowpipelaw01.NaturalRing returns true, and each argument reads afterwards as before (the given card Rows.NaturalRingCardSaid). The listed tables of Go's library hold what the program's text lays (the card ties them). No other condition.
-/
import Derived.Test.YtnogfceojmnjiaaDoorRows
import Derived.Test.YtnogfceojmnjiaaDoorCards
import Derived.Test.YtnogfceojmnjiaaDoorTie
import Derived.Test.YtnogfceojmnjiaaDoorNumRB
import Derived.Test.YtnogfceojmnjiaaDoorNumX
import Derived.WalkKit
import Derived.ProofKit
import Derived.OpenShut
import Derived.ShutString
import Derived.ChangeOld
import Derived.Below
import Derived.SevenTiedAt
namespace Go.Proofs.YtnogfceojmnjiaaDoor.naturalRing
open Go.ChangeShapes Go.WideShapes Go.ChangeAt Go.RowKit
open Go.ChangeMaps (open_string shut_string)
set_option linter.unusedVariables false

set_option maxRecDepth 100000 in
theorem lifted (os : Os) (started : os.Started) (H : Type) (enc : TypeId × Value → H) :
    ReturnsInHanded {} Tryd.checked os 3 .any (fun w args => (Rows.naturalRingSpec.pre enc Tryd.prog Tryd.f3 [] false w args ∧ laidMetH Tryd.prog laid3 w) ∧ sizedMet enc Tryd.prog Tryd.f3 (OpenSpec.ofChange Rows.naturalRingSpec) false w args) (Rows.naturalRingSpec.post enc Tryd.prog Tryd.f3 false true false false) := by
  refine returnsInHanded_of_change_and (C := Tryd.checked) (X := fun w _ => laidMetH Tryd.prog laid3 w) (fun _ _ _ hh h => h.of_heap hh) own started (by kernel_rfl) Tryd.func3
    (ChangeSpec.witness_shaped (enc := enc) (C := Tryd.checked) (os := os) (X := fun w _ => laidMetH Tryd.prog laid3 w) false (World.doorLaid Tryd.prog 400 os) #[.slice none 0 0, .slice none 0 0, .slice none 0 0] 8 rfl (World.shaped_of_RefB (by kernel_rfl) (by kernel_rfl)) (by kernel_rfl) (by kernel_rfl) (by kernel_rfl) (door_met os _)) ?_
  intro W base args ds gs before hval0 hW _ _ hL _
  have ht : TB W := tb_of_laid hL
  have hval : ∀ (j : Nat) t v, Tryd.f3.params[j]? = some t → args[j]? = some v → Value.okWide Tryd.prog W .any base t v := hval0
  have hW' := hW
  obtain ⟨p, q, hA0, hV, rfl, hfz, hnd⟩ := hW
  have hA : DataW.TrodAll enc Tryd.prog W 0 (fun _ => true) true Tryd.f3.params.toList args.toList ds p := hA0
  rw [Tryd.params3] at hA hval
  obtain ⟨v0, vs0, d0, ds0, p0, q0, hargs, rfl, rfl, h0, r0⟩ := trodAll_cons hA
  obtain ⟨v1, vs1, d1, ds1, p1, q1, rfl, rfl, rfl, h1, r1⟩ := trodAll_cons r0
  obtain ⟨v2, vs2, d2, ds2, p2, q2, rfl, rfl, rfl, h2, r2⟩ := trodAll_cons r1
  obtain ⟨rfl, rfl, rfl⟩ := trodAll_nil r2
  obtain rfl : args = #[v0, v1, v2] := by cases args; simp_all
  obtain ⟨rfl, rfl⟩ := trodVars_none hV
  obtain ⟨a0, len0, cap0, rfl⟩ := okWide_slice Tryd.underlying22 (hval 0 22 v0 rfl rfl)
  have k0 := h0
  have lt0 : ∀ x ∈ p0, x.block < W.heap.size := by obtain ⟨m, hm⟩ := k0; exact DataW.trod_lt m _ _ _ hm
  obtain ⟨hm0, hcl0, hcm0, hno0, zs0, hn0, hz0, ha0⟩ : len0 ≤ maxLen ∧ len0 ≤ cap0 ∧ cap0 ≤ maxLen ∧ (a0 = none → cap0 = 0) ∧ ∃ zs : List Int, zs.length = len0 ∧ (∀ z ∈ zs, (Lit.int .u32 z).wf = true) ∧ Go.Fl.Rd W 1 a0 len0 (zs.map (Value.int .u32)) := by
    obtain ⟨fuel, hf⟩ := h0
    exact Go.Fl.open_ints_rd Tryd.underlying22 Tryd.underlying30 (by kernel_rfl) hf
  have sl0 := sl_of_ints hn0 hcl0 hcm0 hno0 hz0 ha0
  obtain ⟨a1, len1, cap1, rfl⟩ := okWide_slice Tryd.underlying22 (hval 1 22 v1 rfl rfl)
  have k1 := h1
  have lt1 : ∀ x ∈ p1, x.block < W.heap.size := by obtain ⟨m, hm⟩ := k1; exact DataW.trod_lt m _ _ _ hm
  obtain ⟨hm1, hcl1, hcm1, hno1, zs1, hn1, hz1, ha1⟩ : len1 ≤ maxLen ∧ len1 ≤ cap1 ∧ cap1 ≤ maxLen ∧ (a1 = none → cap1 = 0) ∧ ∃ zs : List Int, zs.length = len1 ∧ (∀ z ∈ zs, (Lit.int .u32 z).wf = true) ∧ Go.Fl.Rd W 1 a1 len1 (zs.map (Value.int .u32)) := by
    obtain ⟨fuel, hf⟩ := h1
    exact Go.Fl.open_ints_rd Tryd.underlying22 Tryd.underlying30 (by kernel_rfl) hf
  have sl1 := sl_of_ints hn1 hcl1 hcm1 hno1 hz1 ha1
  obtain ⟨a2, len2, cap2, rfl⟩ := okWide_slice Tryd.underlying22 (hval 2 22 v2 rfl rfl)
  have k2 := h2
  have lt2 : ∀ x ∈ p2, x.block < W.heap.size := by obtain ⟨m, hm⟩ := k2; exact DataW.trod_lt m _ _ _ hm
  obtain ⟨hm2, hcl2, hcm2, hno2, zs2, hn2, hz2, ha2⟩ : len2 ≤ maxLen ∧ len2 ≤ cap2 ∧ cap2 ≤ maxLen ∧ (a2 = none → cap2 = 0) ∧ ∃ zs : List Int, zs.length = len2 ∧ (∀ z ∈ zs, (Lit.int .u32 z).wf = true) ∧ Go.Fl.Rd W 1 a2 len2 (zs.map (Value.int .u32)) := by
    obtain ⟨fuel, hf⟩ := h2
    exact Go.Fl.open_ints_rd Tryd.underlying22 Tryd.underlying30 (by kernel_rfl) hf
  have sl2 := sl_of_ints hn2 hcl2 hcm2 hno2 hz2 ha2
  clear hA0 hval0
  refine (naturalRing_any a0 a1 a2 len0 cap0 len1 cap1 len2 cap2 _ _ _ W ht sl0 sl1 sl2).mono fun e W' ⟨he, bel⟩ => ?_
  subst he
  exact ⟨_, rfl, _, _, _, [], _, [], hW', trodAll_mk1 (shut_bool Tryd.underlying4 _), (trodAll_cons_mk (Below.trod laidOut (by kernel_rfl) (of_decide_eq_true (by kernel_rfl)) k0 bel.out lt0) (trodAll_cons_mk (Below.trod laidOut (by kernel_rfl) (of_decide_eq_true (by kernel_rfl)) k1 bel.out lt1) (trodAll_cons_mk (Below.trod laidOut (by kernel_rfl) (of_decide_eq_true (by kernel_rfl)) k2 bel.out lt2) trodAll_mk0))), rfl, bel.out.frame _, fun h => by cases h⟩

theorem row_holds : Rows.NaturalRingSaid :=
  OpenClaim.holds_of_wide 3 Tryd.f3 rfl rfl rfl rfl rfl rfl rfl ⟨rfl, rfl, rfl, rfl, rfl⟩ rfl rfl rfl rfl rfl (by kernel_rfl) Tryd.func3 (by kernel_rfl)
    (of_decide_eq_true (by kernel_rfl)) (by unfold Func.isWrapper; first | (rw [if_pos (by decide +kernel)]; kernel_rfl) | (rw [if_neg (by decide +kernel)]; exact ⟨rfl, rfl⟩))
    (fun os started H enc _ => lifted os started H enc)

/-- The card. -/
theorem proved : Rows.NaturalRingCardSaid :=
  Claim7.holds_tied_plain_at .later [] [.data, .data, .data] true Rows.naturalRingCard.stood.harness false
    row_holds (fun _ h => by cases h) (by kernel_rfl) (fun _ h => by cases h) naturalRing_row_tie rfl ⟨rfl, rfl⟩ (by kernel_rfl) rfl
    (fun f fn hf hfn => by
      obtain rfl : f = 3 := Option.some.inj ((show Tryd.prog.funcNamed "flowpipe/flowpipelaw01.NaturalRing" = some 3 by kernel_rfl).symm.trans hf) |>.symm
      obtain rfl : fn = Tryd.f3 := (Option.some.inj (Tryd.func3.symm.trans hfn)).symm
      exact ⟨by kernel_rfl, fun j t ht => by
        rw [Tryd.params3] at ht
        have hm : t ∈ [22, 22, 22] := by simpa using Array.mem_of_getElem? ht
        have hall : ([22, 22, 22].all fun u => !Tryd.prog.wantsStandIn u) = true := by kernel_rfl
        exact (show Tryd.prog.wantsStandIn t = false by simpa using List.all_eq_true.1 hall t hm)⟩)
    (by kernel_rfl)
#print axioms proved
end Go.Proofs.YtnogfceojmnjiaaDoor.naturalRing
