/-
  For every input: flowpipelaw04.RatioInside returns true, and each argument reads afterwards as before (the given card Rows.RatioInsideCardSaid). The listed tables of Go's library hold what the program's text lays (the card ties them). No other condition.
-/
import Derived.Test.YtnogfceojmnjiaaGreatDoorRows
import Derived.Test.YtnogfceojmnjiaaGreatDoorCards
import Derived.Test.YtnogfceojmnjiaaGreatDoorTie
import Derived.Test.YtnogfceojmnjiaaGreatDoorRcGG
import Derived.Test.YtnogfceojmnjiaaGreatDoorRaXW
import Derived.WalkKit
import Derived.ProofKit
import Derived.OpenShut
import Derived.ShutString
import Derived.ChangeOld
import Derived.Below
import Derived.SevenTiedAt
namespace Go.Proofs.YtnogfceojmnjiaaGreatDoor.ratioInside
open Go.ChangeShapes Go.WideShapes Go.ChangeAt Go.RowKit
open Go.ChangeMaps (open_string shut_string)
set_option linter.unusedVariables false

set_option maxRecDepth 100000 in
theorem lifted (os : Os) (started : os.Started) (H : Type) (enc : TypeId × Value → H) :
    ReturnsInHanded {} Tryz.checked os 12 .any (fun w args => (Rows.ratioInsideSpec.pre enc Tryz.prog Tryz.f12 [] false w args ∧ laidMetH Tryz.prog laid7 w) ∧ sizedMet enc Tryz.prog Tryz.f12 (OpenSpec.ofChange Rows.ratioInsideSpec) false w args) (Rows.ratioInsideSpec.post enc Tryz.prog Tryz.f12 false true false false) := by
  refine returnsInHanded_of_change_and (C := Tryz.checked) (X := fun w _ => laidMetH Tryz.prog laid7 w) (fun _ _ _ hh h => h.of_heap hh) own started (by kernel_rfl) Tryz.func12
    (ChangeSpec.witness_shaped (enc := enc) (C := Tryz.checked) (os := os) (X := fun w _ => laidMetH Tryz.prog laid7 w) false (laidWorld7 os) #[.agg #[.int .i64 0, .int .i64 0], .agg #[.int .i64 0, .int .i64 0], .int .u16 0, .int .u16 0] 8 rfl (World.shaped_of_RefB (by kernel_rfl) (by kernel_rfl)) (by kernel_rfl) (by kernel_rfl) (by kernel_rfl) (door_met7 os _)) ?_
  intro W base args ds gs before hval0 hW _ _ hL _
  have ht : RX W := rx_of_laid hL
  have hval : ∀ (j : Nat) t v, Tryz.f12.params[j]? = some t → args[j]? = some v → Value.okWide Tryz.prog W .any base t v := hval0
  have hW' := hW
  obtain ⟨p, q, hA0, hV, rfl, hfz, hnd⟩ := hW
  have hA : DataW.TrodAll enc Tryz.prog W 0 (fun _ => true) true Tryz.f12.params.toList args.toList ds p := hA0
  rw [Tryz.params12] at hA hval
  obtain ⟨v0, vs0, d0, ds0, p0, q0, hargs, rfl, rfl, h0, r0⟩ := trodAll_cons hA
  obtain ⟨v1, vs1, d1, ds1, p1, q1, rfl, rfl, rfl, h1, r1⟩ := trodAll_cons r0
  obtain ⟨v2, vs2, d2, ds2, p2, q2, rfl, rfl, rfl, h2, r2⟩ := trodAll_cons r1
  obtain ⟨v3, vs3, d3, ds3, p3, q3, rfl, rfl, rfl, h3, r3⟩ := trodAll_cons r2
  obtain ⟨rfl, rfl, rfl⟩ := trodAll_nil r3
  obtain rfl : args = #[v0, v1, v2, v3] := by cases args; simp_all
  obtain ⟨rfl, rfl⟩ := trodVars_none hV
  have k0 := h0
  have lt0 : ∀ x ∈ p0, x.block < W.heap.size := by obtain ⟨m, hm⟩ := k0; exact DataW.trod_lt m _ _ _ hm
  obtain ⟨an0, ad0, hv0, wn0, wd0⟩ : ∃ a b : Int, v0 = .agg #[.int .i64 a, .int .i64 b] ∧ (Lit.int .i64 a).wf = true ∧ (Lit.int .i64 b).wf = true := by
    obtain ⟨c0, c1, y0, y1, m, e, _, _, hy0, hy1⟩ := Joins.open_agg2 Tryz.underlying23 (by kernel_rfl) (by kernel_rfl) (hval 0 23 v0 rfl rfl) h0
    obtain ⟨a, e0, _, wa⟩ := DataW.trod_int Tryz.underlying3 hy0
    obtain ⟨b, e1, _, wb⟩ := DataW.trod_int Tryz.underlying3 hy1
    simp at e0 e1
    subst e0 e1
    exact ⟨a, b, e, wa, wb⟩
  subst hv0
  have in0 := i64_of_wf wn0
  have id0 := i64_of_wf wd0
  have k1 := h1
  have lt1 : ∀ x ∈ p1, x.block < W.heap.size := by obtain ⟨m, hm⟩ := k1; exact DataW.trod_lt m _ _ _ hm
  obtain ⟨an1, ad1, hv1, wn1, wd1⟩ : ∃ a b : Int, v1 = .agg #[.int .i64 a, .int .i64 b] ∧ (Lit.int .i64 a).wf = true ∧ (Lit.int .i64 b).wf = true := by
    obtain ⟨c0, c1, y0, y1, m, e, _, _, hy0, hy1⟩ := Joins.open_agg2 Tryz.underlying23 (by kernel_rfl) (by kernel_rfl) (hval 1 23 v1 rfl rfl) h1
    obtain ⟨a, e0, _, wa⟩ := DataW.trod_int Tryz.underlying3 hy0
    obtain ⟨b, e1, _, wb⟩ := DataW.trod_int Tryz.underlying3 hy1
    simp at e0 e1
    subst e0 e1
    exact ⟨a, b, e, wa, wb⟩
  subst hv1
  have in1 := i64_of_wf wn1
  have id1 := i64_of_wf wd1
  obtain ⟨a2, rfl, rfl, rfl, w2⟩ := open_int Tryz.underlying65 (hval 2 65 v2 rfl rfl) h2
  obtain ⟨u2, e2, l2⟩ := Go.Fl.u16_of_wf w2
  subst e2
  obtain ⟨a3, rfl, rfl, rfl, w3⟩ := open_int Tryz.underlying65 (hval 3 65 v3 rfl rfl) h3
  obtain ⟨u3, e3, l3⟩ := Go.Fl.u16_of_wf w3
  subst e3
  clear hA0 hval0
  refine (ratioInside_any an0 ad0 an1 ad1 u2 u3 W ht in0.1 in0.2 id0.1 id0.2 in1.1 in1.2 id1.1 id1.2 l2 l3).mono fun e W' ⟨he, bel⟩ => ?_
  subst he
  exact ⟨_, rfl, _, _, _, [], _, [], hW', trodAll_mk1 (shut_bool Tryz.underlying4 _), (trodAll_cons_mk (Below.trod laidOut (by kernel_rfl) (of_decide_eq_true (by kernel_rfl)) k0 bel.out lt0) (trodAll_cons_mk (Below.trod laidOut (by kernel_rfl) (of_decide_eq_true (by kernel_rfl)) k1 bel.out lt1) (trodAll_cons_mk (shut_int Tryz.underlying65 w2) (trodAll_cons_mk (shut_int Tryz.underlying65 w3) trodAll_mk0)))), rfl, bel.out.frame _, fun h => by cases h⟩

theorem row_holds : Rows.RatioInsideSaid :=
  OpenClaim.holds_of_wide 12 Tryz.f12 rfl rfl rfl rfl rfl rfl rfl ⟨rfl, rfl, rfl, rfl, rfl⟩ rfl rfl rfl rfl rfl (by kernel_rfl) Tryz.func12 (by kernel_rfl)
    (of_decide_eq_true (by kernel_rfl)) (by unfold Func.isWrapper; first | (rw [if_pos (by decide +kernel)]; kernel_rfl) | (rw [if_neg (by decide +kernel)]; exact ⟨rfl, rfl⟩))
    (fun os started H enc _ => lifted os started H enc)

/-- The card. -/
theorem proved : Rows.RatioInsideCardSaid :=
  Claim7.holds_tied_plain_at .later [] [.data, .data, .data, .data, .sentinel, .sentinel, .pinned] true Rows.ratioInsideCard.stood.harness true
    row_holds (fun _ h => by cases h) (by kernel_rfl) (fun _ h => by cases h) ratioInside_row_tie rfl ⟨rfl, rfl⟩ (by kernel_rfl) rfl
    (fun f fn hf hfn => by
      obtain rfl : f = 12 := Option.some.inj ((show Tryz.prog.funcNamed "flowpipe/flowpipelaw04.RatioInside" = some 12 by kernel_rfl).symm.trans hf) |>.symm
      obtain rfl : fn = Tryz.f12 := (Option.some.inj (Tryz.func12.symm.trans hfn)).symm
      exact ⟨by kernel_rfl, fun j t ht => by
        rw [Tryz.params12] at ht
        have hm : t ∈ [23, 23, 65, 65] := by simpa using Array.mem_of_getElem? ht
        have hall : ([23, 23, 65, 65].all fun u => !Tryz.prog.wantsStandIn u) = true := by kernel_rfl
        exact (show Tryz.prog.wantsStandIn t = false by simpa using List.all_eq_true.1 hall t hm)⟩)
    (by kernel_rfl)
#print axioms proved
end Go.Proofs.YtnogfceojmnjiaaGreatDoor.ratioInside
