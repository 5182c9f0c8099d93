/-
  strings.Builder's String: one block alone changes. What Expr and Problem answer, with the zero values where there is an error.
-/
import Derived.Test.YtkjoohnndobjeaaGreatDoorQa
import Derived.Test.YtkjoohnndobjeaaGreatDoorPbH
import Derived.Test.YtkjoohnndobjeaaGreatDoorPgI
set_option linter.unusedVariables false
set_option maxHeartbeats 2000000
set_option maxRecDepth 100000
namespace Go.Proofs.YtkjoohnndobjeaaGreatDoor
open Go.RowKit Go.Lib Go.Fl Go.Fl.Lx Go.Fl.Nm Go.Fl.Fm Go.Fl.Rt Go.Fl.Pa
theorem grown_freeze (w : World) (g n : Nat) : w.grownBy (w.drew.freeze ⟨g, 0, none⟩ n) (some g) := by
 unfold World.freeze
 split
 ·
  exact ⟨rfl, rfl, rfl, Nat.le_refl _, fun _ _ _ => rfl⟩
 exact ⟨rfl, rfl, rfl, by simp [World.drew, -World.drew_eq], fun k hk hne => by
  have hn : ¬ g = k := fun e => hne (by rw [e])
  simp only [Array.getElem?_modify]
  rw [if_neg hn]
  rfl⟩
theorem bstr_own (B b : Nat) (l : List UInt8) (w0 w : World) (h : Bd B b l w0) (hb : Below w0.heap.size w0 w) (h0 : l ≠ []) :
    Calls Tryz.prog 38 #[.pointer (some ⟨b, 0, none⟩)] w fun e w' => e = .returned (.string ⟨l.toArray⟩) ∧ ∃ g, B ≤ g ∧ g < w0.heap.size ∧ Hid (w.grownBy w' (some g)) := by
  have y := h
  obtain ⟨p, z⟩ : ∃ p, Lib.BuilderAtF 87 5 B b p (Lib.byteCells l) w0 := by
    rcases h with h | h
    · exact ⟨_, h⟩
    · exact ⟨_, h⟩
  have n : ∀ g o, w0.heap[g]? = some o → g < w0.heap.size := fun g o e => (Array.getElem?_eq_some_iff.1 e).1
  obtain ⟨L, v, q, k, C⟩ := z
  have D : l.length ≠ 0 := by simpa using h0
  rw [Lib.byteCells_length] at k
  obtain ⟨g, c, d, i, rfl, E, m, F, M, G, H, I⟩ : ∃ g c d i, v = .slice (some ⟨g, 0, none⟩) l.length c ∧ B ≤ g ∧ w0.heap[g]? = some (.cells d 5 i) ∧ i.2 ≤ l.length * 1 ∧ l.length ≤ c ∧ c ≤ maxLen ∧ d.size = c * 1 ∧ d.toList.take (l.length * 1) = Lib.byteCells l := by
    rcases k.2 with ⟨_, hz⟩ | ⟨g, c, d, i, hv, r⟩
    · exact absurd hz D
    · exact ⟨g, c, d, i, hv, r⟩
  have s := n g _ m
  have u : w.drew.heap[g]? = some (.cells d 5 i) := (hb.block g s).trans m
  have N : w.drew.cell? ⟨b, 1, none⟩ = some (.slice (some ⟨g, 0, none⟩) l.length c) := by
    have : w.drew.heap[b]? = _ := (hb.block b (n b _ q)).trans q
    rw [Lib.cell_of_heap this]; rfl
  have O : (Builtin.unsafeSliceData_ #[85] 122 #[.slice (some ⟨g, 0, none⟩) l.length c]).run Tryz.prog w.drew = .ok (.pointer (some ⟨g, 0, none⟩)) w.drew :=
    Lib.run_unsafeSliceData_row _ _ _ _ _ _ (by omega)
  have P : (Builtin.unsafeString_ #[122, 3] 9 #[.pointer (some ⟨g, 0, none⟩), .int .i64 l.length]).run Tryz.prog w.drew = .ok (.string ⟨l.toArray⟩) (w.drew.freeze ⟨g, 0, none⟩ l.length) := by
    refine Lib.run_unsafeString_row w.drew 122 3 9 5 Tryz.lays156.t127 Tryz.Builder_Extra_156.cellsByte g d.size (by simp [World.shape?, u]) l h0 (by omega) (by unfold maxLen at G; omega) ?_
    intro j x hx
    have := k.cells (g := g) rfl j (.int .u8 x.toNat) (by simp [Lib.byteCells, hx])
    have e : ∀ a : Addr, a.block = g → w.drew.cell? a = w0.cell? a := fun a ha => by
      unfold World.cell?
      rw [ha, u, m]
    exact (e _ (by unfold Addr.add; split <;> rfl)).trans this
  clear k C I F H h y
  have Q : Tryz.prog.follows .mixedOrders = true := by kernel_rfl
  have J := hI (grown_freeze w g l.length)
  go_enter Tryz.func38, Tryz.ntmps38
  go_wp2
  go_region_o
  all_goals (go_wp2; go_ret; exact ⟨rfl, g, E, s, J⟩)
/-! What is read, with the zero values where there is an error. -/
def zT : TE := .mk ⟨0, 0, 0, ⟨#[]⟩, 0⟩ []
def exT (l : List UInt8) : TE := if (exprR l).1.2.2 = 0 then (exprR l).2.getD zT else zT
def pbT (l : List UInt8) : PbP := if (probR l).1.2.2 = 0 then (probR l).2.getD zPb.pl else zPb.pl
theorem exT_eq {l m : List UInt8} (h1 : (exprR m).1.2.2 = (exprR l).1.2.2) (h2 : (exprR m).2 = (exprR l).2) : exT m = exT l := by unfold exT; rw [h1, h2]
theorem pbT_eq {l m : List UInt8} (h1 : (probR m).1.2.2 = (probR l).1.2.2) (h2 : (probR m).2 = (probR l).2) : pbT m = pbT l := by unfold pbT; rw [h1, h2]
def exE (l : List UInt8) : Nat := (exprR l).1.2.2
def pbE (l : List UInt8) : Nat := (probR l).1.2.2
theorem pExpr_t (s : ByteArray) (w : World) (hs : s.size ≤ maxLen) (hR : RX w) (hX : FX w) : Calls Tryz.prog 21 #[.string s] w fun e w' => ∃ (v : Nd) (ln co : Nat), e = .returned (.tuple #[v.val, .agg #[.int .i64 ln, .int .i64 co], .int .i64 (exE s.data.toList)]) ∧ Hid (Below w.heap.size w w') ∧ Hid (InX w.heap.size w' (exT s.data.toList) v) :=
  (pExpr s w hs hR hX).mono (by
    rintro e w' ⟨v, rfl, HB, h1, h2⟩
    refine ⟨v, _, _, rfl, HB, ?_⟩
    unfold exT
    by_cases h : (exprR s.data.toList).1.2.2 = 0
    · rw [if_pos h]
      obtain ⟨T, e, hx⟩ := h2 h
      rw [e]
      exact hx
    · rw [if_neg h, h1 h]
      exact inx_leaf _ _ _ ⟨by decide, by decide, by decide, by decide, by decide, by decide, by decide, by decide, by decide⟩)
theorem pProb_t (s : ByteArray) (w : World) (hs : s.size ≤ maxLen) (hR : RX w) (hX : FX w) : Calls Tryz.prog 35 #[.string s] w fun e w' => ∃ (v : PbN) (ln co : Nat), e = .returned (.tuple #[v.val, .agg #[.int .i64 ln, .int .i64 co], .int .i64 (pbE s.data.toList)]) ∧ Hid (Below w.heap.size w w') ∧ Hid (InXP w.heap.size w' (pbT s.data.toList) v) :=
  (pProblemX s w hs hR hX).mono (by
    rintro e w' ⟨v, rfl, HB, h1, h2⟩
    refine ⟨v, _, _, rfl, HB, ?_⟩
    unfold pbT
    by_cases h : (probR s.data.toList).1.2.2 = 0
    · rw [if_pos h]
      obtain ⟨T, e, hx⟩ := h2 h
      rw [e]
      exact hx
    · rw [if_neg h, h1 h]
      exact ⟨rfl, ⟨lil_nil _ _, lil_nil _ _, lil_nil _ _, by decide, by decide, by decide, by decide⟩⟩)
/-! Trees without elements lie in any world. -/
theorem inx_zero {B : Nat} {w w' : World} {v : Nd} (h : InX B w zT v) : InX B w' zT v := by
 unfold InX zT at *
 cases h with
 | mk h l A len cap vs ok hl hc hm hv hr hg hi =>
  simp at hl
  subst hl
  exact .mk _ _ _ _ _ vs ok rfl hc hm hv ⟨hr.1, fun h => absurd h (Nat.lt_irrefl _)⟩ hg (fun i T v h => by simp at h)
theorem lil_zero {Z : Type} {m : Nat} {cells : Z → List Value} {Pz : (Nat → Prop) → World → Z → Prop} {P : Nat → Prop} {w w' : World} {A : Option Addr} {len cap : Nat} (h : LiL m cells Pz P w A len cap []) : LiL m cells Pz P w' A len cap [] := by
 obtain ⟨⟨hl, hc, hm, hr, hi⟩, hg⟩ := h
 simp at hl
 subst hl
 exact ⟨⟨rfl, hc, hm, ⟨hr.1, fun h => absurd h (Nat.lt_irrefl _)⟩, fun z hz => by cases hz⟩, hg⟩
theorem inxp_zero {B : Nat} {w w' : World} {v : PbN} (h : InXP B w zPb.pl v) : InXP B w' zPb.pl v := by
 obtain ⟨hp, hz⟩ := h
 obtain ⟨A, n, c, st, A2, m, d, pa, A3, k, e, ms, t, u⟩ := v
 unfold zPb PbN.pl at hp
 simp at hp
 obtain ⟨h1, h2, h3, h4, h5⟩ := hp
 subst h1 h2 h3
 exact ⟨by unfold PbN.pl zPb; simp [h4, h5], ⟨lil_zero hz.hs, lil_zero hz.hp, lil_zero hz.hm, hz.t1, hz.t2, hz.u1, hz.u2⟩⟩
theorem ex_nil {l : List UInt8} (h : lexRes l = .ok []) : exT l = zT := by
 have e : exprR l = runS [] okE (sumP nameP [] 8 0 0) := by unfold exprR runR; rw [h]; rfl
 have e2 : (runS [] okE (sumP nameP [] 8 0 0)).1.2.2 ≠ 0 := by decide +kernel
 unfold exT
 rw [e, if_neg e2]
theorem pb_nil {l : List UInt8} (h : lexRes l = .ok []) : pbT l = zPb.pl := by
 unfold pbT probR runR
 rw [h]
 rfl
/-- String, whatever the builder holds: what lies above the loop's end stays. -/
theorem bstr_t (B b : Nat) (l : List UInt8) (w0 w : World) (h : Bd B b l w0) (hb : Below w0.heap.size w0 w) (hB : B ≤ w.heap.size) (hbl : b < w0.heap.size) :
 Calls Tryz.prog 38 #[.pointer (some ⟨b, 0, none⟩)] w fun e w' => e = .returned (.string ⟨l.toArray⟩) ∧ Hid (Below B w w') ∧ Hid (∀ N T v, w0.heap.size ≤ N → (l = [] → T = zT) → InX N w T v → InX N w' T v) ∧
  Hid (∀ N T v, w0.heap.size ≤ N → (l = [] → T = zPb.pl) → InXP N w T v → InXP N w' T v) ∧ Hid (∀ k t cs, w0.heap.size ≤ k → t ≠ 5 → Blk w k t cs → Blk w' k t cs) := by
 by_cases h0 : l = []
 ·
  refine (bstr_any B b l w (h.belowW hb) hB).mono ?_
  rintro e w' ⟨rfl, hk⟩
  refine ⟨rfl, hk.out.below, fun N T v _ hT hi => ?_, fun N T v _ hT hi => ?_, fun k t cs hN ht hi => Blk.kept hi hk.out (by omega) ht⟩
  ·
   rw [hT h0] at hi ⊢
   exact inx_zero hi
  rw [hT h0] at hi ⊢
  exact inxp_zero hi
 refine (bstr_own B b l w0 w h hb h0).mono ?_
 rintro e w' ⟨rfl, g, hg1, hg2, hg⟩
 have hg := hg.out
 refine ⟨rfl, ⟨hg.os, hg.tape, hg.output, hg.size, fun k hk => hg.block k (by omega) (fun e => by injection e with e; omega)⟩, fun N T v hN _ hi => hi.mv (by omega) hg, fun N T v hN _ hi => ⟨hi.pl, pzP.mv hi.z (fun c hc e => by injection e with e; omega) hg⟩, fun k t cs hN _ hi => Blk.grown hi hg (fun e => by injection e with e; omega)⟩
end Go.Proofs.YtkjoohnndobjeaaGreatDoor
