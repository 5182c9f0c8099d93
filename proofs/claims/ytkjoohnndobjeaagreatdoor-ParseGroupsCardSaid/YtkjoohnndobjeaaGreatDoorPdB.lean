/-
  The walk of tree.clone.
-/
import Derived.Test.YtkjoohnndobjeaaGreatDoorQH
import Derived.Test.YtkjoohnndobjeaaGreatDoorQJ
import Derived.Test.YtkjoohnndobjeaaGreatDoorQC
set_option linter.unusedVariables false
namespace Go.Proofs.YtkjoohnndobjeaaGreatDoor
open Go.RowKit Go.Fl Go.Fl.Fm Go.Fl.Rt Go.Fl.Pa
theorem goR_each {c : TE → Nat} : ∀ (l : List TE) (n : Nat), goR c l n ≤ 200 → ∀ x ∈ l, c x ≤ 200
  | [], _, _ => fun x h => by cases h
  | y :: l, n, h => by
    unfold goR at h
    split at h
    · intro x hx
      have h1 := goR_ge c l (n + c y)
      rcases List.mem_cons.1 hx with e | e
      · subst e; omega
      · exact goR_each l _ h x e
    · omega
theorem cR_child {f : Nat} {T : TE} (h : cR (f + 1) T ≤ 200) : nodeB nameP T.h T.l.length = true ∧ goR (cR f) T.l 1 = cR (f + 1) T ∧ ∀ j, j < T.l.length → cR f (T.l.getD j default) ≤ 200 := by
  rw [cR_succ] at h ⊢
  split at h
  · rename_i hn
    rw [if_pos hn]
    refine ⟨hn, rfl, fun j hj => goR_each T.l 1 h _ ?_⟩
    rw [List.getD_eq_getElem?_getD, List.getElem?_eq_getElem hj]
    exact List.getElem_mem hj
  · omega
/-- Six cells stored one by one. -/
def set6 (cs : Array Value) (o : Nat) (x : Nd) : Array Value :=
  (((((cs.setIfInBounds o (.int .i64 x.h.kind)).setIfInBounds (o + 1) (.int .i64 x.h.n)).setIfInBounds (o + 2) (.int .i64 x.h.d)).setIfInBounds (o + 3) (.string x.h.name)).setIfInBounds (o + 4) (.int .i64 x.h.k)).setIfInBounds (o + 5) (.slice x.A x.len x.cap)
theorem pst6_at {w : World} {g : Nat} {t : TypeId} {cs : Array Value} (hB : Blk w g t cs) (o : Nat) (x : Nd) :
    (((((w.setCell ⟨g, o, none⟩ (.int .i64 x.h.kind)).setCell ⟨g, o + 1, none⟩ (.int .i64 x.h.n)).setCell ⟨g, o + 2, none⟩ (.int .i64 x.h.d)).setCell ⟨g, o + 3, none⟩ (.string x.h.name)).setCell ⟨g, o + 4, none⟩ (.int .i64 x.h.k)).setCell ⟨g, o + 5, none⟩ (.slice x.A x.len x.cap) = putB w g t (set6 cs o x) := by
  rw [hB.setCell_eq o _, (hB.put _).setCell_eq (o + 1) _, putB_putB, (hB.put _).setCell_eq (o + 2) _, putB_putB, (hB.put _).setCell_eq (o + 3) _, putB_putB, (hB.put _).setCell_eq (o + 4) _, putB_putB, (hB.put _).setCell_eq (o + 5) _, putB_putB]
  rfl
theorem set6_get (cs : Array Value) (o : Nat) (x : Nd) (h : o + 6 ≤ cs.size) (j : Nat) : (set6 cs o x)[j]? = if o ≤ j ∧ j < o + 6 then x.cells[j - o]? else cs[j]? := by
  unfold set6
  simp only [Array.getElem?_setIfInBounds]
  by_cases h0 : o ≤ j ∧ j < o + 6
  · rw [if_pos h0]
    obtain ⟨i, rfl⟩ : ∃ i, j = o + i := ⟨j - o, by omega⟩
    have hi : i = 0 ∨ i = 1 ∨ i = 2 ∨ i = 3 ∨ i = 4 ∨ i = 5 := by omega
    rw [show o + i - o = i by omega]
    rcases hi with rfl | rfl | rfl | rfl | rfl | rfl <;> simp [Nd.cells] <;> omega
  · rw [if_neg h0, if_neg (by omega), if_neg (by omega), if_neg (by omega), if_neg (by omega), if_neg (by omega), if_neg (by omega)]
theorem nds_len (l : List Nd) : (ndsCells l).length = l.length * 6 := by
  unfold ndsCells
  induction l with
  | nil => rfl
  | cons x l ih => rw [List.flatMap_cons, List.length_append, ih]; show 6 + l.length * 6 = (l.length + 1) * 6; omega
theorem nds_app (a b : List Nd) : ndsCells (a ++ b) = ndsCells a ++ ndsCells b := by unfold ndsCells; rw [List.flatMap_append]
/-- What stands in the row's block. -/
def RowAt (cs : Array Value) (l : List Nd) : Prop := ∀ (j : Nat) (u : Value), (ndsCells l)[j]? = some u → cs[j]? = some u
theorem row_set {cs : Array Value} {us vs : List Nd} {x y : Nd} (h : RowAt cs (us ++ x :: vs)) : RowAt (set6 cs (us.length * 6) y) ((us ++ [y]) ++ vs) := by
  have hsz : us.length * 6 + 6 ≤ cs.size := by
    have h1 := h (us.length * 6 + 5) (.slice x.A x.len x.cap) (by
      rw [nds_app, List.getElem?_append_right (by rw [nds_len]; omega), nds_len, show us.length * 6 + 5 - us.length * 6 = 5 by omega]
      rfl)
    have := (Array.getElem?_eq_some_iff.1 h1).1
    omega
  intro j u hu
  rw [set6_get _ _ _ hsz]
  rw [List.append_assoc, nds_app] at hu
  split
  · rename_i hj
    rw [List.getElem?_append_right (by rw [nds_len]; omega), nds_len] at hu
    have e : ndsCells ([y] ++ vs) = y.cells ++ ndsCells vs := rfl
    rw [e, List.getElem?_append_left (by show j - us.length * 6 < 6; omega)] at hu
    exact hu
  · rename_i hj
    refine h j u ?_
    rw [nds_app]
    by_cases h1 : j < us.length * 6
    · rw [List.getElem?_append_left (by rw [nds_len]; exact h1)] at hu ⊢
      exact hu
    · rw [List.getElem?_append_right (by rw [nds_len]; omega), nds_len] at hu ⊢
      have e : ndsCells ([y] ++ vs) = y.cells ++ ndsCells vs := rfl
      have e2 : ndsCells (x :: vs) = x.cells ++ ndsCells vs := rfl
      rw [e, List.getElem?_append_right (by show 6 ≤ j - us.length * 6; omega)] at hu
      rw [e2, List.getElem?_append_right (by show 6 ≤ j - us.length * 6; omega)]
      exact hu
theorem row_cell {cs : Array Value} {us vs : List Nd} {x : Nd} (h : RowAt cs (us ++ x :: vs)) (i : Nat) (u : Value) (hu : x.cells[i]? = some u) : cs[us.length * 6 + i]? = some u := by
  have hi : i < 6 := by
    have := (List.getElem?_eq_some_iff.1 hu).1
    exact this
  refine h _ u ?_
  rw [nds_app, List.getElem?_append_right (by rw [nds_len]; omega), nds_len, show us.length * 6 + i - us.length * 6 = i by omega]
  have e2 : ndsCells (x :: vs) = x.cells ++ ndsCells vs := rfl
  rw [e2, List.getElem?_append_left (by show i < 6; omega)]
  exact hu
/-- slices.Clone of elements: nil, or a new block. -/
def ClP (len : Nat) (vs : List Nd) (w : World) (e : Ending) (w' : World) : Prop :=
  ∃ (A : Option Addr) (cap : Nat), e = .returned (.slice A len cap) ∧ Hid (len ≤ cap ∧ cap ≤ maxLen) ∧ Hid (Below w.heap.size w w') ∧ Hid (0 < len → ∃ g cs, A = some ⟨g, 0, none⟩ ∧ w.heap.size ≤ g ∧ g < w'.heap.size ∧ Blk w' g 29 cs ∧ RowAt cs vs)
theorem nds_one (l : List Nd) : ∀ u ∈ ndsCells l, u.oneCell' = true := by
  intro u hu
  simp only [ndsCells, List.mem_flatMap] at hu
  obtain ⟨x, _, hu⟩ := hu
  simp [Nd.cells] at hu
  rcases hu with rfl | rfl | rfl | rfl | rfl | rfl <;> rfl
theorem Tryz.infoExpr : (Tryz.prog.info? 29).map (fun i => (i.zero, i.size, i.bytes)) = some (some (.agg #[.int .i64 0, .int .i64 0, .int .i64 0, .string ⟨#[]⟩, .int .i64 0, .slice none 0 0]), 6, 72) := by kernel_rfl
set_option maxHeartbeats 1000000 in
set_option maxRecDepth 100000 in
theorem cl_any (A : Option Addr) (len cap : Nat) (vs : List Nd) (w : World) (hr : Rd w 6 A len (ndsCells vs)) (hl : vs.length = len) (hc : len ≤ cap) (h2 : len ≤ 1000) : Calls Tryz.prog 132 #[.slice A len cap] w (ClP len vs w) := by
  cases A with
  | none =>
    have h0 : len = 0 := by
      rcases Nat.eq_zero_or_pos len with h | h
      · exact h
      · obtain ⟨b, o, e, _⟩ := hr.2 h
        cases e
    subst h0
    clear hr
    have hnil : ∀ w : World, (binOp .eql 27 (.slice none 0 cap) (.slice none 0 0)).run Tryz.prog w = .ok (.bool true) w := fun w => Lib.run_eql_slice_nil (h := Tryz.underlying27) ..
    go_enter Tryz.func132, Tryz.ntmps132
    go_wp2_with fail
    go_ret
    exact ⟨none, 0, rfl, Lib.hid ⟨Nat.le_refl _, Nat.zero_le _⟩, Lib.hid (Below.refl _ _), Lib.hid (fun h => absurd h (Nat.lt_irrefl 0))⟩
  | some ad =>
    obtain ⟨i0, ti, tz0, tz1, tz2⟩ := info_parts Tryz.infoExpr
    have HRD := Lib.hid hr
    clear hr
    have HOWN := Lib.hid (show (w.alloc (.cells #[] 29)).ownsRow w.heap.size 29 6 (.slice (some ⟨w.heap.size, 0, none⟩) 0 0) 0 [] from ⟨rfl, .inr ⟨w.heap.size, 0, #[], rfl, Nat.le_refl _, Blk.new _ _ _, Nat.le_refl _, by unfold maxLen; omega, rfl, rfl⟩⟩)
    have hnil : ∀ w : World, (binOp .eql 27 (.slice (some ad) len cap) (.slice none 0 0)).run Tryz.prog w = .ok (.bool false) w := fun w => Lib.run_eql_slice_nil (h := Tryz.underlying27) ..
    go_enter Tryz.func132, Tryz.ntmps132
    go_wp2_with (at_builtin; refine wpList_append_rd _ rfl _ _ _ rfl w.heap.size 29 i0 _ 6 72 Tryz.underlying27 ti tz0 tz1 tz2 rfl (by omega) (.slice (some ⟨w.heap.size, 0, none⟩) 0 0) 0 [] rfl (by exact HOWN.out) (some ad) len cap (by simp) (ndsCells vs) rfl (by exact HRD.out.alloc _) (nds_one vs) (by unfold maxLen; omega) (by omega) (by simp) ?_)
    intro v' w2 hown2 hgrow
    have HO2 := Lib.hid (show w2.ownsRow w.heap.size 29 6 v' len (ndsCells vs) by simpa using hown2)
    have HL2 := Lib.hid (((Below.refl w.heap.size w).alloc (Nat.le_refl _) (.cells #[] 29)).trans (below_of_grown hgrow (by
      intro g hg
      have : w.heap.size = g := by simpa [Value.ownBlock] using hg
      omega) (by simp)))
    clear hown2 hgrow ti tz0 tz1 tz2 hnil
    go_wp2_with fail
    go_ret
    obtain ⟨hx, ⟨h1, h3⟩ | ⟨g, cap2, cur, hv, hg, hcell, hn, hm, hcs, htk⟩⟩ := HO2.out
    · subst h1 h3
      exact ⟨none, 0, rfl, Lib.hid ⟨Nat.le_refl _, Nat.zero_le _⟩, HL2, Lib.hid (fun h => absurd h (Nat.lt_irrefl 0))⟩
    · subst hv
      refine ⟨some ⟨g, 0, none⟩, cap2, rfl, Lib.hid ⟨hn, hm⟩, HL2, Lib.hid (fun _ => ⟨g, cur, rfl, hg, (Array.getElem?_eq_some_iff.1 hcell).1, hcell, fun j u hu => ?_⟩)⟩
      have h2 : cur.toList[j]? = some u := by
        rw [← htk, List.getElem?_take] at hu
        split at hu
        · exact hu
        · cases hu
      rw [← Array.getElem?_toList]
      exact h2
set_option maxHeartbeats 4000000 in
set_option maxRecDepth 100000 in
theorem eclone_any : ∀ (f : Nat) (T : TE) (v : Nd) (w : World), InE w T v → cR f T ≤ 200 → f ≤ 20 → Calls Tryz.prog 97 #[v.val] w (fun e w' => ∃ v' : Nd, e = .returned v'.val ∧ Hid (InX w.heap.size w' T v') ∧ Hid (Below w.heap.size w w')) := by
  intro f
  induction f with
  | zero => exact fun T v w _ h => absurd h (by show ¬ 1048576 ≤ 200; decide)
  | succ f ih =>
    intro T v w hin hc hf
    have HN := Lib.hid (cR_child hc).1
    have HC := Lib.hid (cR_child hc).2.2
    have IH := Lib.hid ih
    have HIN := Lib.hid hin
    clear ih hc
    cases hin with
    | mk h l A len cap vs ok hl hcc hm hv hr hi =>
    have HOK := Lib.hid ok
    have HLN := Lib.hid hl
    have HVL := Lib.hid hv
    have HRD := Lib.hid hr
    have HI := Lib.hid hi
    have hl1000 : len ≤ 1000 := by
      rcases node_kinds HN.out with ⟨_, e, _⟩ | ⟨_, e, _⟩ | ⟨_, _, e⟩ | ⟨_, e⟩ | ⟨_, e, _⟩ | ⟨_, _, e⟩ <;> (simp only [TE.l] at e; omega)
    have HCM := Lib.hid (And.intro hcc hm)
    clear ok hl hv hr hi hcc hm
    obtain ⟨kd, n, d, nm, k⟩ := h
    simp only [Nd.val]
    simp only [TE.l] at HC
    go_enter Tryz.func97, Tryz.ntmps97
    go_upto_region 1 with (fail)
    obtain ⟨w1, hw1⟩ : ∃ z9 : World, z9 = (w.alloc (Obj.cells #[.int .i64 kd, .int .i64 n, .int .i64 d, .string nm, .int .i64 k, .slice A len cap] 29)).alloc (Obj.cells #[.int .i64 0, .int .i64 0, .int .i64 0, .string ⟨#[]⟩, .int .i64 0, .slice none 0 0] 29) := ⟨_, rfl⟩
    have HW1 := Lib.hid (show Below w.heap.size w w1 by rw [hw1]; exact (below_box _ _).trans ((below_box _ _).mono (by simp)))
    have F1 := Lib.hid (show Blk w1 w.heap.size 29 #[.int .i64 kd, .int .i64 n, .int .i64 d, .string nm, .int .i64 k, .slice A len cap] by rw [hw1]; exact Blk.belowW (Blk.new _ _ _) (below_box _ _))
    have R1 := Lib.hid (show Blk w1 (w.heap.size + 1) 29 #[.int .i64 0, .int .i64 0, .int .i64 0, .string ⟨#[]⟩, .int .i64 0, .slice none 0 0] by rw [hw1]; have := Blk.new (w.alloc (Obj.cells #[.int .i64 kd, .int .i64 n, .int .i64 d, .string nm, .int .i64 k, .slice A len cap] 29)) 29 #[.int .i64 0, .int .i64 0, .int .i64 0, .string ⟨#[]⟩, .int .i64 0, .slice none 0 0]; simpa using this)
    rw [← hw1]
    clear hw1
    have pr5 : w1.cell? ⟨w.heap.size, 5, none⟩ = some (.slice A len cap) := F1.out.cell 5
    go_wp2_with fail
    refine (cl_any A len cap vs w1 (HRD.out.below HW1.out) HVL.out HCM.out.1 hl1000).mono ?_
    rintro e w2 ⟨A2, cap2, rfl, HC2, HB2, HG2⟩
    have HW2 := Lib.hid (HW1.out.trans (HB2.out.mono HW1.out.size))
    have F2 := Lib.hid (F1.out.belowW HB2.out)
    have R2 := Lib.hid (R1.out.belowW HB2.out)
    have hs1 : w.heap.size + 1 < w1.heap.size := R1.out.lt
    clear pr5
    have hlm : len ≤ 9223372036854775807 := by omega
    obtain ⟨s2, hs2⟩ : ∃ s, s = w2.heap.size := ⟨_, rfl⟩
    have HS2 := Lib.hid hs2
    have hs12 : w1.heap.size ≤ s2 := by rw [hs2]; exact HB2.out.size
    clear hs2
    have key : ∃ g : Nat, w1.heap.size ≤ g ∧ Hid (0 < len → ∃ cs, A2 = some ⟨g, 0, none⟩ ∧ w1.heap.size ≤ g ∧ g < s2 ∧ Blk w2 g 29 cs ∧ RowAt cs vs) := by
      by_cases h0 : 0 < len
      · obtain ⟨g, cs, h1, h2, h3, h4⟩ := HG2.out h0
        exact ⟨g, h2, Lib.hid (fun _ => ⟨cs, h1, h2, by rw [HS2.out]; exact h3, h4⟩)⟩
      · exact ⟨s2, hs12, Lib.hid (fun h => absurd h h0)⟩
    obtain ⟨g, hgw, HG⟩ := key
    go_wp2_with fail
    go_loopg [10] len (fun gg iv wr => ∃ (j : Nat) (us : List Nd), iv = .int .i64 j ∧ j ≤ len ∧ gg = len - j ∧ us.length = j ∧ Hid (0 < len → ∃ cs, Blk wr g 29 cs ∧ RowAt cs (us ++ vs.drop j)) ∧ Hid (∀ (i : Nat) T v, l[i]? = some T → us[i]? = some v → InX s2 wr T v) ∧ Hid (w2.grownBy wr (some g)))
    case atStart => exact ⟨0, [], rfl, by omega, by omega, rfl, Lib.hid (fun h => by obtain ⟨cs, _, _, _, h1, h2⟩ := HG.out h; exact ⟨cs, h1, by simpa using h2⟩), Lib.hid (fun i T v _ h => by cases h), Lib.hid (World.grownBy.refl _ _)⟩
    case round =>
      obtain ⟨j, us, rfl, hj, rfl, hul, HCS, HUS, HL⟩ := hrel
      have HULN := Lib.hid hul
      clear hul
      by_cases hjl : j < len
      · have h0 : 0 < len := by omega
        obtain ⟨cs0, hA2, hg1, hg2, _, _⟩ := HG.out h0
        obtain ⟨cs, hcs, hrow⟩ := HCS.out h0
        subst hA2
        obtain ⟨x, hx⟩ : ∃ x, vs[j]? = some x := ⟨_, List.getElem?_eq_getElem (by rw [HVL.out]; exact hjl)⟩
        have hdr : vs.drop j = x :: vs.drop (j + 1) := by
          obtain ⟨h1, h2⟩ := List.getElem?_eq_some_iff.1 hx
          rw [List.drop_eq_getElem_cons h1, h2]
        rw [hdr] at hrow
        have HCB := Lib.hid hcs
        have HRW := Lib.hid hrow
        have HWR := Lib.hid (show Below w.heap.size w wr from HW2.out.grown HL.out HW2.out.size (fun k hk => by injection hk with hk; omega))
        have hT : l[j]? = some (l.getD j default) := by
          rw [List.getD_eq_getElem?_getD, List.getElem?_eq_getElem (by rw [HLN.out]; exact hjl)]
          rfl
        have HT := Lib.hid hT
        have HX := Lib.hid ((HI.out j _ _ hT hx).go HWR.out)
        have HCJ := Lib.hid (HC.out j (by rw [HLN.out]; exact hjl))
        have rc : ∀ i u, x.cells[i]? = some u → wr.cell? ⟨g, j * 6 + i, none⟩ = some u := fun i u hu => by
          have h := row_cell hrow i u hu
          rw [HULN.out] at h
          rw [HCB.out.cell]
          exact h
        have q0 : wr.cell? ⟨g, j * 6, none⟩ = some (.int .i64 x.h.kind) := rc 0 _ rfl
        have q1 : wr.cell? ⟨g, j * 6 + 1, none⟩ = some (.int .i64 x.h.n) := rc 1 _ rfl
        have q2 : wr.cell? ⟨g, j * 6 + 2, none⟩ = some (.int .i64 x.h.d) := rc 2 _ rfl
        have q3 : wr.cell? ⟨g, j * 6 + 3, none⟩ = some (.string x.h.name) := rc 3 _ rfl
        have q4 : wr.cell? ⟨g, j * 6 + 4, none⟩ = some (.int .i64 x.h.k) := rc 4 _ rfl
        have q5 : wr.cell? ⟨g, j * 6 + 5, none⟩ = some (.slice x.A x.len x.cap) := rc 5 _ rfl
        have n1 : decide (j < len) = true := decide_eq_true hjl
        have K := Lib.hid (IH.out _ x wr HX.out HCJ.out (by omega))
        clear rc hx hT hdr hcs hrow
        go_wp2_with fail
        refine K.out.mono ?_
        rintro e w3 ⟨c, rfl, HX3, HB3⟩
        have HCB3 := Lib.hid (HCB.out.belowW HB3.out)
        have r0 : w3.cell? ⟨g, j * 6, none⟩ = some (.int .i64 x.h.kind) := by rw [HB3.out.cell (p := ⟨g, _, none⟩) HCB.out.lt]; exact q0
        have r1 : w3.cell? ⟨g, j * 6 + 1, none⟩ = some (.int .i64 x.h.n) := by rw [HB3.out.cell (p := ⟨g, _, none⟩) HCB.out.lt]; exact q1
        have r2 : w3.cell? ⟨g, j * 6 + 2, none⟩ = some (.int .i64 x.h.d) := by rw [HB3.out.cell (p := ⟨g, _, none⟩) HCB.out.lt]; exact q2
        have r3 : w3.cell? ⟨g, j * 6 + 3, none⟩ = some (.string x.h.name) := by rw [HB3.out.cell (p := ⟨g, _, none⟩) HCB.out.lt]; exact q3
        have r4 : w3.cell? ⟨g, j * 6 + 4, none⟩ = some (.int .i64 x.h.k) := by rw [HB3.out.cell (p := ⟨g, _, none⟩) HCB.out.lt]; exact q4
        have r5 : w3.cell? ⟨g, j * 6 + 5, none⟩ = some (.slice x.A x.len x.cap) := by rw [HB3.out.cell (p := ⟨g, _, none⟩) HCB.out.lt]; exact q5
        have f0 : w3.frozen? ⟨g, j * 6, none⟩ = false := HCB3.out.frozen _
        have f1 : w3.frozen? ⟨g, j * 6 + 1, none⟩ = false := HCB3.out.frozen _
        have f2 : w3.frozen? ⟨g, j * 6 + 2, none⟩ = false := HCB3.out.frozen _
        have f3 : w3.frozen? ⟨g, j * 6 + 3, none⟩ = false := HCB3.out.frozen _
        have f4 : w3.frozen? ⟨g, j * 6 + 4, none⟩ = false := HCB3.out.frozen _
        have f5 : w3.frozen? ⟨g, j * 6 + 5, none⟩ = false := HCB3.out.frozen _
        clear q0 q1 q2 q3 q4 q5
        go_upto_region 6 with (fail)
        rw [pst6_at HCB3.out (j * 6) c]
        have hwr2 : s2 ≤ wr.heap.size := by rw [HS2.out]; exact HL.out.size
        obtain ⟨w4, hw4⟩ : ∃ z9 : World, z9 = putB w3 g 29 (set6 cs (j * 6) c) := ⟨_, rfl⟩
        have HCB4 := Lib.hid (show Blk w4 g 29 (set6 cs (us.length * 6) c) by rw [hw4, HULN.out]; exact HCB3.out.put _)
        have HG4 := Lib.hid (show w3.grownBy w4 (some g) by rw [hw4]; exact putB_grown _ _ _ _)
        rw [← hw4]
        clear hw4 r0 r1 r2 r3 r4 r5 f0 f1 f2 f3 f4 f5
        have HL4 := Lib.hid (grown_trans HL.out (grown_trans (grown_below (some g) HB3.out) HG4.out))
        have HUS4 := Lib.hid (show ∀ (i : Nat) T v, l[i]? = some T → (us ++ [c])[i]? = some v → InX s2 w4 T v from fun i T v h1 h2 => by
          by_cases hi : i < us.length
          · rw [List.getElem?_append_left hi] at h2
            exact ((HUS.out i T v h1 h2).belowW HB3.out).mv hg2 HG4.out
          · rw [List.getElem?_append_right (by omega)] at h2
            have hi2 : i = us.length := by
              have := (List.getElem?_eq_some_iff.1 h2).1
              simp at this
              omega
            subst hi2
            rw [Nat.sub_self] at h2
            injection h2 with h2
            subst h2
            have h3 := HT.out
            rw [← HULN.out] at h3
            rw [h1] at h3
            injection h3 with h3
            subst h3
            have h4 := HX3.out.weaken hwr2
            rw [← HULN.out] at h4
            exact h4.mv hg2 HG4.out)
        go_wp2_with fail
        go_roundg (len - (j + 1))
        case measure => omega
        case rel => exact ⟨j + 1, us ++ [c], by go_num, by omega, rfl, by rw [List.length_append, HULN.out]; rfl, Lib.hid (fun _ => ⟨_, HCB4.out, row_set HRW.out⟩), HUS4, HL4⟩
      · have hj2 : j = len := by omega
        subst hj2
        have n1 : decide (j < j) = false := decide_eq_false (by omega)
        have FR := Lib.hid (F2.out.grown HL.out (by intro e; injection e with e; omega))
        have RR := Lib.hid (R2.out.grown HL.out (by intro e; injection e with e; omega))
        have HWR := Lib.hid (show Below w.heap.size w wr from HW2.out.grown HL.out HW2.out.size (fun k hk => by injection hk with hk; omega))
        have HT := Lib.hid (show InA (fun b => b = g ∨ s2 ≤ b) wr (TE.mk ⟨kd, n, d, nm, k⟩ l) ⟨⟨kd, n, d, nm, k⟩, A2, j, cap2⟩ from by
          refine .mk _ l A2 j cap2 us HOK.out HLN.out HC2.out.1 HC2.out.2 HULN.out ⟨by rw [nds_len, HULN.out], fun h => ?_⟩ (fun h b o e => ?_) (fun i T v h1 h2 => InA.weaken (HUS.out i T v h1 h2) (fun b hb => .inr hb))
          · obtain ⟨_, hA2, _, hg2, _, _⟩ := HG.out h
            obtain ⟨cs, hcs, hrow⟩ := HCS.out h
            refine ⟨g, 0, hA2, hcs.lt, fun i u hu => ?_⟩
            rw [Nat.zero_add, hcs.cell]
            refine hrow i u ?_
            rw [List.drop_eq_nil_of_le (by rw [HVL.out]; omega), List.append_nil]
            exact hu
          · obtain ⟨_, hA2, _, hg2, _, _⟩ := HG.out h
            rw [e] at hA2
            injection hA2 with hA2
            injection hA2 with hA2
            exact .inl hA2)
        have hp5 : wr.cell? ⟨w.heap.size, 5, none⟩ = some (.slice A j cap) := FR.out.cell 5
        have hf5 : wr.frozen? ⟨w.heap.size, 5, none⟩ = false := FR.out.frozen 5
        go_upto_region 8 with (fail)
        rw [FR.out.setCell_eq]
        obtain ⟨w4, hw4⟩ : ∃ z9 : World, z9 = putB wr w.heap.size 29 (#[Value.int .i64 kd, .int .i64 n, .int .i64 d, .string nm, .int .i64 k, .slice A j cap].setIfInBounds 5 (.slice A2 j cap2)) := ⟨_, rfl⟩
        have F4 := Lib.hid (show Blk w4 w.heap.size 29 #[.int .i64 kd, .int .i64 n, .int .i64 d, .string nm, .int .i64 k, .slice A2 j cap2] by rw [hw4]; exact FR.out.put _)
        have HG4 := Lib.hid (show wr.grownBy w4 (some w.heap.size) by rw [hw4]; exact putB_grown _ _ _ _)
        rw [← hw4]
        clear hw4 hp5 hf5
        have R4 := Lib.hid (RR.out.grown HG4.out (by intro e; injection e with e; omega))
        have HT4 := Lib.hid (HT.out.mv (g := w.heap.size) (fun h => by rcases h with h | h <;> omega) HG4.out)
        have HWR4 := Lib.hid (show Below w.heap.size w w4 from HWR.out.grown HG4.out HWR.out.size (fun k hk => by injection hk with hk; omega))
        obtain ⟨a0, _, a1, _, a2, _, a3, _, a4, _, a5, _⟩ := F4.out.all6
        obtain ⟨r0, f0, r1, f1, r2, f2, r3, f3, r4, f4, r5, f5⟩ := R4.out.all6
        go_wp2_with fail
        rw [pst6 R4.out]
        have HW5 := Lib.hid (HWR4.out.grown (putB_grown w4 (w.heap.size + 1) 29 #[.int .i64 kd, .int .i64 n, .int .i64 d, .string nm, .int .i64 k, .slice A2 j cap2]) HWR4.out.size (fun k hk => by injection hk with hk; omega))
        have FZ := Lib.hid (R4.out.put #[.int .i64 kd, .int .i64 n, .int .i64 d, .string nm, .int .i64 k, .slice A2 j cap2])
        have HT5 := Lib.hid (HT4.out.far (r := w.heap.size + 1) (fun h => by rcases h with h | h <;> omega) 29 #[.int .i64 kd, .int .i64 n, .int .i64 d, .string nm, .int .i64 k, .slice A2 j cap2])
        obtain ⟨z0, _, z1, _, z2, _, z3, _, z4, _, z5, _⟩ := FZ.out.all6
        refine bodyPost_ret (v := .agg #[.int .i64 kd, .int .i64 n, .int .i64 d, .string nm, .int .i64 k, .slice A2 j cap2]) (by simp [results, Tryz.results97, go_sem, z0, z1, z2, z3, z4, z5]) rfl ?_
        exact ⟨⟨⟨kd, n, d, nm, k⟩, A2, j, cap2⟩, rfl, Lib.hid (HT5.out.weaken (fun b hb => by rcases hb with h | h <;> omega)), HW5⟩
end Go.Proofs.YtkjoohnndobjeaaGreatDoor
