/-
  Steps through great drawn regions: what is done stands as a number's bits; the side conditions are reckoned with it, over the list of operations, once. Of no program.
-/
import Derived.Test.YtkjoohnndobjeaaGreatDoorQH
set_option linter.unusedVariables false
namespace Go.Proofs.YtkjoohnndobjeaaGreatDoor
open Go.RowKit Go.Fl
/-- The first m bits of a number. -/
def lst (n m : Nat) : Array Bool := ((List.range m).map fun i => n.testBit i).toArray
theorem lst_size (n m : Nat) : (lst n m).size = m := by simp [lst]
theorem lst_get (n m j : Nat) (h : j < (lst n m).size) : (lst n m)[j] = n.testBit j := by simp [lst]
theorem lst_getD (n m j : Nat) (b : Bool) (h : j < m) : (lst n m).getD j b = n.testBit j := by
  unfold lst
  simp [Array.getD, h]
theorem lst_set (n m i : Nat) : (lst n m).setIfInBounds i true = lst (n ||| 2 ^ i) m := by
  apply Array.ext
  · simp [lst]
  · intro j h1 h2
    have hj : j < (lst n m).size := by rw [lst_size]; rw [lst_size] at h2; exact h2
    rw [Array.getElem_setIfInBounds hj, lst_get, lst_get, Nat.testBit_or, Nat.testBit_two_pow]
    by_cases e : i = j
    · rw [if_pos e, decide_eq_true e, Bool.or_true]
    · rw [if_neg e, decide_eq_false e, Bool.or_false]
theorem blt_iff {a b : Nat} : Nat.blt a b = true ↔ a < b := by rw [Nat.blt_eq]
/-- Whether an operation that may be taken now is apart from all that wait. -/
def freeG (md : Region.Mode) (ops : Array Oper) (oi : Oper) (n i : Nat) : List Oper → Nat → Bool
  | [], _ => true
  | oj :: l, j => (n.testBit j || (j == i || (oj.after.any (fun e => Region.binds md e && e.on == i) || oi.apart ops oj))) && freeG md ops oi n i l (j + 1)
def freeN (md : Region.Mode) (ops : Array Oper) (n i : Nat) : Bool :=
  match ops[i]? with
  | none => false
  | some oi => freeG md ops oi n i ops.toList 0
theorem freeG_at {md : Region.Mode} {ops : Array Oper} {oi : Oper} {n i : Nat} : ∀ {l : List Oper} {s : Nat}, freeG md ops oi n i l s = true → ∀ (k : Nat) (oj : Oper), l[k]? = some oj →
    n.testBit (s + k) = true ∨ s + k = i ∨ oj.after.any (fun e => Region.binds md e && e.on == i) = true ∨ oi.apart ops oj = true
  | [], s, _, k, oj, h => by cases h
  | o :: l, s, hf, k, oj, h => by
    rw [freeG, Bool.and_eq_true] at hf
    cases k with
    | zero =>
      injection h with h
      subst h
      simpa [Bool.or_eq_true, or_assoc] using hf.1
    | succ k =>
      have := freeG_at hf.2 k oj h
      rwa [show s + 1 + k = s + (k + 1) by omega] at this
theorem free_of {md : Region.Mode} {ops : Array Oper} {n i m : Nat} (hm : ops.size = m) (h : freeN md ops n i = true) : Region.free md ops (lst n m) i = true := by
  unfold freeN at h
  unfold Region.free
  cases hi : ops[i]? with
  | none => rw [hi] at h; cases h
  | some oi =>
    rw [hi] at h
    simp only at h ⊢
    rw [List.all_eq_true]
    intro j hj
    rw [List.mem_range] at hj
    have hlj : ops.toList[j]? = some ops[j] := by rw [Array.getElem?_toList, Array.getElem?_eq_getElem hj]
    have h1 := freeG_at h j _ hlj
    rw [Nat.zero_add] at h1
    rw [lst_getD n m j true (by omega), Array.getElem?_eq_getElem hj]
    simp only [Bool.or_eq_true, beq_iff_eq]
    rcases h1 with h1 | h1 | h1 | h1
    · exact .inl (.inr h1)
    · exact .inl (.inl h1)
    · exact .inr (.inl h1)
    · exact .inr (.inr h1)
/-- Whether an operation may come up now. -/
def readyN (md : Region.Mode) (ops : Array Oper) (n i m : Nat) : Bool :=
  !n.testBit i && Nat.blt i m && (match ops[i]? with
    | none => false
    | some o => o.after.all fun e => !Region.binds md e || (n.testBit e.on && Nat.blt e.on m))
theorem ready_of {md : Region.Mode} {ops : Array Oper} {n i m : Nat} (h : readyN md ops n i m = true) : (Region.ready md ops (lst n m)).contains i = true := by
  unfold readyN at h
  rw [Bool.and_eq_true, Bool.and_eq_true] at h
  have him : i < m := blt_iff.1 h.1.2
  rw [List.contains_iff_mem, mem_ready]
  refine ⟨by rw [lst_getD n m i true him]; simpa using h.1.1, ?_⟩
  cases hi : ops[i]? with
  | none => rw [hi] at h; cases h.2
  | some o =>
    rw [hi] at h
    refine ⟨o, rfl, fun e he hb => ?_⟩
    have := Array.all_eq_true_iff_forall_mem.1 h.2 e he
    rw [hb, Bool.not_true, Bool.false_or, Bool.and_eq_true] at this
    rw [lst_getD n m e.on false (blt_iff.1 this.2)]
    exact this.1
/-- What may come up now. -/
def readyG (md : Region.Mode) (n m : Nat) : List Oper → Nat → List Nat
  | [], _ => []
  | o :: l, j => if n.testBit j then readyG md n m l (j + 1) else if o.after.all (fun e => !Region.binds md e || (n.testBit e.on && Nat.blt e.on m)) then j :: readyG md n m l (j + 1) else readyG md n m l (j + 1)
theorem readyG_eq {md : Region.Mode} {ops : Array Oper} {n m : Nat} (hm : ops.size = m) : ∀ (l : List Oper) (s : Nat), (∀ k, l[k]? = ops[s + k]?) → s + l.length = m →
    readyG md n m l s = (List.range' s l.length).filter fun i => !(lst n m).getD i true && ((ops[i]?).map (·.after.all fun e => !Region.binds md e || (lst n m).getD e.on false)).getD false
  | [], s, _, _ => rfl
  | o :: l, s, hl, hs => by
    rw [List.length_cons] at hs
    have ih := readyG_eq (md := md) (n := n) hm l (s + 1) (fun k => by have := hl (k + 1); rw [List.getElem?_cons_succ] at this; rw [this]; congr 1; omega) (by omega)
    have h0 := hl 0
    rw [List.getElem?_cons_zero, Nat.add_zero] at h0
    rw [readyG, List.length_cons, List.range'_succ, List.filter_cons, ih, lst_getD n m s true (by omega), ← h0]
    have hall : (o.after.all fun e => !Region.binds md e || (n.testBit e.on && Nat.blt e.on m)) = o.after.all fun e => !Region.binds md e || (lst n m).getD e.on false := by
      congr 1
      funext e
      by_cases he : e.on < m
      · rw [lst_getD n m e.on false he, show Nat.blt e.on m = true from blt_iff.2 he, Bool.and_true]
      · have h1 : (lst n m).getD e.on false = false := by
          unfold Array.getD
          rw [dif_neg (by rw [lst_size]; exact he)]
        have h2 : Nat.blt e.on m = false := by
          rw [Bool.eq_false_iff]
          intro h
          exact he (blt_iff.1 h)
        rw [h1, h2, Bool.and_false]
    rw [hall]
    cases n.testBit s with
    | true => simp
    | false => simp
theorem ready_eq {md : Region.Mode} {ops : Array Oper} {n m : Nat} (hm : ops.size = m) {rs : List Nat} (h : readyG md n m ops.toList 0 = rs) : Region.ready md ops (lst n m) = rs := by
  rw [← h, readyG_eq hm ops.toList 0 (fun k => by rw [Nat.zero_add, Array.getElem?_toList]) (by rw [Nat.zero_add, Array.length_toList]; exact hm)]
  unfold Region.ready
  rw [List.range_eq_range', Array.length_toList]
/-- What holds of a region once. -/
structure BigR (md : Region.Mode) (ops : Array Oper) (Q : Exit → Act → World → Prop) (m : Nat) : Prop where
  hs : Region.noSelect ops = true
  hm : ops.size = m
  hQ : ∀ c (a : Act) (d : Nat) v w, Q (.panic c) (a.put (some d) v) w → Q (.panic c) a w
section
variable {P : Program} {md : Region.Mode} {ops : Array Oper} {Q : Exit → Act → World → Prop} {S : World → Prop}
theorem nmS {fuel : Nat} {listed : Array Bool} {a : Act} {w : World} (m : Nat) (h : Hid (BigR md ops Q m) → wpAnyH P md ops Q S fuel (lst 0 m) a w)
    (hs : Region.noSelect ops = true := by kernel_rfl) (hm : ops.size = m := by kernel_rfl) (hQ : ∀ c (a : Act) (d : Nat) v w, Q (.panic c) (a.put (some d) v) w → Q (.panic c) a w := by exact fun _ _ _ _ _ h => h) (hl : listed = lst 0 m := by kernel_rfl) : wpAnyH P md ops Q S fuel listed a w := by
  rw [hl]
  exact h (Lib.hid ⟨hs, hm, hQ⟩)
theorem nmL {fuel n m : Nat} {a : Act} {w : World} (i n' : Nat) (h : wpAnyH P md ops Q S fuel (lst n' m) a w) (hn : n ||| 2 ^ i = n' := by kernel_rfl) : wpAnyH P md ops Q S fuel ((lst n m).setIfInBounds i true) a w := by
  rw [lst_set, hn]
  exact h
theorem tkD (i d n' : Nat) {oi : Oper} {v : Value} {fuel n m : Nat} {a a' : Act} {w : World} (hB : Hid (BigR md ops Q m)) (h : wpAnyH P md ops Q S fuel (lst n' m) a' w)
    (hi : ops[i]? = some oi := by rfl)
    (hy : YieldsIf P ops S oi v a := by exact .inl ⟨by rfl, by intro w9 hSw; (try dsimp only at hSw); go_simp; (try with_reducible rfl)⟩)
    (hd : oi.dst = some d := by rfl)
    (ha : a.put (some d) v = a' := by (try simp only [Act.put, List.setIfInBounds_toArray, List.set_cons_zero, List.set_cons_succ]); exact rfl)
    (hn : n ||| 2 ^ i = n' := by kernel_rfl) (hf : freeN md ops n i = true := by kernel_rfl) (hr : readyN md ops n i m = true := by kernel_rfl)
    (hS : S w := by assumption) : wpAnyH P md ops Q S (fuel + 1) (lst n m) a w :=
  wpAnyH_take hi hB.out.hs (free_of hB.out.hm hf) (ready_of hr) (fun c a w h => hB.out.hQ c a d v w (by rw [← hd]; exact h)) hy hS (by rw [lst_set, hn, hd, ha]; exact h)
theorem rdD {rs : List Nat} {fuel n m : Nat} {a : Act} {w : World} (hB : Hid (BigR md ops Q m)) (h : AllReadyH P md ops Q S fuel (lst n m) a w rs) (hr : readyG md n m ops.toList 0 = rs := by kernel_rfl) (hne : rs ≠ [] := by simp) : wpAnyH P md ops Q S (fuel + 1) (lst n m) a w :=
  wpAnyH_ready (rs := rs) (ready_eq hB.out.hm hr) hne h
theorem dnD {fuel n m : Nat} {a : Act} {w : World} (hB : Hid (BigR md ops Q m)) (h : Q .normal a w) (hr : readyG md n m ops.toList 0 = [] := by kernel_rfl) : wpAnyH P md ops Q S fuel (lst n m) a w :=
  wpAnyH_done (ready_eq hB.out.hm hr) h _
end
end Go.Proofs.YtkjoohnndobjeaaGreatDoor
