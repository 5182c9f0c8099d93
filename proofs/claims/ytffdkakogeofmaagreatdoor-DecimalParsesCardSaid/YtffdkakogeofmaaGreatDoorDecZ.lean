/-
  Texts of other forms are refused, in plain Lean. Of no program.
-/
import Derived.Test.YtffdkakogeofmaaGreatDoorDecV
set_option linter.unusedVariables false
namespace Go.Proofs.YtffdkakogeofmaaGreatDoor
open Go.Fl Go.Fl.Nm Go.Fl.Dy
/-- Two minus signs, one behind the other. -/
def ddB : List UInt8 → Bool
  | a :: b :: t => (a == 45 && b == 45) || ddB (b :: t)
  | _ => false
theorem ddB_cons {a : UInt8} {l : List UInt8} (h : a ≠ 45 ∨ l.head? ≠ some 45) (hl : ddB l = false) : ddB (a :: l) = false := by
  cases l with
  | nil => rfl
  | cons b t =>
    rw [ddB, hl, Bool.or_false]
    rcases h with h | h
    · rw [beq_eq_false_iff_ne.2 h, Bool.false_and]
    · have : b ≠ 45 := fun e => h (by rw [e]; rfl)
      rw [beq_eq_false_iff_ne.2 this, Bool.and_false]
theorem ddB_append {l r : List UInt8} (hl : ddB l = false) (hr : ddB r = false) (h : r.head? ≠ some 45) : ddB (l ++ r) = false := by
  induction l with
  | nil => exact hr
  | cons a l ih =>
    cases l with
    | nil => exact ddB_cons (.inr h) hr
    | cons b t =>
      rw [ddB] at hl
      rw [Bool.or_eq_false_iff] at hl
      have := ih hl.2
      rw [List.cons_append, List.cons_append, ddB, hl.1, Bool.false_or]
      exact this
theorem ddB_no {l : List UInt8} (h : (45 : UInt8) ∉ l) : ddB l = false := by
  induction l with
  | nil => rfl
  | cons a l ih => exact ddB_cons (.inl fun e => h (by rw [e]; exact List.mem_cons_self)) (ih fun h2 => h (List.mem_cons_of_mem _ h2))
theorem contains_dd {l : List UInt8} (h : ddB l = false) : Go.Lib.contains l [45, 45] = false := by
  unfold Go.Lib.contains
  have : Go.Lib.index l [45, 45] = -1 := by
    induction l with
    | nil => rfl
    | cons a l ih =>
      have hl : ddB l = false := by
        cases l with
        | nil => rfl
        | cons b t => rw [ddB, Bool.or_eq_false_iff] at h; exact h.2
      have hp : List.isPrefixOf [45, 45] (a :: l) = false := by
        cases l with
        | nil =>
          rw [List.isPrefixOf]
          simp [List.isPrefixOf]
        | cons b t =>
          rw [ddB, Bool.or_eq_false_iff, Bool.and_eq_false_iff] at h
          rw [List.isPrefixOf, List.isPrefixOf, List.isPrefixOf]
          rcases h.1 with h | h
          · have : (45 == a) = false := by rw [beq_eq_false_iff_ne] at h ⊢; exact fun e => h e.symm
            rw [this]; rfl
          · have : (45 == b) = false := by rw [beq_eq_false_iff_ne] at h ⊢; exact fun e => h e.symm
            rw [this]; simp
      rw [Go.Lib.index, hp, ih hl]
      rfl
  rw [this]
  rfl
/-- A byte that a text of a form may hold. -/
def allB (c : UInt8) : Bool := Nm.isDig c || c == 46 || c == 45 || c == 91 || c == 93 || c == 44 || c == 32
theorem all_dig {c : UInt8} (h : Nm.isDig c = true) : allB c = true := by unfold allB; rw [h]; rfl
/-- A text of a number: what it is made of. -/
theorem num_form {a : List UInt8} (h : okD (rsD a) = true) : ∃ (ng : Bool) (w t : List UInt8), a = (if ng then [45] else []) ++ (w ++ t) ∧ w ≠ [] ∧ w.all Nm.isDig = true ∧ (t = [] ∨ ∃ f, t = 46 :: f ∧ f.all Nm.isDig = true ∧ f ≠ []) := by
  have hr : a = (if ngD a then [45] else []) ++ rsD a := by
    unfold rsD ngD
    cases a with
    | nil => rfl
    | cons x t =>
      by_cases hx : x = 45
      · subst hx; rfl
      · have : ((x :: t).head? == some 45) = false := by simpa using hx
        rw [this]
        rfl
  unfold okD Rt.digs at h
  rw [Rt.isDig_eq] at h
  simp only [Bool.and_eq_true, Bool.or_eq_true, decide_eq_true_eq] at h
  obtain ⟨⟨h1, h2⟩, h3⟩ := h
  refine ⟨ngD a, whD (rsD a), if ptB (rsD a) then 46 :: frD (rsD a) else [], ?_, h1, h2, ?_⟩
  · conv => lhs; rw [hr]
    congr 1
    cases hp : ptB (rsD a) with
    | true => exact (pt_split hp).1
    | false => unfold whD; rw [hp]; simp
  · cases hp : ptB (rsD a) with
    | true =>
      rw [hp] at h3
      rcases h3 with h3 | h3
      · cases h3
      · exact .inr ⟨_, rfl, h3.2, h3.1⟩
    | false => exact .inl rfl
theorem dig45 {l : List UInt8} (h : l.all Nm.isDig = true) : (45 : UInt8) ∉ l := dig_no h (by decide)
/-- What the law of forms asks of a number's text. -/
theorem num_facts {a : List UInt8} (h : okD (rsD a) = true) : a.all allB = true ∧ a.any Nm.isDig = true ∧ ddB a = false ∧ a.head? ≠ some 32 ∧ a.head? ≠ some 46 ∧ a.getLast? ≠ some 32 ∧ a ≠ [] := by
  obtain ⟨ng, w, t, rfl, hw, hd, ht⟩ := num_form h
  have hta : t.all allB = true := by
    rcases ht with rfl | ⟨f, rfl, hf, _⟩
    · rfl
    · rw [List.all_cons]
      simp only [Bool.and_eq_true, List.all_eq_true]
      exact ⟨rfl, fun x hx => all_dig (List.all_eq_true.1 hf x hx)⟩
  have ht45 : (45 : UInt8) ∉ t := by
    rcases ht with rfl | ⟨f, rfl, hf, _⟩
    · simp
    · intro hm
      rcases List.mem_cons.1 hm with hm | hm
      · cases hm
      · exact dig45 hf hm
  have hwa : w.all allB = true := by rw [List.all_eq_true] at hd ⊢; exact fun x hx => all_dig (hd x hx)
  have hwt : ddB (w ++ t) = false := ddB_no (by
    intro hm
    rcases List.mem_append.1 hm with hm | hm
    · exact dig45 hd hm
    · exact ht45 hm)
  obtain ⟨x, w', rfl⟩ : ∃ x w', w = x :: w' := by cases w with | nil => exact absurd rfl hw | cons x w' => exact ⟨x, w', rfl⟩
  have hx : Nm.isDig x = true := by simp at hd; exact hd.1
  have hl : ∀ z : UInt8, (if ng then [45] else [] ++ (x :: w' ++ t) : List UInt8).getLast? = some z → True := fun _ _ => trivial
  have hlast : ∀ z, ((x :: w') ++ t).getLast? = some z → Nm.isDig z = true := by
    intro z hz
    rcases ht with rfl | ⟨f, rfl, hf, hfn⟩
    · rw [List.append_nil] at hz
      exact List.all_eq_true.1 hd z (List.mem_of_getLast? hz)
    · have hz2 : f.getLast? = some z := by
        cases f with
        | nil => exact absurd rfl hfn
        | cons y f' =>
          rw [show (x :: w') ++ 46 :: (y :: f') = ((x :: w') ++ [46]) ++ (y :: f') by simp, List.getLast?_append] at hz
          cases hg : (y :: f').getLast? with
          | none => simp at hg
          | some q => rw [hg] at hz; exact hz
      exact List.all_eq_true.1 hf z (List.mem_of_getLast? hz2)
  refine ⟨?_, ?_, ?_, ?_, ?_, ?_, ?_⟩
  · rw [List.all_append, List.all_append, hwa, hta]
    cases ng <;> rfl
  · rw [List.any_append, List.any_append, List.any_cons, hx]
    simp
  · cases ng with
    | false => exact hwt
    | true => exact ddB_append (l := [45]) rfl hwt (by
        intro e
        have : x = 45 := by simpa using e
        exact dg_not hx (c := 45) (by decide) this)
  · cases ng with
    | false =>
      intro e
      have : x = 32 := by simpa using e
      exact dg_not hx (c := 32) (by decide) this
    | true => simp
  · cases ng with
    | false =>
      intro e
      have : x = 46 := by simpa using e
      exact dg_not hx (c := 46) (by decide) this
    | true => simp
  · intro e
    have h2 : ((x :: w') ++ t).getLast? = some 32 := by
      cases ng with
      | false => exact e
      | true =>
        rw [show (if true = true then [45] else [] : List UInt8) = [45] from rfl, List.getLast?_append] at e
        cases hg : ((x :: w') ++ t).getLast? with
        | none => simp at hg
        | some q => rw [hg] at e; exact e
    have := hlast 32 h2
    exact absurd this (by decide)
  · cases ng <;> simp
theorem occ_split {u : List UInt8} (h : (Go.Lib.cut u [44, 32]).2.2 = true) : u = (Go.Lib.cut u [44, 32]).1 ++ 44 :: 32 :: (Go.Lib.cut u [44, 32]).2.1 := by
  unfold Go.Lib.cut at h ⊢
  split at h
  · rename_i hp
    rw [if_pos hp]
    rcases Go.Lib.index_spec u [44, 32] with ⟨h1, _⟩ | ⟨i, h1, h2, h3, h4⟩
    · omega
    · rw [h1]
      have h5 : List.isPrefixOf [44, 32] (u.drop i) = true := h3
      rw [List.isPrefixOf_iff_prefix] at h5
      obtain ⟨r, hr⟩ := h5
      simp only [Int.toNat_natCast]
      have h6 := List.take_append_drop i u
      have h7 : u.drop (i + 2) = r := by rw [← List.drop_drop, ← hr]; rfl
      show u = u.take i ++ 44 :: 32 :: u.drop (i + 2)
      rw [h7]
      conv => lhs; rw [← h6, ← hr]
      rfl
  · cases h
/-- What a text of a form is. -/
theorem form_text {s : List UInt8} {a b : List UInt8} (h : brkD s = some (a, b)) : (s = a ∧ b = a) ∨ s = 91 :: (a ++ (44 :: 32 :: (b ++ [93]))) := by
  unfold brkD at h
  split at h
  · rename_i hp
    split at h
    · rename_i hq
      rw [Bool.and_eq_true] at hq
      injection h with h
      injection h with h1 h2
      right
      have e1 : s = 91 :: Go.Lib.trimPrefix s [91] := by
        unfold Go.Lib.trimPrefix
        rw [if_pos hp]
        unfold Go.Lib.hasPrefix at hp
        rw [List.isPrefixOf_iff_prefix] at hp
        obtain ⟨r, rfl⟩ := hp
        rfl
      obtain ⟨t, ht⟩ : ∃ t, Go.Lib.trimPrefix s [91] = t := ⟨_, rfl⟩
      rw [ht] at e1 hq h1 h2
      have e2 : t = Go.Lib.trimSuffix t [93] ++ [93] := by
        have hs := hq.1
        unfold Go.Lib.trimSuffix
        rw [if_pos hs]
        unfold Go.Lib.hasSuffix at hs
        rw [List.isSuffixOf_iff_suffix] at hs
        obtain ⟨r, rfl⟩ := hs
        simp
      have e3 := occ_split hq.2
      rw [h1, h2] at e3
      rw [e1, e2, e3]
      simp
    · cases h
  · injection h with h
    injection h with h1 h2
    exact .inl ⟨h1, h2.symm.trans h1⟩
/-- Which texts the law of forms says are refused. -/
def badF (s : List UInt8) : Bool := !s.all allB || !s.any Nm.isDig || Go.Lib.hasPrefix s [32] || Go.Lib.hasSuffix s [32] || Go.Lib.contains s [45, 45] || Go.Lib.hasPrefix s [46]
theorem pre_of_head {s : List UInt8} {c : UInt8} (h : s.head? ≠ some c) : Go.Lib.hasPrefix s [c] = false := by
  unfold Go.Lib.hasPrefix
  cases s with
  | nil => rfl
  | cons x t =>
    have : (c == x) = false := by rw [beq_eq_false_iff_ne]; intro e; exact h (by rw [e]; rfl)
    simp [List.isPrefixOf, this]
theorem suf_of_last {s : List UInt8} {c : UInt8} (h : s.getLast? ≠ some c) : Go.Lib.hasSuffix s [c] = false := by
  unfold Go.Lib.hasSuffix
  rw [Bool.eq_false_iff]
  intro e
  rw [List.isSuffixOf_iff_suffix] at e
  obtain ⟨r, rfl⟩ := e
  exact h (by simp)
theorem good_form {s a b : List UInt8} (h : brkD s = some (a, b)) (ha : okD (rsD a) = true) (hb : okD (rsD b) = true) : badF s = false := by
  obtain ⟨a1, a2, a3, a4, a5, a6, a7⟩ := num_facts ha
  obtain ⟨b1, b2, b3, b4, b5, b6, b7⟩ := num_facts hb
  rcases form_text h with ⟨rfl, rfl⟩ | rfl
  · unfold badF
    rw [a1, a2, pre_of_head a4, suf_of_last a6, contains_dd a3, pre_of_head a5]
    rfl
  · have hall : (91 :: (a ++ (44 :: 32 :: (b ++ [93])))).all allB = true := by
      simp only [List.all_cons, List.all_append, List.all_nil, a1, b1]
      rfl
    have hany : (91 :: (a ++ (44 :: 32 :: (b ++ [93])))).any Nm.isDig = true := by
      simp only [List.any_cons, List.any_append, a2]
      simp
    have hdd : ddB (91 :: (a ++ (44 :: 32 :: (b ++ [93])))) = false := by
      have hb2 : ddB (b ++ [93]) = false := ddB_append b3 rfl (by simp)
      exact ddB_cons (.inl (by decide)) (ddB_append a3 (ddB_cons (.inl (by decide)) (ddB_cons (.inl (by decide)) hb2)) (by simp))
    have hlast : (91 :: (a ++ (44 :: 32 :: (b ++ [93])))).getLast? = some 93 := by
      rw [show 91 :: (a ++ (44 :: 32 :: (b ++ [93]))) = (91 :: (a ++ (44 :: 32 :: b))) ++ [93] by simp, List.getLast?_append]
      rfl
    unfold badF
    rw [hall, hany, pre_of_head (by simp), suf_of_last (by rw [hlast]; simp), contains_dd hdd, pre_of_head (by simp)]
    rfl
theorem rdN_ok (s : List UInt8) : (rdN s).2 = okD (rsD s) := by
  unfold rdN
  split
  · rename_i h; rw [h]; split <;> rfl
  · rename_i h; simp at h; rw [h]
/-- A refused text's error. -/
theorem bad_err {s : List UInt8} {p : Int} (h : badF s = true) (h0 : s ≠ [97, 108, 108]) : (parR s p).2 = 3 := by
  unfold parR
  rw [if_neg h0]
  cases hb : brkD s with
  | none => rfl
  | some ab =>
    obtain ⟨a, b⟩ := ab
    simp only
    by_cases ho : ((rdN a).2 && (rdN b).2) = false
    · unfold parT
      rw [if_pos ho]
    · exfalso
      rw [Bool.not_eq_false, Bool.and_eq_true, rdN_ok, rdN_ok] at ho
      rw [good_form hb ho.1 ho.2] at h
      cases h
theorem all_good : badF [97, 108, 108] = true := by decide
end Go.Proofs.YtffdkakogeofmaaGreatDoor
