/-
  What the reference reads at the beginning of a text, in plain Lean. Of no program.
-/
import Derived.Test.YtffdkakogeofmaaGreatDoorDecZ
set_option linter.unusedVariables false
namespace Go.Fl.Dy
open Go.Fl Go.Fl.Nm
/-- A decimal number as the reference has it: its digits, how many stand behind the point, its sign. -/
structure DR where
  ds : List UInt8
  b : Nat
  neg : Bool
/-- The decimal number at the beginning of a text, the rest, and whether there is one. -/
def rdR (s : List UInt8) : DR × List UInt8 × Bool :=
  if (rsD s).takeWhile Nm.isDig = [] then (⟨[], 0, ngD s⟩, rsD s, false)
  else if ((rsD s).dropWhile Nm.isDig).head? = some 46 then
    if ((rsD s).dropWhile Nm.isDig).tail.takeWhile Nm.isDig = [] then (⟨(rsD s).takeWhile Nm.isDig, 0, ngD s⟩, (rsD s).dropWhile Nm.isDig, false)
    else (⟨(rsD s).takeWhile Nm.isDig ++ ((rsD s).dropWhile Nm.isDig).tail.takeWhile Nm.isDig, (((rsD s).dropWhile Nm.isDig).tail.takeWhile Nm.isDig).length, ngD s⟩, ((rsD s).dropWhile Nm.isDig).tail.dropWhile Nm.isDig, true)
  else (⟨(rsD s).takeWhile Nm.isDig, 0, ngD s⟩, (rsD s).dropWhile Nm.isDig, true)
/-- A byte that ends a number: neither a digit nor a point. -/
def endB (t : List UInt8) : Prop := ∀ c, t.head? = some c → Nm.isDig c = false ∧ c ≠ 46
theorem tw_all {w t : List UInt8} (hw : w.all Nm.isDig = true) (ht : ∀ c, t.head? = some c → Nm.isDig c = false) : (w ++ t).takeWhile Nm.isDig = w ∧ (w ++ t).dropWhile Nm.isDig = t := by
  induction w with
  | nil =>
    cases t with
    | nil => exact ⟨rfl, rfl⟩
    | cons c t =>
      have := ht c rfl
      rw [List.nil_append, List.takeWhile_cons_of_neg (by rw [this]; simp), List.dropWhile_cons_of_neg (by rw [this]; simp)]
      exact ⟨rfl, rfl⟩
  | cons x w ih =>
    simp only [List.all_cons, Bool.and_eq_true] at hw
    obtain ⟨h1, h2⟩ := ih hw.2
    rw [List.cons_append, List.takeWhile_cons_of_pos hw.1, List.dropWhile_cons_of_pos hw.1, h1, h2]
    exact ⟨rfl, rfl⟩
theorem rs_append {a t : List UInt8} (h : a ≠ []) : ngD (a ++ t) = ngD a ∧ rsD (a ++ t) = rsD a ++ t := by
  cases a with
  | nil => exact absurd rfl h
  | cons x a =>
    have h1 : ngD (x :: a ++ t) = ngD (x :: a) := rfl
    refine ⟨h1, ?_⟩
    unfold rsD
    rw [h1]
    split <;> rfl
theorem whd_zero {r : List UInt8} (h : r.all Nm.isDig = true) : whD r = r ∧ frD r = [] := (parts_zero h).2
end Go.Fl.Dy
namespace Go.Proofs.YtffdkakogeofmaaGreatDoor
open Go.Fl Go.Fl.Nm Go.Fl.Dy
/-- The text of a number, and what does not go on with it. -/
theorem rdR_num {a t : List UInt8} (h : okD (rsD a) = true) (ht : endB t) : rdR (a ++ t) = (⟨whD (rsD a) ++ frD (rsD a), (frD (rsD a)).length, ngD a⟩, t, true) := by
  have hne := (num_facts h).2.2.2.2.2.2
  obtain ⟨e1, e2⟩ := rs_append (t := t) hne
  obtain ⟨r, hr⟩ : ∃ r, rsD a = r := ⟨_, rfl⟩
  rw [hr] at e2 h ⊢
  unfold okD Rt.digs at h
  rw [Rt.isDig_eq] at h
  simp only [Bool.and_eq_true, Bool.or_eq_true, decide_eq_true_eq] at h
  obtain ⟨⟨h1, h2⟩, h3⟩ := h
  have hth : ∀ c, t.head? = some c → Nm.isDig c = false := fun c hc => (ht c hc).1
  cases hp : ptB r with
  | false =>
    have hw : whD r = r := by unfold whD; rw [hp]; rfl
    have hf : frD r = [] := by unfold frD; rw [hp]; rfl
    rw [hw] at h1 h2
    obtain ⟨t1, t2⟩ := tw_all h2 hth
    unfold rdR
    rw [e1, e2, t1, t2, if_neg h1, if_neg (fun hc => (ht 46 hc).2 rfl), hw, hf, List.append_nil]
    rfl
  | true =>
    rw [hp] at h3
    rcases h3 with h3 | ⟨h4, h5⟩
    · cases h3
    · obtain ⟨es, _⟩ := pt_split hp
      have er : r ++ t = whD r ++ (46 :: (frD r ++ t)) := by conv => lhs; rw [es]
                                                             simp
      obtain ⟨t1, t2⟩ := tw_all (t := 46 :: (frD r ++ t)) h2 (by intro c hc; simp at hc; rw [← hc]; decide)
      obtain ⟨t3, t4⟩ := tw_all h5 hth
      unfold rdR
      rw [e1, e2, er, t1, t2, if_neg h1, List.head?_cons, if_pos rfl, List.tail_cons, t3, t4, if_neg h4]
theorem tw_dig (l : List UInt8) : (l.takeWhile Nm.isDig).all Nm.isDig = true := by
  induction l with
  | nil => rfl
  | cons x l ih =>
    by_cases h : Nm.isDig x = true
    · rw [List.takeWhile_cons_of_pos h, List.all_cons, h, ih]; rfl
    · rw [List.takeWhile_cons_of_neg h]; rfl
theorem rs_cons (s : List UInt8) : s = (if ngD s then [45] else []) ++ rsD s := by
  unfold rsD ngD
  cases s with
  | nil => rfl
  | cons x t =>
    by_cases hx : x = 45
    · subst hx; rfl
    · have : ((x :: t).head? == some 45) = false := by simpa using hx
      rw [this]
      rfl
theorem rs_sign {ng : Bool} {r : List UInt8} (hr : r.head? ≠ some 45) : rsD ((if ng then [45] else []) ++ r) = r ∧ ngD ((if ng then [45] else []) ++ r) = ng := by
  cases ng with
  | true => exact ⟨rfl, rfl⟩
  | false =>
    have h : ngD r = false := by unfold ngD; simpa using hr
    rw [show (if false = true then [45] else [] : List UInt8) = [] from rfl, List.nil_append]
    refine ⟨?_, h⟩
    unfold rsD
    rw [h]
    rfl
/-- Where the reference finds a number, the text begins with one. -/
theorem rdR_yes {s t : List UInt8} {d : DR} (h : rdR s = (d, t, true)) : ∃ a, s = a ++ t ∧ okD (rsD a) = true ∧ d = ⟨whD (rsD a) ++ frD (rsD a), (frD (rsD a)).length, ngD a⟩ := by
  have hs := rs_cons s
  have hsp := List.takeWhile_append_dropWhile (p := Nm.isDig) (l := rsD s)
  have hw := tw_dig (rsD s)
  unfold rdR at h
  obtain ⟨w, hwd⟩ : ∃ w, (rsD s).takeWhile Nm.isDig = w := ⟨_, rfl⟩
  obtain ⟨u, hud⟩ : ∃ u, (rsD s).dropWhile Nm.isDig = u := ⟨_, rfl⟩
  rw [hwd, hud] at h hsp
  rw [hwd] at hw
  split at h
  · cases h
  · rename_i hw0
    have hwh : ∀ r, (w ++ r).head? ≠ some 45 := by
      intro r
      cases w with
      | nil => exact absurd rfl hw0
      | cons x w' =>
        have hx : Nm.isDig x = true := by simp at hw; exact hw.1
        intro e
        have : x = 45 := by simpa using e
        exact dg_not hx (c := 45) (by decide) this
    split at h
    · rename_i hu
      split at h
      · cases h
      · rename_i hf0
        obtain ⟨f, hfd⟩ : ∃ f, u.tail.takeWhile Nm.isDig = f := ⟨_, rfl⟩
        have hfa := tw_dig u.tail
        have hfs := List.takeWhile_append_dropWhile (p := Nm.isDig) (l := u.tail)
        rw [hfd] at h hf0 hfa hfs
        injection h with h1 h2
        injection h2 with h2 _
        rw [h2] at hfs
        have hu2 : u = 46 :: u.tail := by cases u with | nil => cases hu | cons x u' => simp at hu; rw [hu]; rfl
        obtain ⟨p1, p2, p3⟩ := parts_pt (b := f) hw
        obtain ⟨q1, q2⟩ := rs_sign (ng := ngD s) (hwh (46 :: f))
        refine ⟨(if ngD s then [45] else []) ++ (w ++ 46 :: f), ?_, ?_, ?_⟩
        · conv => lhs; rw [hs, ← hsp, hu2, ← hfs]
          simp
        · rw [q1]
          unfold okD Rt.digs
          rw [p1, p2, p3, Rt.isDig_eq, hw, hfa, decide_eq_true hw0, decide_eq_true hf0]
          rfl
        · rw [q1, q2, p2, p3, ← h1]
    · injection h with h1 h2
      injection h2 with h2 _
      have hwz := whd_zero hw
      obtain ⟨q1, q2⟩ := rs_sign (ng := ngD s) (r := w) (by have := hwh []; rwa [List.append_nil] at this)
      refine ⟨(if ngD s then [45] else []) ++ w, ?_, ?_, ?_⟩
      · conv => lhs; rw [hs, ← hsp, h2]
        simp
      · rw [q1]
        have p := parts_zero hw
        unfold okD Rt.digs
        rw [p.1, p.2.1, p.2.2, Rt.isDig_eq, hw, decide_eq_true hw0]
        rfl
      · rw [q1, q2, hwz.1, hwz.2, ← h1]
        simp
/-- A number's text as the reference has it. -/
def drD (x : List UInt8) : DR := ⟨whD (rsD x) ++ frD (rsD x), (frD (rsD x)).length, ngD x⟩
/-- The two numbers of a text, as the reference finds them. -/
def frm (s : List UInt8) : Option (DR × DR) :=
  if s.head? = some 91 then
    if (rdR s.tail).2.2 && decide ((rdR s.tail).2.1.take 2 = [44, 32]) then
      if (rdR ((rdR s.tail).2.1.drop 2)).2.2 && decide ((rdR ((rdR s.tail).2.1.drop 2)).2.1 = [93]) then some ((rdR s.tail).1, (rdR ((rdR s.tail).2.1.drop 2)).1) else none
    else none
  else if (rdR s).2.2 && decide ((rdR s).2.1 = []) then some ((rdR s).1, (rdR s).1) else none
theorem endB_nil : endB [] := fun c h => by cases h
theorem endB_cons {c : UInt8} {t : List UInt8} (h1 : Nm.isDig c = false) (h2 : c ≠ 46) : endB (c :: t) := fun x hx => by
  have : c = x := by simpa using hx
  subst this
  exact ⟨h1, h2⟩
theorem okD_no {x : List UInt8} {c : UInt8} (h : okD (rsD x) = true) (h1 : Nm.isDig c = false) (h2 : c ≠ 46) (h3 : c ≠ 45) : c ∉ x := by
  obtain ⟨ng, w, t, rfl, _, hd, ht⟩ := num_form h
  intro hm
  rcases List.mem_append.1 hm with hm | hm
  · cases ng with
    | true => simp at hm; exact h3 hm
    | false => simp at hm
  · rcases List.mem_append.1 hm with hm | hm
    · exact dig_no hd h1 hm
    · rcases ht with rfl | ⟨f, rfl, hf, _⟩
      · simp at hm
      · rcases List.mem_cons.1 hm with hm | hm
        · exact h2 hm
        · exact dig_no hf h1 hm
/-- The reference finds two numbers just where the program does. -/
theorem frm_some {s : List UInt8} {a b : DR} : frm s = some (a, b) ↔ ∃ x y, brkD s = some (x, y) ∧ okD (rsD x) = true ∧ okD (rsD y) = true ∧ a = drD x ∧ b = drD y := by
  constructor
  · intro h
    unfold frm at h
    split at h
    · rename_i hb
      split at h
      · rename_i h1
        split at h
        · rename_i h2
          simp only [Bool.and_eq_true, decide_eq_true_eq] at h1 h2
          injection h with h
          injection h with ha hb2
          obtain ⟨⟨d1, t1, o1⟩, hr1⟩ : ∃ r, rdR s.tail = r := ⟨_, rfl⟩
          rw [hr1] at h1 h2 ha hb2
          obtain ⟨⟨d2, t2, o2⟩, hr2⟩ : ∃ r, rdR (t1.drop 2) = r := ⟨_, rfl⟩
          simp only at h1 h2 ha hb2
          rw [hr2] at h2 hb2
          simp only at h2 hb2
          obtain ⟨rfl, ht1⟩ := h1
          obtain ⟨rfl, rfl⟩ := h2
          obtain ⟨x, ex, ox, dx⟩ := rdR_yes hr1
          obtain ⟨y, ey, oy, dy⟩ := rdR_yes hr2
          have e1 : t1 = 44 :: 32 :: t1.drop 2 := by
            have := List.take_append_drop 2 t1
            rw [ht1] at this
            exact this.symm
          have es : s = [91] ++ x ++ [44, 32] ++ y ++ [93] := by
            have : s = 91 :: s.tail := by cases s with | nil => cases hb | cons c s' => simp at hb; rw [hb]; rfl
            conv => lhs; rw [this, ex, e1, ey]
            simp
          refine ⟨x, y, by rw [es]; exact brk_text x y (okD_no ox (by decide) (by decide) (by decide)), ox, oy, ?_, ?_⟩
          · rw [← ha, dx]; rfl
          · rw [← hb2, dy]; rfl
        · cases h
      · cases h
    · rename_i hb
      split at h
      · rename_i h1
        simp only [Bool.and_eq_true, decide_eq_true_eq] at h1
        injection h with h
        injection h with ha hb2
        obtain ⟨⟨d1, t1, o1⟩, hr1⟩ : ∃ r, rdR s = r := ⟨_, rfl⟩
        rw [hr1] at h1 ha hb2
        simp only at h1 ha hb2
        obtain ⟨rfl, rfl⟩ := h1
        obtain ⟨x, ex, ox, dx⟩ := rdR_yes hr1
        rw [List.append_nil] at ex
        subst ex
        refine ⟨s, s, ?_, ox, ox, ?_, ?_⟩
        · unfold brkD
          rw [pre_of_head hb]
          rfl
        · rw [← ha, dx]; rfl
        · rw [← hb2, dx]; rfl
      · cases h
  · rintro ⟨x, y, hb, ox, oy, rfl, rfl⟩
    rcases form_text hb with ⟨e1, e2⟩ | rfl
    · have hh : s.head? ≠ some 91 := by
        rw [e1]
        intro e
        exact okD_no ox (c := 91) (by decide) (by decide) (by decide) (List.mem_of_mem_head? (by rw [e]; rfl))
      have h1 := rdR_num (t := []) ox endB_nil
      rw [List.append_nil, ← e1] at h1
      rw [e2, ← e1]
      unfold frm
      rw [if_neg hh, h1]
      rfl
    · have h1 := rdR_num (t := 44 :: 32 :: (y ++ [93])) ox (endB_cons (by decide) (by decide))
      have h2 := rdR_num (t := [93]) oy (endB_cons (by decide) (by decide))
      unfold frm
      rw [List.head?_cons, if_pos rfl, List.tail_cons, h1]
      simp only
      rw [show (44 :: 32 :: (y ++ [93])).drop 2 = y ++ [93] from rfl, h2]
      rfl
end Go.Proofs.YtffdkakogeofmaaGreatDoor
