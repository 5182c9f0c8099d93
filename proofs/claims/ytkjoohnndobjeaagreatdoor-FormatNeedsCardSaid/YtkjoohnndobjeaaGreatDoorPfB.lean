/-
  No text is read as a tree that has fewer tokens than the tree's own text (a minus sign counts two). In plain Lean. No program in sight.
-/
import Derived.Test.YtkjoohnndobjeaaGreatDoorQM
set_option linter.unusedVariables false
namespace Go.Fl.Pa
open Go.Lib Go.Fl.Lx Go.Fl.Fm Go.Fl.Rt
/-- The weight of a token. -/
def wK (x : Nat × List UInt8) : Nat := if x.1 = 3 ∧ x.2 = [45] then 2 else 1
def wS (l : List (Nat × List UInt8)) : Nat := (l.map wK).sum
def b2 (b : Bool) : Nat := if b then 2 else 0
def wtN (h : Hd) (s : List (Hd × Nat)) : Nat :=
  if h.kind = 1 then wS (numT h.n h.d)
  else if h.kind = 2 then 1
  else if h.kind ≤ 6 then
    match s with
    | [(ha, a), (hb, b)] => a + b2 (need1 h.kind ha hb) + (if h.kind = 4 then 2 else 1) + b + b2 (need2 h.kind hb)
    | _ => 0
  else if h.kind = 7 then
    match s with
    | [(ha, a)] => 2 + a + b2 (needM ha)
    | _ => 0
  else if h.kind = 8 then
    match s with
    | [(ha, a)] => a + b2 (needW ha) + 2
    | _ => 0
  else
    match s with
    | [(ha, a)] => a + 3
    | _ => 0
mutual
/-- The weight of a tree's own text. -/
def wt : TE → Nat
  | .mk h l => wtN h (wts l)
def wts : List TE → List (Hd × Nat)
  | [] => []
  | x :: l => (x.h, wt x) :: wts l
end
theorem wt_num (n d : Int) : wt (numE (n, d)) = wS (numT n d) := by
  unfold numE
  rw [wt]
  rfl
theorem wt_var (s : List UInt8) : wt (varE s) = 1 := by
  unfold varE
  rw [wt]
  rfl
theorem wt_op {c : Int} (hc : 3 ≤ c ∧ c ≤ 6) (a b : TE) : wt (opE c [a, b]) = wt a + b2 (need1 c a.h b.h) + (if c = 4 then 2 else 1) + wt b + b2 (need2 c b.h) := by
  unfold opE
  rw [wt, wts, wts, wts]
  unfold wtN
  simp only
  rw [if_neg (by omega), if_neg (by omega), if_pos hc.2]
theorem wt_neg (a : TE) : wt (opE 7 [a]) = 2 + wt a + b2 (needM a.h) := by
  unfold opE
  rw [wt, wts, wts]
  rfl
theorem wt_pow (v : Nat) (a : TE) : wt (powE v a) = wt a + b2 (needW a.h) + 2 := by
  unfold powE
  rw [wt, wts, wts]
  rfl
theorem wt_fun {c : Int} (hc : 9 ≤ c) (a : TE) : wt (opE c [a]) = wt a + 3 := by
  unfold opE
  rw [wt, wts, wts]
  unfold wtN
  simp only
  rw [if_neg (by omega), if_neg (by omega), if_neg (by omega), if_neg (by omega), if_neg (by omega)]
theorem wS_app (a b : List (Nat × List UInt8)) : wS (a ++ b) = wS a + wS b := by
  unfold wS
  rw [List.map_append, List.sum_append]
theorem wS_cons (x : Nat × List UInt8) (l : List (Nat × List UInt8)) : wS (x :: l) = wK x + wS l := by
  unfold wS
  rw [List.map_cons, List.sum_cons]
theorem wS_par (b : Bool) (l : List (Nat × List UInt8)) : wS (parT b l) = wS l + b2 b := by
  unfold parT b2
  cases b with
  | false => rfl
  | true =>
    rw [if_pos rfl, if_pos rfl, wS_cons, wS_app]
    show 1 + (wS l + 1) = wS l + 2
    omega
/-- A right tree's tokens weigh what the tree weighs. -/
theorem wt_tkn {nm : List UInt8 → Bool} : ∀ {f : Nat} {T : TE}, good nm f T → wS (tkn f T) = wt T := by
  intro f
  induction f with
  | zero => intro T h; exact h.elim
  | succ f ih =>
    intro T hg
    rcases node_kinds hg.1 with ⟨hk, hl, hv⟩ | ⟨hk, hl, hv⟩ | ⟨hk, hk2, hl⟩ | ⟨hk, hl⟩ | ⟨hk, hl, hv, hv2⟩ | ⟨hk, hk2, hl⟩
    · rw [tkn_num hk]
      conv => rhs; rw [numE_eq hg.1 hk]
      rw [wt_num]
    · rw [tkn_var hk]
      conv => rhs; rw [(varE_eq hg.1 hk).1]
      rw [wt_var]
      rfl
    · obtain ⟨x, y, hxy⟩ := list2 hl
      have ha : T.a = x := by unfold TE.a; rw [hxy]; rfl
      have hb : T.b = y := by unfold TE.b; rw [hxy]; rfl
      have hT : T = opE T.h.kind [T.a, T.b] := by
        refine (op_fields hg.1 (by omega) (by omega) (by omega)).trans ?_
        rw [hxy, ha, hb]
      have e := wt_op ⟨hk, hk2⟩ T.a T.b
      rw [← hT] at e
      rw [e, tkn_op ⟨hk, hk2⟩, wS_app, wS_cons, wS_par, wS_par, ih (good_a hg (by omega)), ih (good_b hg hl)]
      have hw : wK (3, opC T.h.kind) = if T.h.kind = 4 then 2 else 1 := by
        have : T.h.kind = 3 ∨ T.h.kind = 4 ∨ T.h.kind = 5 ∨ T.h.kind = 6 := by omega
        rcases this with e | e | e | e <;> rw [e] <;> decide
      rw [hw]
      omega
    · obtain ⟨x, hx⟩ := list1 hl
      have ha : T.a = x := by unfold TE.a; rw [hx]; rfl
      have hT : T = opE 7 [T.a] := by
        refine (op_fields hg.1 (by omega) (by omega) (by omega)).trans ?_
        rw [hx, ha, hk]
      have e := wt_neg T.a
      rw [← hT] at e
      rw [e, tkn_neg hk, wS_cons, wS_par, ih (good_a hg (by omega))]
      show 2 + _ = _
      omega
    · have hT := (powE_eq hg.1 hk).1
      have e := wt_pow T.h.k.toNat T.a
      rw [← hT] at e
      rw [e, tkn_pow hk, wS_app, wS_par, ih (good_a hg (by omega))]
      rfl
    · obtain ⟨x, hx⟩ := list1 hl
      have ha : T.a = x := by unfold TE.a; rw [hx]; rfl
      have hT : T = opE T.h.kind [T.a] := by
        refine (op_fields hg.1 (by omega) (by omega) (by omega)).trans ?_
        rw [hx, ha]
      have e := wt_fun hk T.a
      rw [← hT] at e
      rw [e, tkn_fun hk, wS_cons, wS_cons, wS_app, ih (good_a hg (by omega))]
      show 1 + (1 + (wt T.a + 1)) = _
      omega
/-- The weight of the tokens ahead. -/
def V (ts : List Tok) (k : Nat) : Nat := wS ((ts.take k).map kt)
theorem V_step {ts : List Tok} {k : Nat} (h : k < ts.length) : V ts (k + 1) = V ts k + wK (kt (tk ts k)) := by
  unfold V
  have e : tk ts k = ts[k] := by
    unfold tk
    rw [List.getD_eq_getElem?_getD, List.getElem?_eq_getElem h]
    rfl
  rw [List.take_succ_eq_append_getElem h, List.map_append, wS_app, e]
  rfl
theorem wK_ge (x : Nat × List UInt8) : 1 ≤ wK x := by
  unfold wK
  split <;> omega
theorem V_ge {ts : List Tok} {k : Nat} (h : k < ts.length) : V ts k + 1 ≤ V ts (k + 1) := by
  rw [V_step h]
  have := wK_ge (kt (tk ts k))
  omega
theorem V_minus {ts : List Tok} {k : Nat} (h : isS false ts k [45] = true) : V ts (k + 1) = V ts k + 2 := by
  rw [V_step (isS_lt h)]
  unfold isS at h
  simp only [Bool.and_false, Bool.or_false, Bool.and_eq_true, beq_iff_eq] at h
  unfold wK kt
  rw [if_pos ⟨h.2, h.1⟩]
theorem V_le {ts : List Tok} (k : Nat) : V ts k ≤ V ts (k + 1) := by
  by_cases h : k < ts.length
  · have := V_ge h
    omega
  · unfold V
    rw [List.take_of_length_le (by omega), List.take_of_length_le (by omega)]
    exact Nat.le_refl _
/-- Number tokens are digits. -/
def DigK (ts : List Tok) : Prop := ∀ k, (tk ts k).kind = 2 → digs (tk ts k).text = true
theorem read_digs {l : List UInt8} (h : digs l = true) (h0 : (read1 l).2.2 = 0) : ∃ v : Nat, (read1 l).1 = v ∧ (read1 l).2.1 = 1 := by
  have hall : ∀ c ∈ l, isDig c = true := by
    unfold digs at h
    rw [Bool.and_eq_true] at h
    exact List.all_eq_true.1 h.2
  have no : ∀ c : UInt8, isDig c = false → c ∉ l := fun c hc hm => by rw [hall c hm] at hc; cases hc
  have hh : (l.head? == some 45) = false := by
    rw [beq_eq_false_iff_ne]
    intro e
    exact no 45 (by decide) (List.mem_of_mem_head? (by rw [e]; rfl))
  unfold read1 at h0 ⊢
  rw [hh] at h0 ⊢
  simp only [Bool.false_eq_true, if_false, cut_none (no 46 (by decide)), cut_none (no 47 (by decide)), h, Bool.not_true, Bool.or_self, Bool.false_and, List.length_nil, Nat.add_zero, List.append_nil] at h0 ⊢
  split at h0
  · cases h0
  · rename_i hn
    rw [if_neg hn]
    obtain ⟨n, d, e, hm⟩ : ∃ n d e, make (dval l : Int) ((10 ^ 0 : Nat) : Int) = (n, d, e) := ⟨_, _, _, rfl⟩
    rw [hm] at h0 ⊢
    simp only at h0 ⊢
    subst h0
    obtain ⟨hv, _, hx⟩ := make_ok hm
    have hd := hv.1
    have hg := hv.2.2.2.2
    have hx' : n = (dval l : Int) * d := by simpa using hx.symm
    have hd1 : d.natAbs = 1 := by
      rw [hx', Int.natAbs_mul, Nat.gcd_comm, Nat.gcd_mul_left_right] at hg
      exact hg
    have : d = 1 := by omega
    subst this
    exact ⟨dval l, by rw [hx', Int.mul_one], rfl⟩
section
variable {ts : List Tok} (hD : DigK ts)
include hD
theorem int2 {k : Nat} (h : (tk ts k).kind = 2) : integerP ts k = true := by
  have hd := hD k h
  unfold integerP
  rw [h]
  have : (tk ts k).text.contains 46 = false := by
    rw [Bool.eq_false_iff]
    intro h2
    have hm := List.contains_iff_mem.1 h2
    unfold digs at hd
    rw [Bool.and_eq_true] at hd
    have := List.all_eq_true.1 hd.2 46 hm
    cases this
  rw [this]
  rfl
theorem numP_wt {k k1 : Nat} {r : Int × Int} (h : numP ts k = .ok r k1) : r.2 = 1 ∧ k1 = k + signP ts k + 1 ∧ (tk ts (k + signP ts k)).kind = 2 ∧ V ts k + 2 * signP ts k + 1 ≤ V ts k1 ∧ (r.1 < 0 → signP ts k = 1) := by
  unfold numP at h
  split at h
  · exact (unex_ok h).elim
  · rename_i hk
    have hk2 : (tk ts (k + signP ts k)).kind = 2 := by simpa using hk
    split at h
    · exact (fail_ok h).elim
    · rename_i h0
      obtain ⟨v, e1, e2⟩ := read_digs (hD _ hk2) (by simpa using h0)
      injection h with h3 h4
      subst h4
      have hlt : k + signP ts k < ts.length := tk_lt (by omega)
      have hV := V_ge hlt
      rw [← h3, e1, e2]
      refine ⟨rfl, rfl, hk2, ?_, ?_⟩
      · by_cases hs : isS false ts k [45] = true
        · have := V_minus hs
          rw [sign1 hs] at hV ⊢
          omega
        · rw [sign0 (by simpa using hs)] at hV ⊢
          omega
      · intro hn
        by_cases hs : isS false ts k [45] = true
        · exact sign1 hs
        · rw [if_neg hs] at hn
          simp only at hn
          omega
omit hD in
theorem wS_num (n d : Int) : wS (numT n d) = (if n < 0 then 2 else 0) + 1 + (if d = 1 then 0 else 2) := by
  unfold numT
  rw [wS_app, wS_cons]
  have h1 : wK (2, decDigits n.natAbs) = 1 := by unfold wK; rw [if_neg (by simp)]
  rw [h1]
  split <;> split
  · rfl
  · have h2 : wK (2, decDigits d.natAbs) = 1 := by unfold wK; rw [if_neg (by simp)]
    simp only [wS_cons, h2]
    rfl
  · rfl
  · have h2 : wK (2, decDigits d.natAbs) = 1 := by unfold wK; rw [if_neg (by simp)]
    simp only [wS_cons, h2]
    rfl
theorem quotP_wt {k k1 : Nat} {r : Int × Int} (hf : fracP ts k = true) (h : quotP ts k = .ok r k1) : V ts k + 2 * signP ts k + 3 ≤ V ts k1 ∧ (r.1 < 0 → signP ts k = 1) := by
  unfold quotP at h
  unfold fracP integerP at hf
  simp only [Bool.and_eq_true, beq_iff_eq] at hf
  cases hn : numP ts k with
  | ok a k2 =>
    rw [hn] at h
    obtain ⟨n1, n2, n3, n4, n5⟩ := numP_wt hD hn
    simp only [PR.bind] at h
    have hk3 : (tk ts (k2 + 1)).kind = 2 := by rw [n2]; exact hf.2.2.1
    have hk2 : k2 < ts.length := by rw [n2]; exact isS_lt hf.2.1
    split at h
    · exact (unex_ok h).elim
    · split at h
      · exact (fail_ok h).elim
      · rename_i h0
        obtain ⟨v, e1, e2⟩ := read_digs (hD _ hk3) (by simpa using h0)
        split at h
        · exact (fail_ok h).elim
        · rename_i h1
          injection h with h3 h4
          subst h4
          have v1 := V_ge hk2
          have v2 := V_ge (tk_lt (by rw [hk3]; decide) : k2 + 1 < ts.length)
          have e9 : V ts (k2 + 1 + 1) = V ts (k2 + 2) := rfl
          refine ⟨by omega, fun hneg => n5 ?_⟩
          rw [← h3, e1] at hneg
          rw [e1] at h1
          obtain ⟨n, d, e, hm⟩ : ∃ n d e, make a.1 (v : Int) = (n, d, e) := ⟨_, _, _, rfl⟩
          rw [hm] at hneg h1
          simp only at hneg h1
          have he : e = 0 := by simpa using h1
          subst he
          obtain ⟨hv, hy, hx⟩ := make_ok hm
          have hd := hv.1
          have : n * (v : Int) < 0 := Int.mul_neg_of_neg_of_pos hneg (by omega)
          rw [← hx] at this
          apply Decidable.byContradiction
          intro hge
          have := Int.mul_nonneg (show 0 ≤ a.1 by omega) (show 0 ≤ d by omega)
          omega
  | bad l c e => rw [hn] at h; cases h
  | out => rw [hn] at h; cases h
end
end Go.Fl.Pa
