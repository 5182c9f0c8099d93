/-
  The text of a ratio is read as this ratio, in plain Lean. Of no program.
  Expressions as plain trees: which are valid, and their texts. Of no program.
  Expressions as they lie in memory.
-/
import Derived.Test.YtoogeihbhhcpaaaGreatDoorPkA
import Derived.Lib.ItoaMem
import Derived.Lib.ItoaLen
import Derived.Test.YtoogeihbhhcpaaaGreatDoorPkB
set_option linter.unusedVariables false
namespace Go.Fl.Rt
open Go.Lib

theorem dec_big {u : Nat} (h : ¬ u < 10) : decDigits u = decDigits (u / 10) ++ [UInt8.ofNat (48 + u % 10)] := by rw [decDigits, dif_neg h]
theorem nDigits_le (k : Nat) : ∀ r, r < 10 ^ (k + 1) → nDigits r ≤ k + 1 := by
  induction k with
  | zero => intro r h; rw [nDigits_small (by simpa using h)]; omega
  | succ k ih =>
    intro r h
    by_cases h10 : r < 10
    · rw [nDigits_small h10]; omega
    · rw [nDigits_big h10]
      have := ih (r / 10) (by rw [Nat.div_lt_iff_lt_mul (by omega)]; rw [Nat.pow_succ] at h; exact h)
      omega
/-- The text of a ratio. -/
def textR (n d : Int) : List UInt8 := itoa n ++ (if d = 1 then [] else 47 :: itoa d)
end Go.Fl.Rt
namespace Go.Fl.Fm
open Go.Lib Go.Fl.Rt
/-- A node's own fields. -/
structure Hd where
  kind : Int
  n : Int
  d : Int
  name : ByteArray
  k : Int
/-- An expression. -/
inductive TE where
  | mk (h : Hd) (l : List TE)
def TE.h : TE → Hd
  | .mk h _ => h
def TE.l : TE → List TE
  | .mk _ l => l
instance : Inhabited TE := ⟨.mk ⟨0, 0, 0, ByteArray.empty, 0⟩ []⟩
/-- The number of elements of a kind. -/
def opsK (k : Int) : Int := if 3 ≤ k ∧ k ≤ 6 then 2 else if 7 ≤ k ∧ k ≤ 13 then 1 else -1
/-- Whether a node's fields are right. -/
def nodeB (nm : List UInt8 → Bool) (h : Hd) (len : Nat) : Bool :=
  if (h.kind == 1) = true then ((decide (valid h.n h.d) && h.name.toList.isEmpty) && (h.k == 0)) && ((len : Int) == 0)
  else if (h.kind == 2) = true then ((((h.n == 0) && (h.d == 0)) && nm h.name.data.toList) && (h.k == 0)) && ((len : Int) == 0)
  else if (h.kind == 8) = true then (((((h.n == 0) && (h.d == 0)) && h.name.toList.isEmpty) && decide (0 ≤ h.k)) && decide (h.k ≤ 16)) && ((len : Int) == 1)
  else ((((h.n == 0) && (h.d == 0)) && h.name.toList.isEmpty) && (h.k == 0)) && ((len : Int) == opsK h.kind)
def goP (c : TE → Nat → Bool × Nat) : List TE → Nat → Bool × Nat
  | [], n => (true, n)
  | x :: l, n => if (c x n).1 = true then goP c l (c x n).2 else (false, (c x n).2)
/-- The program's count: of levels that are left, a tree, and the nodes before it. -/
def cntP (nm : List UInt8 → Bool) : Nat → TE → Nat → Bool × Nat
  | 0, _, n => (false, n + 1)
  | f + 1, T, n => if n + 1 ≤ 200 ∧ nodeB nm T.h T.l.length = true then goP (cntP nm f) T.l (n + 1) else (false, n + 1)
def goR (c : TE → Nat) : List TE → Nat → Nat
  | [], n => n
  | x :: l, n => if n ≤ 200 then goR c l (n + c x) else n
/-- The reference's count. -/
def cntR (nm : List UInt8 → Bool) : Nat → TE → Nat
  | 0, _ => 1048576
  | f + 1, T => if nodeB nm T.h T.l.length = true then goR (cntR nm f) T.l 1 else 1048576
theorem goR_ge (c : TE → Nat) : ∀ (l : List TE) (n : Nat), n ≤ goR c l n
  | [], n => Nat.le_refl n
  | x :: l, n => by
    unfold goR
    split
    · exact Nat.le_trans (Nat.le_add_right _ _) (goR_ge c l _)
    · exact Nat.le_refl _
theorem goR_le (c : TE → Nat) (B : Nat) (hc : ∀ x, c x ≤ B) : ∀ (l : List TE) (n : Nat), n ≤ 200 + B → goR c l n ≤ 200 + B
  | [], n, h => h
  | x :: l, n, h => by
    unfold goR
    split
    · exact goR_le c B hc l _ (by have := hc x; omega)
    · exact h
theorem cntR_pos (nm : List UInt8 → Bool) (f : Nat) (T : TE) : 1 ≤ cntR nm f T := by
  cases f with
  | zero => exact of_decide_eq_true rfl
  | succ f =>
    unfold cntR
    split
    · exact goR_ge _ _ _
    · exact of_decide_eq_true rfl
theorem cntR_le (nm : List UInt8 → Bool) : ∀ (f : Nat) (T : TE), cntR nm f T ≤ 1048576 + 200 * f
  | 0, T => Nat.le_refl _
  | f + 1, T => by
    unfold cntR
    split
    · have := goR_le (cntR nm f) (1048576 + 200 * f) (cntR_le nm f) T.l 1 (by omega)
      omega
    · omega
theorem go_eq (nm : List UInt8 → Bool) (f n : Nat)
    (ih : ∀ (T : TE) (n : Nat), n ≤ 200 → (n + cntR nm f T ≤ 200 → cntP nm f T n = (true, n + cntR nm f T)) ∧ (200 < n + cntR nm f T → (cntP nm f T n).1 = false)) :
    ∀ (l : List TE) (m : Nat), n + m ≤ 200 → (n + goR (cntR nm f) l m ≤ 200 → goP (cntP nm f) l (n + m) = (true, n + goR (cntR nm f) l m)) ∧ (200 < n + goR (cntR nm f) l m → (goP (cntP nm f) l (n + m)).1 = false)
  | [], m, h => ⟨fun _ => rfl, fun h2 => by unfold goR at h2; omega⟩
  | x :: l, m, h => by
    obtain ⟨i1, i2⟩ := ih x (n + m) h
    unfold goR goP
    rw [if_pos (by omega : m ≤ 200)]
    by_cases hx : n + m + cntR nm f x ≤ 200
    · rw [i1 hx]
      simp only [if_true]
      have := go_eq nm f n ih l (m + cntR nm f x) (by omega)
      rw [show n + m + cntR nm f x = n + (m + cntR nm f x) by omega]
      exact this
    · have h1 := i2 (by omega)
      have h2 := goR_ge (cntR nm f) l (m + cntR nm f x)
      rw [h1]
      rw [if_neg Bool.false_ne_true]
      exact ⟨fun h3 => by omega, fun _ => rfl⟩
theorem cnt_eq (nm : List UInt8 → Bool) : ∀ (f : Nat) (T : TE) (n : Nat), n ≤ 200 →
    (n + cntR nm f T ≤ 200 → cntP nm f T n = (true, n + cntR nm f T)) ∧ (200 < n + cntR nm f T → (cntP nm f T n).1 = false)
  | 0, T, n, h => ⟨fun h2 => by unfold cntR at h2; omega, fun _ => rfl⟩
  | f + 1, T, n, h => by
    have ih := cnt_eq nm f
    unfold cntR cntP
    by_cases hn : nodeB nm T.h T.l.length = true
    · rw [if_pos hn]
      by_cases h2 : n + 1 ≤ 200
      · rw [if_pos ⟨h2, hn⟩]
        exact go_eq nm f n ih T.l 1 h2
      · rw [if_neg (fun h3 => h2 h3.1)]
        have := goR_ge (cntR nm f) T.l 1
        exact ⟨fun h3 => by omega, fun _ => rfl⟩
    · rw [if_neg hn, if_neg (fun h3 => hn h3.2)]
      exact ⟨fun h3 => by omega, fun _ => rfl⟩
/-- Both counts find the same trees valid. -/
theorem valid_eq (nm : List UInt8 → Bool) (T : TE) : (cntP nm 20 T 0).1 = decide (cntR nm 20 T ≤ 200) := by
  obtain ⟨h1, h2⟩ := cnt_eq nm 20 T 0 (by omega)
  by_cases h : cntR nm 20 T ≤ 200
  · rw [h1 (by omega), decide_eq_true h]
  · rw [h2 (by omega), decide_eq_false h]
theorem goP_le (c : TE → Nat → Bool × Nat) (hc : ∀ x n, n ≤ 200 → (c x n).2 ≤ 201 ∧ ((c x n).1 = true → (c x n).2 ≤ 200)) : ∀ (l : List TE) (n : Nat), n ≤ 200 → (goP c l n).2 ≤ 201 ∧ ((goP c l n).1 = true → (goP c l n).2 ≤ 200)
  | [], n, h => by
    unfold goP
    exact ⟨by simp only; omega, fun _ => h⟩
  | x :: l, n, h => by
    unfold goP
    by_cases h1 : (c x n).1 = true
    · rw [if_pos h1]
      exact goP_le c hc l _ ((hc x n h).2 h1)
    · rw [if_neg h1]
      exact ⟨(hc x n h).1, fun h2 => absurd h2 (by simp)⟩
theorem cntP_le (nm : List UInt8 → Bool) : ∀ (f : Nat) (T : TE) (n : Nat), n ≤ 200 → (cntP nm f T n).2 ≤ 201 ∧ ((cntP nm f T n).1 = true → (cntP nm f T n).2 ≤ 200)
  | 0, T, n, h => by
    unfold cntP
    exact ⟨by simp only; omega, fun h2 => absurd h2 (by simp)⟩
  | f + 1, T, n, h => by
    unfold cntP
    split
    · rename_i h2
      exact goP_le _ (cntP_le nm f) _ _ h2.1
    · exact ⟨by simp only; omega, fun h2 => absurd h2 (by simp)⟩
/-- All nodes are right. -/
def good (nm : List UInt8 → Bool) : Nat → TE → Prop
  | 0, _ => False
  | f + 1, T => nodeB nm T.h T.l.length = true ∧ ∀ x ∈ T.l, good nm f x
theorem go_small (c : TE → Nat) : ∀ (l : List TE) (n : Nat), goR c l n ≤ 200 → ∀ x ∈ l, c x ≤ 200
  | [], n, _, x, hx => by cases hx
  | y :: l, n, h, x, hx => by
    unfold goR at h
    split at h
    · rcases List.mem_cons.1 hx with rfl | hx
      · have := goR_ge c l (n + c x)
        omega
      · exact go_small c l _ h x hx
    · omega
theorem good_of (nm : List UInt8 → Bool) : ∀ (f : Nat) (T : TE), cntR nm f T ≤ 200 → good nm f T
  | 0, T, h => by unfold cntR at h; omega
  | f + 1, T, h => by
    unfold cntR at h
    split at h
    · rename_i hn
      exact ⟨hn, fun x hx => good_of nm f x (go_small _ _ _ h x hx)⟩
    · omega
/-! Texts. -/
def sumK (k : Int) : Bool := k == 3 || k == 4
def prodK (k : Int) : Bool := k == 5 || k == 6
def brok (h : Hd) : Bool := h.kind == 1 && h.d != 1
def whl (h : Hd) : Bool := h.kind == 1 && h.d == 1
def par (b : Bool) (s : List UInt8) : List UInt8 := if b then 40 :: (s ++ [41]) else s
def fnK (k : Int) : List UInt8 :=
  if k = 9 then [101, 120, 112] else if k = 10 then [108, 111, 103] else if k = 11 then [115, 105, 110] else if k = 12 then [99, 111, 115] else [115, 113, 114, 116]
def opK (k : Int) : List UInt8 := if k = 3 then [32, 43, 32] else if k = 4 then [32, 45, 32] else if k = 5 then [32, 42, 32] else [32, 47, 32]
/-- Whether the operands of an operation, of a minus sign, of a power are in parentheses. -/
def need1 (k : Int) (a b : Hd) : Bool := if k == 3 || k == 4 then false else sumK a.kind || (k == 6 && whl a && whl b && decide (0 ≤ b.n))
def need2 (k : Int) (b : Hd) : Bool := if k == 3 || k == 4 then sumK b.kind else sumK b.kind || prodK b.kind || brok b
def needM (a : Hd) : Bool := sumK a.kind || prodK a.kind || brok a || (whl a && decide (0 ≤ a.n))
def needW (a : Hd) : Bool := sumK a.kind || prodK a.kind || a.kind == 7 || a.kind == 8 || brok a || (whl a && decide (a.n < 0))
/-- The first and the second element. -/
def TE.a (T : TE) : TE := T.l.headD default
def TE.b (T : TE) : TE := T.l.tail.headD default
/-- The text of a tree of so many levels. -/
def txt : Nat → TE → List UInt8
  | 0, _ => []
  | f + 1, T =>
    if T.h.kind = 1 then textR T.h.n T.h.d
    else if T.h.kind = 2 then T.h.name.data.toList
    else if T.h.kind ≤ 6 then par (need1 T.h.kind T.a.h T.b.h) (txt f T.a) ++ (opK T.h.kind ++ par (need2 T.h.kind T.b.h) (txt f T.b))
    else if T.h.kind = 7 then 45 :: par (needM T.a.h) (txt f T.a)
    else if T.h.kind = 8 then par (needW T.a.h) (txt f T.a) ++ 94 :: itoa T.h.k
    else fnK T.h.kind ++ (40 :: (txt f T.a ++ [41]))
theorem par_len (b : Bool) (s : List UInt8) : s.length ≤ (par b s).length ∧ (par b s).length ≤ s.length + 2 := by
  unfold par
  split
  · rw [List.length_cons, List.length_append]
    simp only [List.length_cons, List.length_nil]
    omega
  · omega
theorem opK_len (k : Int) : (opK k).length = 3 := by
  unfold opK
  split
  · rfl
  · split
    · rfl
    · split <;> rfl
theorem fnK_len (k : Int) : (fnK k).length ≤ 4 := by
  unfold fnK
  split
  · exact of_decide_eq_true rfl
  · split
    · exact of_decide_eq_true rfl
    · split
      · exact of_decide_eq_true rfl
      · split <;> exact of_decide_eq_true rfl
/-- The kinds of right nodes. -/
theorem node_kinds {nm : List UInt8 → Bool} {h : Hd} {len : Nat} (hn : nodeB nm h len = true) :
    (h.kind = 1 ∧ len = 0 ∧ valid h.n h.d) ∨ (h.kind = 2 ∧ len = 0 ∧ nm h.name.data.toList = true) ∨ (3 ≤ h.kind ∧ h.kind ≤ 6 ∧ len = 2) ∨ (h.kind = 7 ∧ len = 1) ∨
    (h.kind = 8 ∧ len = 1 ∧ 0 ≤ h.k ∧ h.k ≤ 16) ∨ (9 ≤ h.kind ∧ h.kind ≤ 13 ∧ len = 1) := by
  unfold nodeB at hn
  split at hn
  · rename_i h1
    simp only [Bool.and_eq_true, decide_eq_true_eq, beq_iff_eq] at hn h1
    exact .inl ⟨h1, by omega, hn.1.1.1⟩
  · split at hn
    · rename_i h1
      simp only [Bool.and_eq_true, beq_iff_eq] at hn h1
      exact .inr (.inl ⟨h1, by omega, hn.1.1.2⟩)
    · split at hn
      · rename_i h1
        simp only [Bool.and_eq_true, decide_eq_true_eq, beq_iff_eq] at hn h1
        exact .inr (.inr (.inr (.inr (.inl ⟨h1, by omega, hn.1.1.2, hn.1.2⟩))))
      · rename_i h1 h2 h8
        simp only [Bool.and_eq_true, beq_iff_eq] at hn h1 h2 h8
        have hl := hn.2
        unfold opsK at hl
        split at hl
        · rename_i h3
          exact .inr (.inr (.inl ⟨h3.1, h3.2, by omega⟩))
        · split at hl
          · rename_i h3
            by_cases h7 : h.kind = 7
            · exact .inr (.inr (.inr (.inl ⟨h7, by omega⟩)))
            · exact .inr (.inr (.inr (.inr (.inr ⟨by omega, h3.2, by omega⟩))))
          · omega
theorem list0 {l : List TE} (h : l.length = 0) : l = [] := List.eq_nil_of_length_eq_zero h
theorem list1 {l : List TE} (h : l.length = 1) : ∃ x, l = [x] := by
  match l, h with
  | [x], _ => exact ⟨x, rfl⟩
theorem list2 {l : List TE} (h : l.length = 2) : ∃ x y, l = [x, y] := by
  match l, h with
  | [x, y], _ => exact ⟨x, y, rfl⟩
theorem go_one {c : TE → Nat} {x : TE} : goR c [x] 1 = 1 + c x := rfl
theorem go_two {c : TE → Nat} {x y : TE} (h : goR c [x, y] 1 ≤ 200) : goR c [x, y] 1 = 1 + c x + c y := by
  unfold goR goR at h ⊢
  rw [if_pos (by decide)] at h ⊢
  split
  · rfl
  · rename_i h2
    rw [if_neg h2] at h
    omega
theorem textR_len {n d : Int} (h : valid n d) : (textR n d).length ≤ 43 := by
  obtain ⟨h1, h2, h3, h4, _⟩ := h
  unfold MX at h2 h3 h4
  unfold textR
  rw [List.length_append]
  have := itoa_length_le n (by omega) (by omega)
  split
  · simp only [List.length_nil]; omega
  · have := itoa_length_le d (by omega) (by omega)
    rw [List.length_cons]; omega
/-- A text's length. -/
theorem txt_len (nm : List UInt8 → Bool) (hnm : ∀ l, nm l = true → l.length ≤ 20) : ∀ (f : Nat) (T : TE), cntR nm f T ≤ 200 → (txt f T).length ≤ 50 * cntR nm f T
  | 0, T, h => by unfold cntR at h; omega
  | f + 1, T, h => by
    have ih := txt_len nm hnm f
    unfold cntR at h ⊢
    split at h
    · rename_i hn
      rw [if_pos hn]
      have hge := goR_ge (cntR nm f) T.l 1
      have hsm := go_small _ _ _ h
      rcases node_kinds hn with ⟨hk, hl, hv⟩ | ⟨hk, hl, hv⟩ | ⟨hk, hk2, hl⟩ | ⟨hk, hl⟩ | ⟨hk, hl, hv, hv2⟩ | ⟨hk, hk2, hl⟩
      · unfold txt
        rw [if_pos hk]
        have := textR_len hv
        omega
      · unfold txt
        rw [if_neg (by omega), if_pos hk]
        have := hnm _ hv
        omega
      · obtain ⟨x, y, hxy⟩ := list2 hl
        have ha : T.a = x := by unfold TE.a; rw [hxy]; rfl
        have hb : T.b = y := by unfold TE.b; rw [hxy]; rfl
        rw [hxy] at h ⊢ hsm
        rw [go_two h]
        unfold txt
        rw [if_neg (by omega), if_neg (by omega), if_pos (by omega), ha, hb, List.length_append, List.length_append, opK_len]
        have h1 := ih x (hsm x (List.mem_cons_self ..))
        have h2 := ih y (hsm y (List.mem_cons_of_mem _ (List.mem_cons_self ..)))
        have h3 := (par_len (need1 T.h.kind x.h y.h) (txt f x)).2
        have h4 := (par_len (need2 T.h.kind y.h) (txt f y)).2
        omega
      · obtain ⟨x, hx⟩ := list1 hl
        have ha : T.a = x := by unfold TE.a; rw [hx]; rfl
        rw [hx] at h ⊢ hsm
        rw [go_one]
        unfold txt
        rw [if_neg (by omega), if_neg (by omega), if_neg (by omega), if_pos hk, ha, List.length_cons]
        have h1 := ih x (hsm x (List.mem_cons_self ..))
        have h3 := (par_len (needM x.h) (txt f x)).2
        omega
      · obtain ⟨x, hx⟩ := list1 hl
        have ha : T.a = x := by unfold TE.a; rw [hx]; rfl
        rw [hx] at h ⊢ hsm
        rw [go_one]
        unfold txt
        rw [if_neg (by omega), if_neg (by omega), if_neg (by omega), if_neg (by omega), if_pos hk, ha, List.length_append, List.length_cons]
        have h1 := ih x (hsm x (List.mem_cons_self ..))
        have h3 := (par_len (needW x.h) (txt f x)).2
        have h4 := itoa_length_le T.h.k (by omega) (by omega)
        omega
      · obtain ⟨x, hx⟩ := list1 hl
        have ha : T.a = x := by unfold TE.a; rw [hx]; rfl
        rw [hx] at h ⊢ hsm
        rw [go_one]
        unfold txt
        rw [if_neg (by omega), if_neg (by omega), if_neg (by omega), if_neg (by omega), if_neg (by omega), ha, List.length_append, List.length_cons, List.length_append]
        have h1 := ih x (hsm x (List.mem_cons_self ..))
        have h3 := fnK_len T.h.kind
        simp only [List.length_cons, List.length_nil]
        omega
    · omega
end Go.Fl.Fm
namespace Go.Proofs.YtoogeihbhhcpaaaGreatDoor
open Go.RowKit Go.Fl Go.Fl.Fm

/-- A node as it lies. -/
structure Nd where
  h : Hd
  A : Option Addr
  len : Nat
  cap : Nat
@[reducible] def Nd.val (x : Nd) : Value := .agg #[.int .i64 x.h.kind, .int .i64 x.h.n, .int .i64 x.h.d, .string x.h.name, .int .i64 x.h.k, .slice x.A x.len x.cap]
def Nd.cells (x : Nd) : List Value := [.int .i64 x.h.kind, .int .i64 x.h.n, .int .i64 x.h.d, .string x.h.name, .int .i64 x.h.k, .slice x.A x.len x.cap]
def ndsCells (l : List Nd) : List Value := l.flatMap Nd.cells
structure HdOk (h : Hd) : Prop where
  k1 : -9223372036854775808 ≤ h.kind
  k2 : h.kind ≤ 9223372036854775807
  n1 : -9223372036854775808 ≤ h.n
  n2 : h.n ≤ 9223372036854775807
  d1 : -9223372036854775808 ≤ h.d
  d2 : h.d ≤ 9223372036854775807
  e1 : -9223372036854775808 ≤ h.k
  e2 : h.k ≤ 9223372036854775807
  s : h.name.size ≤ maxLen
/-- An expression lies at a node. -/
inductive InE (w : World) : TE → Nd → Prop where
  | mk (h : Hd) (l : List TE) (A : Option Addr) (len cap : Nat) (vs : List Nd) (ok : HdOk h) (hl : l.length = len) (hc : len ≤ cap) (hm : cap ≤ maxLen) (hv : vs.length = len) (hr : Rd w 6 A len (ndsCells vs))
      (hi : ∀ (i : Nat) T v, l[i]? = some T → vs[i]? = some v → InE w T v) : InE w (.mk h l) ⟨h, A, len, cap⟩
theorem InE.go {w w' : World} {T : TE} {v : Nd} (h : InE w T v) (hb : Below w.heap.size w w') : InE w' T v := by
  induction h with
  | mk h l A len cap vs ok hl hc hm hv hr hi ih => exact .mk h l A len cap vs ok hl hc hm hv (hr.below hb) ih
theorem InE.belowW {w w' : World} {T : TE} {v : Nd} (h : InE w T v) (hb : Below w.heap.size w w') : InE w' T v := h.go hb
theorem InE.ok {w : World} {T : TE} {v : Nd} (h : InE w T v) : HdOk v.h := by
  cases h with
  | mk h l A len cap vs ok => exact ok
theorem InE.hd {w : World} {T : TE} {v : Nd} (h : InE w T v) : T.h = v.h := by
  cases h with
  | mk h l A len cap vs ok => rfl
theorem InE.length {w : World} {T : TE} {v : Nd} (h : InE w T v) : T.l.length = v.len := by
  cases h with
  | mk h l A len cap vs ok hl => exact hl
theorem InE.caps {w : World} {T : TE} {v : Nd} (h : InE w T v) : v.len ≤ v.cap ∧ v.cap ≤ maxLen := by
  cases h with
  | mk h l A len cap vs ok hl hc hm => exact ⟨hc, hm⟩
theorem nds_at (l : List Nd) (k : Nat) (v : Nd) (h : l[k]? = some v) (j : Nat) (hj : j < 6) : (ndsCells l)[k * 6 + j]? = v.cells[j]? := by
  induction l generalizing k with
  | nil => cases h
  | cons x l ih =>
    have e : ndsCells (x :: l) = x.cells ++ ndsCells l := rfl
    have hx : x.cells.length = 6 := rfl
    cases k with
    | zero =>
      have : x = v := by simpa using h
      subst this
      rw [e, Nat.zero_mul, Nat.zero_add, List.getElem?_append_left (by omega)]
    | succ k =>
      have h' : l[k]? = some v := by simpa using h
      rw [e, List.getElem?_append_right (by omega), hx, show (k + 1) * 6 + j - 6 = k * 6 + j by omega]
      exact ih k h'
/-- The elements of an expression. -/
theorem InE.at_ {w : World} {T : TE} {v : Nd} (h : InE w T v) (i : Nat) (hi : i < v.len) :
    ∃ b o x, v.A = some ⟨b, o, none⟩ ∧ b < w.heap.size ∧ InE w (T.l.getD i default) x ∧ ∀ j u, x.cells[j]? = some u → j < 6 → w.cell? ⟨b, o + (i * 6 + j), none⟩ = some u := by
  cases h with
  | mk h l A len cap vs ok hl hc hm hv hr hin =>
    have hi' : i < len := hi
    obtain ⟨b, o, hA, hb, hcell⟩ := hr.at_ (by omega)
    obtain ⟨T, hT⟩ : ∃ T, l[i]? = some T := ⟨_, List.getElem?_eq_getElem (by omega)⟩
    obtain ⟨x, hx⟩ : ∃ x, vs[i]? = some x := ⟨_, List.getElem?_eq_getElem (by omega)⟩
    refine ⟨b, o, x, hA, hb, ?_, fun j u hu hj => ?_⟩
    · have : (TE.mk h l).l.getD i default = T := by
        show l.getD i default = T
        rw [List.getD_eq_getElem?_getD, hT]
        rfl
      rw [this]
      exact hin i T x hT hx
    · exact hcell _ _ ((nds_at vs i x hx j hj).trans hu)
end Go.Proofs.YtoogeihbhhcpaaaGreatDoor
