/-
  The parser's rules read the tokens of a printed tree as this tree, in plain Lean. No program in sight.
  The parser's rules read the tokens of a printed tree as this tree: the induction. No program in sight.
  Texts put together, and their tokens; more fuel changes nothing. In plain Lean. No program in sight.
  The text of a printed tree has the tree's tokens, and is read as the tree. In plain Lean. No program in sight.
-/
import Derived.Test.YtkjoohnndobjeaaGreatDoorQK
set_option linter.unusedVariables false
namespace Go.Fl.Pa
open Go.Lib Go.Fl.Lx Go.Fl.Fm Go.Fl.Rt
section
variable {nm : List UInt8 → Bool} {ts : List Tok}
/-- Behind a whole number no quotient goes on. -/
def Nq (ts : List Tok) (k : Nat) : Prop := ¬ (isS false ts k [47] = true ∧ integerP ts (k + 1) = true ∧ isS false ts (k + 2) [94] = false)
theorem tkn_num {f : Nat} {T : TE} (hk : T.h.kind = 1) : tkn (f + 1) T = numT T.h.n T.h.d := by
  rw [tkn, if_pos hk]
theorem tkn_var {f : Nat} {T : TE} (hk : T.h.kind = 2) : tkn (f + 1) T = [(1, T.h.name.data.toList)] := by
  rw [tkn, if_neg (by omega), if_pos hk]
theorem tkn_op {f : Nat} {T : TE} (hk : 3 ≤ T.h.kind ∧ T.h.kind ≤ 6) : tkn (f + 1) T = parT (need1 T.h.kind T.a.h T.b.h) (tkn f T.a) ++ ((3, opC T.h.kind) :: parT (need2 T.h.kind T.b.h) (tkn f T.b)) := by
  rw [tkn, if_neg (by omega), if_neg (by omega), if_pos hk.2]
theorem tkn_neg {f : Nat} {T : TE} (hk : T.h.kind = 7) : tkn (f + 1) T = (3, [45]) :: parT (needM T.a.h) (tkn f T.a) := by
  rw [tkn, if_neg (by omega), if_neg (by omega), if_neg (by omega), if_pos hk]
theorem tkn_pow {f : Nat} {T : TE} (hk : T.h.kind = 8) : tkn (f + 1) T = parT (needW T.a.h) (tkn f T.a) ++ [(3, [94]), (2, itoa T.h.k)] := by
  rw [tkn, if_neg (by omega), if_neg (by omega), if_neg (by omega), if_neg (by omega), if_pos hk]
theorem tkn_fun {f : Nat} {T : TE} (hk : 9 ≤ T.h.kind) : tkn (f + 1) T = (1, fnK T.h.kind) :: (3, [40]) :: (tkn f T.a ++ [(3, [41])]) := by
  rw [tkn, if_neg (by omega), if_neg (by omega), if_neg (by omega), if_neg (by omega), if_neg (by omega)]
theorem good_a {f : Nat} {T : TE} (hg : good nm (f + 1) T) (hl : 1 ≤ T.l.length) : good nm f T.a := by
  refine hg.2 _ ?_
  unfold TE.a
  cases hT : T.l with
  | nil => rw [hT] at hl; exact absurd hl (by decide)
  | cons x r => exact List.mem_cons_self ..
theorem good_b {f : Nat} {T : TE} (hg : good nm (f + 1) T) (hl : T.l.length = 2) : good nm f T.b := by
  refine hg.2 _ ?_
  unfold TE.b
  obtain ⟨x, y, hxy⟩ := list2 hl
  rw [hxy]
  exact List.mem_cons_of_mem _ (List.mem_cons_self ..)
end
end Go.Fl.Pa
namespace Go.Fl.Pa
open Go.Lib Go.Fl.Lx Go.Fl.Fm Go.Fl.Rt
section
variable {nm : List UInt8 → Bool} {ts : List Tok}
theorem num_len (n d : Int) : (numT n d).length = (if n < 0 then 1 else 0) + 1 + (if d = 1 then 0 else 2) := by
  unfold numT
  rw [List.length_append, List.length_cons]
  split <;> split <;> rfl
theorem chT_step {c : Int} {e b : TE} {k k2 m : Nat} {R : PR TE} (hc : (tk ts k).kind = 3 ∧ (tk ts k).text = opC c) (h : c = 5 ∨ c = 6) (hb : Ev fun F => factorP nm ts F (k + 1) m = .ok b k2)
    (hr : Ev fun F => chT nm ts F (opE c [e, b]) k2 m = R) : Ev fun F => chT nm ts F e k m = R := by
  refine ev_s2 (fun F h1 h2 => ?_) hb hr
  unfold chT
  have ht : (tk ts k).text = [42] ∨ (tk ts k).text = [47] := by rw [hc.2]; rcases h with rfl | rfl <;> decide
  have he : (if (tk ts k).text = [42] then (5 : Int) else 6) = c := by rw [hc.2]; rcases h with rfl | rfl <;> decide
  rw [if_pos ⟨hc.1, ht⟩, h1, he]
  exact h2
theorem chS_step {c : Int} {e b : TE} {k k2 m : Nat} {R : PR TE} (hc : (tk ts k).kind = 3 ∧ (tk ts k).text = opC c) (h : c = 3 ∨ c = 4) (hb : Ev fun F => termP nm ts F (k + 1) m = .ok b k2)
    (hr : Ev fun F => chS nm ts F (opE c [e, b]) k2 m = R) : Ev fun F => chS nm ts F e k m = R := by
  refine ev_s2 (fun F h1 h2 => ?_) hb hr
  unfold chS
  have ht : (tk ts k).text = [43] ∨ (tk ts k).text = [45] := by rw [hc.2]; rcases h with rfl | rfl <;> decide
  have he : (if (tk ts k).text = [43] then (3 : Int) else 4) = c := by rw [hc.2]; rcases h with rfl | rfl <;> decide
  rw [if_pos ⟨hc.1, ht⟩, h1, he]
  exact h2
/-- How each rule reads the trees of so many levels that may stand there. -/
structure Rds (nm : List UInt8 → Bool) (ts : List Tok) (f : Nat) : Prop where
  E : ∀ T k m, good nm f T → m + 3 * f ≤ 98 → Mt ts k (parT true (tkn f T)) → Ev fun F => encP nm ts F k m = .ok T (k + (tkn f T).length + 2)
  A : ∀ T k m, good nm f T → m + 3 * f ≤ 99 → needW T.h = false → Mt ts k (tkn f T) → Ev fun F => atomP nm ts F k m = .ok T (k + (tkn f T).length)
  Fa : ∀ T k m, good nm f T → m + 3 * f ≤ 99 → sumK T.h.kind = false → prodK T.h.kind = false → brok T.h = false → Mt ts k (tkn f T) → isS false ts (k + (tkn f T).length) [94] = false →
    Ev fun F => factorP nm ts F k m = .ok T (k + (tkn f T).length)
  Te : ∀ T k m R, good nm f T → m + 3 * f ≤ 99 → sumK T.h.kind = false → Mt ts k (tkn f T) → isS false ts (k + (tkn f T).length) [94] = false → (whl T.h = true → Nq ts (k + (tkn f T).length)) →
    (Ev fun F => chT nm ts F T (k + (tkn f T).length) m = R) → Ev fun F => termP nm ts F k m = R
  Su : ∀ T k m R, good nm f T → m + 3 * f ≤ 99 → Mt ts k (tkn f T) → isS false ts (k + (tkn f T).length) [94] = false → isS false ts (k + (tkn f T).length) [42] = false → isS false ts (k + (tkn f T).length) [47] = false →
    (Ev fun F => chS nm ts F T (k + (tkn f T).length) m = R) → Ev fun F => sumP nm ts F k m = R
end
end Go.Fl.Pa
namespace Go.Fl.Pa
open Go.Lib Go.Fl.Lx Go.Fl.Fm Go.Fl.Rt
def kt (t : Tok) : Nat × List UInt8 := (t.kind, t.text)
def NoRun (r : List UInt8) : Prop := ∀ c, r.head? = some c → inRun c = false
/-- A text's tokens, whatever follows; and where no letter, digit, point follows. -/
def LexS (l : List UInt8) (ks : List (Nat × List UInt8)) : Prop := ∀ r p, ∃ us p', Lx.split (l ++ r) p = pre us (Lx.split r p') ∧ us.map kt = ks
def LexK (l : List UInt8) (ks : List (Nat × List UInt8)) : Prop := ∀ r p, NoRun r → ∃ us p', Lx.split (l ++ r) p = pre us (Lx.split r p') ∧ us.map kt = ks
theorem LexS.k {l : List UInt8} {ks : List (Nat × List UInt8)} (h : LexS l ks) : LexK l ks := fun r p _ => h r p
theorem LexS.s {a b : List UInt8} {ka kb : List (Nat × List UInt8)} (h1 : LexS a ka) (h2 : LexS b kb) : LexS (a ++ b) (ka ++ kb) := fun r p => by
  obtain ⟨us, p1, e1, m1⟩ := h1 (b ++ r) p
  obtain ⟨vs, p2, e2, m2⟩ := h2 r p1
  exact ⟨us ++ vs, p2, by rw [List.append_assoc, e1, e2, pre_pre], by rw [List.map_append, m1, m2]⟩
theorem LexS.sk {a b : List UInt8} {ka kb : List (Nat × List UInt8)} (h1 : LexS a ka) (h2 : LexK b kb) : LexK (a ++ b) (ka ++ kb) := fun r p hr => by
  obtain ⟨us, p1, e1, m1⟩ := h1 (b ++ r) p
  obtain ⟨vs, p2, e2, m2⟩ := h2 r p1 hr
  exact ⟨us ++ vs, p2, by rw [List.append_assoc, e1, e2, pre_pre], by rw [List.map_append, m1, m2]⟩
theorem norun_app {b r : List UInt8} (hb : NoRun b) (hr : NoRun r) : NoRun (b ++ r) := by
  cases b with
  | nil => exact hr
  | cons c b => exact hb
theorem LexK.k {a b : List UInt8} {ka kb : List (Nat × List UInt8)} (h1 : LexK a ka) (hb : NoRun b) (h2 : LexK b kb) : LexK (a ++ b) (ka ++ kb) := fun r p hr => by
  obtain ⟨us, p1, e1, m1⟩ := h1 (b ++ r) p (norun_app hb hr)
  obtain ⟨vs, p2, e2, m2⟩ := h2 r p1 hr
  exact ⟨us ++ vs, p2, by rw [List.append_assoc, e1, e2, pre_pre], by rw [List.map_append, m1, m2]⟩
theorem LexK.s {a b : List UInt8} {ka kb : List (Nat × List UInt8)} (h1 : LexK a ka) (hb : NoRun b) (hne : b ≠ []) (h2 : LexS b kb) : LexS (a ++ b) (ka ++ kb) := fun r p => by
  obtain ⟨us, p1, e1, m1⟩ := h1 (b ++ r) p (by
    cases b with
    | nil => exact absurd rfl hne
    | cons c b => exact hb)
  obtain ⟨vs, p2, e2, m2⟩ := h2 r p1
  exact ⟨us ++ vs, p2, by rw [List.append_assoc, e1, e2, pre_pre], by rw [List.map_append, m1, m2]⟩
theorem ls_blank {c : UInt8} (h : isBlank c = true) : LexS [c] [] := fun r p => ⟨[], step1 p c, by rw [List.singleton_append, split_blank c r p h, pre_nil], rfl⟩
theorem ls_sym {c : UInt8} (h : isSym c = true) : LexS [c] [(3, [c])] := fun r p => ⟨[⟨3, [c], p.1, p.2⟩], step1 p c, by rw [List.singleton_append, split_sym c r p h], rfl⟩
theorem lk_run {t : List UInt8} {k : Nat} (hne : t ≠ []) (hall : ∀ c ∈ t, inRun c = true) (hk : kindOf t = (k, 0)) : LexK t [(k, t)] := fun r p hr => by
  obtain ⟨e1, e2⟩ := takeWhile_run t r hall hr
  cases t with
  | nil => exact absurd rfl hne
  | cons c t =>
    have hc := hall c (List.mem_cons_self ..)
    have hkk : (c :: (t ++ r).takeWhile inRun) = c :: t := by
      rw [List.cons_append, List.takeWhile_cons, if_pos hc] at e1
      exact e1
    have hdd : (t ++ r).dropWhile inRun = r := by
      rw [List.cons_append, List.dropWhile_cons, if_pos hc] at e2
      exact e2
    refine ⟨[⟨k, c :: t, p.1, p.2⟩], adv (c :: t) p, ?_, rfl⟩
    rw [List.cons_append, split_run c (t ++ r) p hc (by rw [hkk, hk]), hkk, hk, hdd]
theorem norun_nil : NoRun [] := fun c h => by cases h
theorem norun_cons {c : UInt8} {l : List UInt8} (h : inRun c = false) : NoRun (c :: l) := fun d hd => by injection hd with hd; rw [← hd]; exact h
/-- A number in decimal. -/
theorem lk_dec {v : Nat} (h : v ≤ MX) : LexK (decDigits v) [(2, decDigits v)] := by
  have hall := dec_digits v
  have hd : (decDigits v).all isDigit = true := by
    rw [List.all_eq_true] at hall ⊢
    intro c hc
    have := hall c hc
    unfold isDig at this
    unfold isDigit
    simp only [Bool.and_eq_true, decide_eq_true_eq] at this ⊢
    exact ⟨UInt8.le_iff_toNat_le.2 this.1, UInt8.le_iff_toNat_le.2 this.2⟩
  have hn : numN (decDigits v) = (decDigits v).length := by
    have h46 : ∀ c ∈ decDigits v, (c != 46) = true := fun c hc => by
      rw [bne_iff_ne]
      intro e
      rw [e] at hc
      exact dec_no v (c := 46) (by decide) hc
    unfold numN
    rw [(tw_all h46).2]
    have : digitsP (decDigits v) = true := by
      unfold digitsP
      rw [hd]
      cases hdd : decDigits v with
      | nil => exact absurd hdd (dec_ne v)
      | cons c r => rfl
    rw [if_pos this]
  have hw : wordP (decDigits v) = false := by
    unfold wordP headLetter
    cases hdd : decDigits v with
    | nil => rfl
    | cons c r =>
      rw [hdd] at hd
      rw [List.all_cons, Bool.and_eq_true] at hd
      have : isLetter c = false := by
        have := u8_all (p := fun c => !isDigit c || !isLetter c) (by decide +kernel) c
        simp only [Bool.or_eq_true, Bool.not_eq_true'] at this
        rcases this with e | e
        · rw [hd.1] at e; cases e
        · exact e
      simp only [this, Bool.false_and]
  have hlen := dec_len9 h
  have hpos : 0 < (decDigits v).length := List.length_pos_iff.2 (dec_ne v)
  refine lk_run (dec_ne v) (fun c hc => ?_) ?_
  · have := List.all_eq_true.1 hd c hc
    unfold inRun
    rw [this]
    simp
  · unfold kindOf
    rw [hw, hn, if_neg (by simp; omega), if_neg (by decide), if_pos hpos]
/-- A name, or a function's name. -/
theorem lk_word {t : List UInt8} (h : wordP t = true) (hl : t.length ≤ 20) : LexK t [(1, t)] := by
  obtain ⟨h1, h2⟩ := word_run t h
  refine lk_run h1 h2 ?_
  unfold kindOf
  rw [h, numN_word t h, if_neg (by simp; omega), if_pos rfl]
section
variable {nm : List UInt8 → Bool} {ts : List Tok}
/-- More fuel changes nothing. -/
theorem more : ∀ f : Nat,
    (∀ k n, sumP nm ts f k n ≠ .out → sumP nm ts (f + 1) k n = sumP nm ts f k n) ∧ (∀ e k n, chS nm ts f e k n ≠ .out → chS nm ts (f + 1) e k n = chS nm ts f e k n) ∧
    (∀ k n, termP nm ts f k n ≠ .out → termP nm ts (f + 1) k n = termP nm ts f k n) ∧ (∀ e k n, chT nm ts f e k n ≠ .out → chT nm ts (f + 1) e k n = chT nm ts f e k n) ∧
    (∀ k n, firstP nm ts f k n ≠ .out → firstP nm ts (f + 1) k n = firstP nm ts f k n) ∧ (∀ k n, factorP nm ts f k n ≠ .out → factorP nm ts (f + 1) k n = factorP nm ts f k n) ∧
    (∀ k n, atomP nm ts f k n ≠ .out → atomP nm ts (f + 1) k n = atomP nm ts f k n) ∧ (∀ k n, encP nm ts f k n ≠ .out → encP nm ts (f + 1) k n = encP nm ts f k n) := by
  intro f
  induction f with
  | zero => refine ⟨?_, ?_, ?_, ?_, ?_, ?_, ?_, ?_⟩ <;> intros <;> rename_i h <;> exact absurd (by first | rw [sumP] | rw [chS] | rw [termP] | rw [chT] | rw [firstP] | rw [factorP] | rw [atomP] | rw [encP]) h
  | succ f ih =>
    obtain ⟨iS, iCS, iT, iCT, iF, iFa, iA, iE⟩ := ih
    refine ⟨?_, ?_, ?_, ?_, ?_, ?_, ?_, ?_⟩
    · intro k n h
      have e1 := sumP.eq_def nm ts (f + 1 + 1) k n
      have e2 := sumP.eq_def nm ts (f + 1) k n
      simp only at e1 e2
      rw [e2] at h
      rw [e1, e2]
      cases ht : termP nm ts f k n with
      | out => rw [ht] at h; exact absurd rfl h
      | bad l c e => rw [iT k n (by rw [ht]; simp), ht]
      | ok e k1 =>
        rw [ht] at h
        rw [iT k n (by rw [ht]; simp), ht]
        exact iCS _ _ _ h
    · intro e k n h
      have e1 := chS.eq_def nm ts (f + 1 + 1) e k n
      have e2 := chS.eq_def nm ts (f + 1) e k n
      simp only at e1 e2
      rw [e2] at h
      rw [e1, e2]
      by_cases hc : (tk ts k).kind = 3 ∧ ((tk ts k).text = [43] ∨ (tk ts k).text = [45])
      · rw [if_pos hc] at h ⊢
        rw [if_pos hc]
        cases ht : termP nm ts f (k + 1) n with
        | out => rw [ht] at h; exact absurd rfl h
        | bad l c e => rw [iT _ n (by rw [ht]; simp), ht]
        | ok e k1 =>
          rw [ht] at h
          rw [iT _ n (by rw [ht]; simp), ht]
          exact iCS _ _ _ h
      · rw [if_neg hc, if_neg hc]
    · intro k n h
      have e1 := termP.eq_def nm ts (f + 1 + 1) k n
      have e2 := termP.eq_def nm ts (f + 1) k n
      simp only at e1 e2
      rw [e2] at h
      rw [e1, e2]
      cases ht : firstP nm ts f k n with
      | out => rw [ht] at h; exact absurd rfl h
      | bad l c e => rw [iF k n (by rw [ht]; simp), ht]
      | ok e k1 =>
        rw [ht] at h
        rw [iF k n (by rw [ht]; simp), ht]
        exact iCT _ _ _ h
    · intro e k n h
      have e1 := chT.eq_def nm ts (f + 1 + 1) e k n
      have e2 := chT.eq_def nm ts (f + 1) e k n
      simp only at e1 e2
      rw [e2] at h
      rw [e1, e2]
      by_cases hc : (tk ts k).kind = 3 ∧ ((tk ts k).text = [42] ∨ (tk ts k).text = [47])
      · rw [if_pos hc] at h ⊢
        rw [if_pos hc]
        cases ht : factorP nm ts f (k + 1) n with
        | out => rw [ht] at h; exact absurd rfl h
        | bad l c e => rw [iFa _ n (by rw [ht]; simp), ht]
        | ok e k1 =>
          rw [ht] at h
          rw [iFa _ n (by rw [ht]; simp), ht]
          exact iCT _ _ _ h
      · rw [if_neg hc, if_neg hc]
    · intro k n h
      have e1 := firstP.eq_def nm ts (f + 1 + 1) k n
      have e2 := firstP.eq_def nm ts (f + 1) k n
      simp only at e1 e2
      rw [e2] at h
      rw [e1, e2]
      split
      · rfl
      · rename_i hc
        rw [if_neg hc] at h
        exact iFa _ _ h
    · intro k n h
      have e1 := factorP.eq_def nm ts (f + 1 + 1) k n
      have e2 := factorP.eq_def nm ts (f + 1) k n
      simp only at e1 e2
      rw [e2] at h
      rw [e1, e2]
      split
      · rfl
      · rename_i hc
        rw [if_neg hc] at h
        split
        · rename_i hs
          rw [if_pos hs] at h
          split
          · rfl
          · rename_i hn
            rw [if_neg hn] at h
            cases ht : factorP nm ts f (k + 1) (n + 1) with
            | out => rw [ht] at h; exact absurd rfl h
            | bad l c e => rw [iFa _ _ (by rw [ht]; simp), ht]
            | ok e k1 => rw [iFa _ _ (by rw [ht]; simp), ht]
        · rename_i hs
          rw [if_neg hs] at h
          cases ht : atomP nm ts f k n with
          | out => rw [ht] at h; exact absurd rfl h
          | bad l c e => rw [iA _ _ (by rw [ht]; simp), ht]
          | ok e k1 => rw [iA _ _ (by rw [ht]; simp), ht]
    · intro k n h
      have e1 := atomP.eq_def nm ts (f + 1 + 1) k n
      have e2 := atomP.eq_def nm ts (f + 1) k n
      simp only at e1 e2
      rw [e2] at h
      rw [e1, e2]
      split
      · rfl
      · rename_i h1
        rw [if_neg h1] at h
        split
        · rfl
        · rename_i h2
          rw [if_neg h2] at h
          split
          · rename_i h3
            rw [if_pos h3] at h
            cases ht : encP nm ts f (k + 1) n with
            | out => rw [ht] at h; exact absurd rfl h
            | bad l c e => rw [iE _ _ (by rw [ht]; simp), ht]
            | ok e k1 => rw [iE _ _ (by rw [ht]; simp), ht]
          · rename_i h3
            rw [if_neg h3] at h
            exact iE _ _ h
    · intro k n h
      have e1 := encP.eq_def nm ts (f + 1 + 1) k n
      have e2 := encP.eq_def nm ts (f + 1) k n
      simp only at e1 e2
      rw [e2] at h
      rw [e1, e2]
      split
      · rename_i h1
        rw [if_pos h1] at h
        split
        · rfl
        · rename_i h2
          rw [if_neg h2] at h
          cases ht : sumP nm ts f (k + 1) (n + 1) with
          | out => rw [ht] at h; exact absurd rfl h
          | bad l c e => rw [iS _ _ (by rw [ht]; simp), ht]
          | ok e k1 => rw [iS _ _ (by rw [ht]; simp), ht]
      · rfl
end
end Go.Fl.Pa
namespace Go.Fl.Pa
open Go.Lib Go.Fl.Lx Go.Fl.Fm Go.Fl.Rt
theorem norun_app' {b r : List UInt8} (hne : b ≠ []) (hb : NoRun b) : NoRun (b ++ r) := by
  cases b with
  | nil => exact absurd rfl hne
  | cons c b => exact hb
theorem lk_par {s : List UInt8} {ks : List (Nat × List UInt8)} (h : LexK s ks) (b : Bool) : LexK (par b s) (parT b ks) := by
  unfold par parT
  cases b with
  | false => exact h
  | true =>
    rw [if_pos rfl, if_pos rfl]
    exact (ls_sym (c := 40) (by decide)).sk (h.k (norun_cons (by decide)) (ls_sym (c := 41) (by decide)).k)
theorem lk_num {n d : Int} (h : valid n d) : LexK (textR n d) (numT n d) := by
  obtain ⟨h1, h2, h3, h4, h5⟩ := h
  have hi : LexK (itoa n) ((if n < 0 then [(3, [45])] else []) ++ [(2, decDigits n.natAbs)]) := by
    unfold itoa
    by_cases hn : n < 0
    · rw [if_pos hn, if_pos hn]
      exact (ls_sym (c := 45) (by decide)).sk (lk_dec (by omega))
    · rw [if_neg hn, if_neg hn]
      have e : n.toNat = n.natAbs := by omega
      rw [e]
      exact lk_dec (by omega)
  unfold textR numT
  by_cases hd : d = 1
  · rw [if_pos hd, if_pos hd, List.append_nil]
    exact hi
  · rw [if_neg hd, if_neg hd]
    have hdd : itoa d = decDigits d.natAbs := by
      unfold itoa
      rw [if_neg (by omega)]
      congr 1
      omega
    have := hi.k (b := 47 :: itoa d) (kb := [(3, [47]), (2, decDigits d.natAbs)]) (norun_cons (by decide)) (LexS.sk (a := [47]) (b := itoa d) (ls_sym (c := 47) (by decide)) (by rw [hdd]; exact lk_dec (by omega)))
    rw [List.append_assoc] at this
    exact this
theorem lk_op {k : Int} (h : 3 ≤ k ∧ k ≤ 6) : LexS (opK k) [(3, opC k)] ∧ NoRun (opK k) ∧ opK k ≠ [] := by
  have hb := ls_blank (c := 32) (by decide)
  have : k = 3 ∨ k = 4 ∨ k = 5 ∨ k = 6 := by omega
  rcases this with e | e | e | e <;> subst e
  · exact ⟨hb.s ((ls_sym (c := 43) (by decide)).s hb), norun_cons (by decide), by decide⟩
  · exact ⟨hb.s ((ls_sym (c := 45) (by decide)).s hb), norun_cons (by decide), by decide⟩
  · exact ⟨hb.s ((ls_sym (c := 42) (by decide)).s hb), norun_cons (by decide), by decide⟩
  · exact ⟨hb.s ((ls_sym (c := 47) (by decide)).s hb), norun_cons (by decide), by decide⟩
theorem lk_fn {k : Int} (h : 9 ≤ k ∧ k ≤ 13) : LexK (fnK k) [(1, fnK k)] := by
  have : k = 9 ∨ k = 10 ∨ k = 11 ∨ k = 12 ∨ k = 13 := by omega
  rcases this with e | e | e | e | e <;> subst e <;> exact lk_word (by decide) (by decide)
theorem lk_tree {nm : List UInt8 → Bool} (hnm : ∀ l, nm l = true → wordP l = true ∧ l.length ≤ 20) : ∀ {f : Nat} {T : TE}, good nm f T → LexK (txt f T) (tkn f T) := by
  intro f
  induction f with
  | zero => intro T h; exact h.elim
  | succ f ih =>
    intro T hg
    rcases node_kinds hg.1 with ⟨hk, hl, hv⟩ | ⟨hk, hl, hv⟩ | ⟨hk, hk2, hl⟩ | ⟨hk, hl⟩ | ⟨hk, hl, hv, hv2⟩ | ⟨hk, hk2, hl⟩
    · rw [tkn_num hk, txt, if_pos hk]
      exact lk_num hv
    · rw [tkn_var hk, txt, if_neg (by omega), if_pos hk]
      exact lk_word (hnm _ hv).1 (hnm _ hv).2
    · rw [tkn_op ⟨hk, hk2⟩, txt, if_neg (by omega), if_neg (by omega), if_pos hk2]
      have ha := lk_par (ih (good_a hg (by omega))) (need1 T.h.kind T.a.h T.b.h)
      have hb := lk_par (ih (good_b hg (by omega))) (need2 T.h.kind T.b.h)
      obtain ⟨o1, o2, o3⟩ := lk_op ⟨hk, hk2⟩
      exact ha.k (norun_app' (r := par (need2 T.h.kind T.b.h) (txt f T.b)) o3 o2) (o1.sk hb)
    · rw [tkn_neg hk, txt, if_neg (by omega), if_neg (by omega), if_neg (by omega), if_pos hk]
      exact (ls_sym (c := 45) (by decide)).sk (lk_par (ih (good_a hg (by omega))) _)
    · rw [tkn_pow hk, txt, if_neg (by omega), if_neg (by omega), if_neg (by omega), if_neg (by omega), if_pos hk]
      have ha := lk_par (ih (good_a hg (by omega))) (needW T.a.h)
      have hi : itoa T.h.k = decDigits T.h.k.toNat := by rw [← itoa_nonneg, Int.toNat_of_nonneg hv]
      exact ha.k (norun_cons (by decide)) (LexS.sk (a := [94]) (b := itoa T.h.k) (ka := [(3, [94])]) (kb := [(2, itoa T.h.k)]) (ls_sym (c := 94) (by decide)) (by rw [hi]; exact lk_dec (by unfold MX; omega)))
    · rw [tkn_fun hk, txt, if_neg (by omega), if_neg (by omega), if_neg (by omega), if_neg (by omega), if_neg (by omega)]
      have ha := ih (good_a hg (by omega))
      exact (lk_fn ⟨hk, hk2⟩).k (norun_cons (by decide)) ((ls_sym (c := 40) (by decide)).sk (ha.k (norun_cons (by decide)) (ls_sym (c := 41) (by decide)).k))
end Go.Fl.Pa
