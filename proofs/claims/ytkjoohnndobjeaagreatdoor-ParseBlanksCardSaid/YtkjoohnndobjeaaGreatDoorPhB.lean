/-
  Texts with the same tokens are read alike; tokens joined by blanks, and with comments behind them. In plain Lean, but for the names of what is read.
-/
import Derived.Test.YtkjoohnndobjeaaGreatDoorPhA
import Derived.Test.YtkjoohnndobjeaaGreatDoorPgI
import Derived.Test.YtkjoohnndobjeaaGreatDoorQZ
import Derived.Test.YtkjoohnndobjeaaGreatDoorQT
set_option linter.unusedVariables false
namespace Go.Proofs.YtkjoohnndobjeaaGreatDoor
open Go.RowKit Go.Lib Go.Fl Go.Fl.Lx Go.Fl.Nm Go.Fl.Fm Go.Fl.Rt Go.Fl.Pa
theorem zs_of : ∀ {us ts : List Tok}, us.map kt = ts.map kt → zs us = zs ts
 | [], [], _ => rfl
 | [], t :: ts, h => by cases h
 | u :: us, [], h => by cases h
 | u :: us, t :: ts, h => by
  injection h with h1 h2
  have := zs_of h2
  unfold zs at this ⊢
  rw [List.map_cons, List.map_cons, this]
  unfold kt at h1
  injection h1 with h3 h4
  unfold zt
  rw [h3, h4]
theorem lexk_zs {l : List UInt8} {ts : List Tok} (h : LexK l (ts.map kt)) (hl : l.length ≤ 65536) : ∃ vs, lexRes l = .ok vs ∧ zs vs = zs ts := by
 obtain ⟨us, p', e, m⟩ := h [] (1, 1) norun_nil
 rw [List.append_nil, split_nil] at e
 refine ⟨us, ?_, zs_of m⟩
 unfold lexRes
 rw [if_neg (by omega), e]
 simp [pre]
theorem zs_len {us ts : List Tok} (h : zs us = zs ts) : us.length = ts.length := by
 have := congrArg List.length h
 rwa [len_z, len_z] at this
/-- What is read does not hang on the places. -/
theorem run_z {α : Type} {l m : List UInt8} {ts us : List Tok} {rd : List Tok → PR α} {v : α → Bool} (h1 : lexRes l = .ok ts) (h2 : lexRes m = .ok us) (hz : zs us = zs ts) (hr : ∀ ts, rd (zs ts) = (rd ts).strip) :
 (runR m rd v).1.2.2 = (runR l rd v).1.2.2 ∧ (runR m rd v).2 = (runR l rd v).2 := by
 have e : (rd us).strip = (rd ts).strip := by rw [← hr, ← hr, hz]
 have hn := zs_len hz
 unfold runR
 rw [h1, h2]
 simp only
 cases ha : rd ts with
 | out =>
  rw [ha] at e
  cases hb : rd us with
  | out => exact ⟨rfl, rfl⟩
  | ok T k => rw [hb] at e; cases e
  | bad a b c => rw [hb] at e; cases e
 | bad a b c =>
  rw [ha] at e
  cases hb : rd us with
  | out => rw [hb] at e; cases e
  | ok T k => rw [hb] at e; cases e
  | bad a' b' c' =>
   rw [hb] at e
   injection e with _ _ e3
   subst e3
   exact ⟨rfl, rfl⟩
 | ok T k =>
  rw [ha] at e
  cases hb : rd us with
  | out => rw [hb] at e; cases e
  | bad a' b' c' => rw [hb] at e; cases e
  | ok T' k' =>
   rw [hb] at e
   injection e with e1 e2
   subst e1 e2
   unfold runS
   simp only
   rw [hn]
   split
   ·
    exact ⟨rfl, rfl⟩
   split <;> exact ⟨rfl, rfl⟩
theorem expr_z {l m : List UInt8} {ts us : List Tok} (h1 : lexRes l = .ok ts) (h2 : lexRes m = .ok us) (hz : zs us = zs ts) : (exprR m).1.2.2 = (exprR l).1.2.2 ∧ (exprR m).2 = (exprR l).2 :=
 run_z h1 h2 hz (fun ts => by
  have := sumE_z (nm := nameP) (ts := ts) 0
  exact this)
theorem prob_zz {l m : List UInt8} {ts us : List Tok} (h1 : lexRes l = .ok ts) (h2 : lexRes m = .ok us) (hz : zs us = zs ts) : (probR m).1.2.2 = (probR l).1.2.2 ∧ (probR m).2 = (probR l).2 :=
 run_z h1 h2 hz (fun ts => prob_z 0)
/-! Tokens. -/
theorem tok_badP {t : Tok} (h : tokOk t) : badP (tiOf t) = false := by
 unfold badP validP tiOf
 simp only [Bool.not_eq_false']
 rcases h with ⟨h1, c, h2, h3⟩ | ⟨h1, h2⟩
 ·
  rw [h1, if_pos (by decide), h2]
  exact h3
 have hk : (t.kind : Int) ≠ 3 := by rcases h1 with h1 | h1 <;> omega
 rw [if_neg (by simpa using hk), h2]
 rcases h1 with h1 | h1 <;> rw [h1] <;> rfl
theorem tok_lk {t : Tok} (h : tokOk t) : LexK t.text [kt t] := by
 rcases h with ⟨h1, c, h2, h3⟩ | ⟨h1, h2⟩
 ·
  unfold kt
  rw [h1, h2]
  exact (ls_sym h3).k
 have hn : t.text ≠ [] ∧ ∀ c ∈ t.text, inRun c = true := by
  rcases h1 with h1 | h1
  ·
   exact word_run _ (kind1 _ (h2.trans h1)).2.1
  have := num_run _ (kind2 _ (h2.trans h1)).2
  exact ⟨this.1, this.2.1⟩
 have hk : kindOf t.text = (t.kind, 0) := by
  rcases h1 with h1 | h1
  ·
   rw [(kind1 _ (h2.trans h1)).1, h1]
  rw [(kind2 _ (h2.trans h1)).1, h1]
 exact lk_run hn.1 hn.2 hk
/-- A comment up to the line's end. -/
theorem ls_comment {n : List UInt8} (h : (10 : UInt8) ∉ n) : LexS ([35] ++ n ++ [10]) [] := fun r p => by
 have hd : (n ++ 10 :: r).dropWhile (· != 10) = 10 :: r := by
  clear p
  induction n with
  | nil => rfl
  | cons c n ih =>
   have hc : (c != 10) = true := by
    rw [bne_iff_ne]
    intro e
    exact h (by rw [e]; simp)
   rw [List.cons_append, List.dropWhile_cons, hc, if_pos rfl]
   exact ih (fun e => h (by simp [e]))
 have e1 : [35] ++ n ++ [10] ++ r = 35 :: (n ++ 10 :: r) := by simp
 rw [e1, split_hash, hd]
 exact ⟨[], _, by rw [split_blank 10 r _ (by decide), pre_nil], rfl⟩
/-- What stands behind each token. -/
def noteT (n : List UInt8) (t : Tok) : List UInt8 := t.text ++ ([32, 9, 35, 32] ++ n ++ [10])
theorem ls_note {n : List UInt8} (h : (10 : UInt8) ∉ n) {t : Tok} (ht : tokOk t) : LexS (noteT n t) [kt t] := by
 have h1 := (ls_blank (c := 32) (by decide)).s ((ls_blank (c := 9) (by decide)).s (ls_comment (n := 32 :: n) (fun e => by
  rcases List.mem_cons.1 e with e | e
  ·
   cases e
  exact h e)))
 have h2 := (tok_lk ht).s (b := [32] ++ ([9] ++ ([35] ++ (32 :: n) ++ [10]))) (norun_cons (by decide)) (by simp) h1
 unfold noteT
 simpa [List.append_assoc] using h2
theorem ls_notes {n : List UInt8} (h : (10 : UInt8) ∉ n) {ts : List Tok} (ht : ∀ t ∈ ts, tokOk t) : LexS (ts.flatMap (noteT n)) (ts.map kt) := by
 have := ls_flat (noteT n) (fun t => [kt t]) ts (fun t h2 => ls_note h (ht t h2))
 have e : ts.flatMap (fun t => [kt t]) = ts.map kt := by
  induction ts with
  | nil => rfl
  | cons t ts ih => rw [List.flatMap_cons, List.map_cons, ih (fun x hx => ht x (by simp [hx])) (ls_flat _ _ _ (fun t h2 => ls_note h (ht t (by simp [h2]))))]; rfl
 rw [← e]
 exact this
/-! Lengths. -/
def lsum (ts : List Tok) : Nat := (ts.map (fun t => t.text.length)).sum
theorem split_sum : ∀ (n : Nat) (l : List UInt8) (p : Nat × Nat) (ts : List Tok), l.length ≤ n → Lx.split l p = .ok ts → lsum ts ≤ l.length := by
 intro n
 induction n with
 | zero =>
  intro l p ts hn h
  obtain rfl : l = [] := List.eq_nil_of_length_eq_zero (by omega); rw [split_nil] at h; injection h with h; subst h
  exact Nat.le_refl _
 | succ n ih =>
  intro l p ts hn h
  cases l with
  | nil =>
   rw [split_nil] at h; injection h with h; subst h
   exact Nat.le_refl _
  | cons c r =>
   have d : r.length ≤ n := (by simp at hn; omega); rw [List.length_cons]
   by_cases hb : isBlank c = true
   ·
    rw [split_blank c r p hb] at h
    have := ih r _ ts d h
    omega
   by_cases hs : isSym c = true
   ·
    rw [split_sym c r p hs] at h; obtain ⟨a, b, rfl⟩ := pre_mem h
    have := ih r _ a d b
    show 1 + lsum a ≤ _
    omega
   by_cases hi : inRun c = true
   ·
    by_cases hk : (kindOf (c :: r.takeWhile inRun)).2 = 0
    ·
     rw [split_run c r p hi hk] at h; obtain ⟨a, b, rfl⟩ := pre_mem h
     have f : r.length = (r.takeWhile inRun).length + (r.dropWhile inRun).length := by
      rw [← List.length_append, List.takeWhile_append_dropWhile]
     have := ih _ _ a (by omega) b
     show (c :: r.takeWhile inRun).length + lsum a ≤ _
     rw [List.length_cons]
     omega
    rw [split_run_err c r p hi hk] at h
    cases h
   by_cases h35 : c = 35
   ·
    subst h35; rw [split_hash] at h
    have f : r.length = (r.takeWhile (· != 10)).length + (r.dropWhile (· != 10)).length := by
     rw [← List.length_append, List.takeWhile_append_dropWhile]
    have := ih _ _ ts (by omega) h
    omega
   rw [split_bad c r p (by simpa using hb) (by simpa using hs) (by simpa using hi) h35] at h
   cases h
theorem join_sum : ∀ (xs : List (List UInt8)), (Lib.join xs [32]).length ≤ (xs.map List.length).sum + xs.length
 | [] => Nat.le_refl _
 | y :: r => by
  have ht : ∀ r : List (List UInt8), (Lib.joinTail [32] r).length ≤ (r.map List.length).sum + r.length := fun r => by
   induction r with
   | nil => simp [Lib.joinTail]
   | cons z r ih =>
    have e : Lib.joinTail [32] (z :: r) = [32] ++ z ++ Lib.joinTail [32] r := by simp [Lib.joinTail]
    rw [e, List.length_append, List.length_append, List.map_cons, List.sum_cons, List.length_cons, List.length_cons, List.length_nil]
    omega
  have := ht r
  rw [Lib.join_cons, List.length_append, List.map_cons, List.sum_cons, List.length_cons]
  omega
theorem backT_kt : ∀ (ts : List Tok) (c : Nat), (backToks (ts.map tiOf) c).map kt = ts.map kt
 | [], _ => rfl
 | t :: ts, c => by
  rw [List.map_cons, backToks, List.map_cons, List.map_cons, backT_kt ts]
  rfl
/-- The tokens of the joined text. -/
theorem join_zs {l : List UInt8} {ts : List Tok} (h : lexRes l = .ok ts) (hl : l.length ≤ 4000) : joinP (ts.map tiOf) = Lib.join (texts (ts.map tiOf)) [32] ∧ (joinP (ts.map tiOf)).length ≤ 8000 ∧ ∃ vs, lexRes (joinP (ts.map tiOf)) = .ok vs ∧ zs vs = zs ts := by
 obtain ⟨_, _, h3⟩ := lex_facts h
 have hbad : (ts.map tiOf).any badP = false := by
  rw [List.any_eq_false]
  intro x hx
  obtain ⟨t, ht, rfl⟩ := List.mem_map.1 hx
  rw [tok_badP (h3 t ht).1]
  simp
 have e : joinP (ts.map tiOf) = Lib.join (texts (ts.map tiOf)) [32] := by unfold joinP; rw [hbad]; rfl
 have h1 : lsum ts ≤ l.length ∧ ts.length ≤ l.length := by
  unfold lexRes at h
  split at h
  ·
   cases h
  exact ⟨split_sum l.length l (1, 1) ts (Nat.le_refl _) h, (split_bd l.length l (1, 1) ts (Nat.le_refl _) h).1⟩
 have h2 : (Lib.join (texts (ts.map tiOf)) [32]).length ≤ 8000 := by
  have := join_sum (texts (ts.map tiOf))
  have e2 : ((texts (ts.map tiOf)).map List.length).sum = lsum ts := by
   unfold texts lsum
   rw [List.map_map, List.map_map]
   rfl
  have e3 : (texts (ts.map tiOf)).length = ts.length := by unfold texts; simp
  omega
 refine ⟨e, by rw [e]; exact h2, backToks (ts.map tiOf) 1, ?_, zs_of (backT_kt ts 1)⟩
 rw [e]
 unfold lexRes
 rw [if_neg (by omega)]
 exact split_join _ hbad 1
/-- The tokens of the text with comments. -/
theorem note_zs {l n : List UInt8} {ts : List Tok} (h : lexRes l = .ok ts) (hn : (10 : UInt8) ∉ n) (hl : (ts.flatMap (noteT n)).length ≤ 65536) : ∃ vs, lexRes (ts.flatMap (noteT n)) = .ok vs ∧ zs vs = zs ts := by
 obtain ⟨_, _, h3⟩ := lex_facts h
 exact lexk_zs (ls_notes hn (fun t ht => (h3 t ht).1)).k hl
end Go.Proofs.YtkjoohnndobjeaaGreatDoor
