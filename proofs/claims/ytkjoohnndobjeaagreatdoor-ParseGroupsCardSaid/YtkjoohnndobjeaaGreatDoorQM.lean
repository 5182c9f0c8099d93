/-
  The parser's rules read the tokens of a printed tree as this tree, in plain Lean. No program in sight.
  The parser's rules read the tokens of a printed tree as this tree: the induction. No program in sight.
  Texts put together, and their tokens; more fuel changes nothing. In plain Lean. No program in sight.
  The text of a printed tree has the tree's tokens, and is read as the tree. In plain Lean. No program in sight.
-/
import Derived.Test.YtkjoohnndobjeaaGreatDoorQK
set_option linter.unusedVariables false
namespace Go.Fl.Pa
open Go.Lib Go.Fl.Lx Go.Fl.Fm Go.Fl.Rt
section
variable {nm : List UInt8 → Bool} {ts : List Tok}
/-- Behind a whole number no quotient goes on. -/
def Nq (ts : List Tok) (k : Nat) : Prop := ¬ (isS false ts k [47] = true ∧ integerP ts (k + 1) = true ∧ isS false ts (k + 2) [94] = false)
theorem fac_atom {k m k1 : Nat} {T : TE} (hs : isS false ts k [45] = false) (hk : (tk ts k).kind = 2 → isS false ts (k + 1) [94] = true)
    (hx : isS false ts k1 [94] = false) (ha : Ev fun F => atomP nm ts F k m = .ok T k1) : Ev fun F => factorP nm ts F k m = .ok T k1 := by
  refine ev_s1 (fun F h => ?_) ha
  unfold factorP
  rw [sign0 hs, Nat.add_zero, if_neg (fun h2 => by rw [hk h2.1] at h2; cases h2.2), if_neg (by decide), h]
  simp only [hx, Bool.false_eq_true, if_false]
theorem fac_pow {k m k1 v : Nat} {T : TE} (hs : isS false ts k [45] = false) (hk : (tk ts k).kind = 2 → isS false ts (k + 1) [94] = true)
    (hx : isS false ts k1 [94] = true) (hi : integerP ts (k1 + 1) = true) (hv : powV (tk ts (k1 + 1)).text = v) (hv2 : v ≤ 16) (ha : Ev fun F => atomP nm ts F k m = .ok T k1) :
    Ev fun F => factorP nm ts F k m = .ok (powE v T) (k1 + 2) := by
  refine ev_s1 (fun F h => ?_) ha
  unfold factorP
  rw [sign0 hs, Nat.add_zero, if_neg (fun h2 => by rw [hk h2.1] at h2; cases h2.2), if_neg (by decide), h]
  simp only [hx, if_true, hi, hv]
  rw [if_neg (by decide), if_neg (by omega)]
theorem fac_neg {k m k1 : Nat} {T : TE} (hs : isS false ts k [45] = true) (hk : (tk ts (k + 1)).kind = 2 → isS false ts (k + 2) [94] = true) (hm : m ≠ 100)
    (ha : Ev fun F => factorP nm ts F (k + 1) (m + 1) = .ok T k1) : Ev fun F => factorP nm ts F k m = .ok (opE 7 [T]) k1 := by
  refine ev_s1 (fun F h => ?_) ha
  unfold factorP
  rw [sign1 hs, if_neg (fun h2 => by rw [hk h2.1] at h2; cases h2.2), if_pos rfl, if_neg hm, h]
theorem fac_num {k m k1 : Nat} {r : Int × Int} (hk : (tk ts (k + signP ts k)).kind = 2) (hx : isS false ts (k + signP ts k + 1) [94] = false) (hn : numP ts k = .ok r k1) :
    Ev fun F => factorP nm ts F k m = .ok (numE r) k1 := by
  refine ev_s0 (fun F => ?_)
  unfold factorP
  rw [if_pos ⟨hk, hx⟩, hn]
  rfl
theorem fst_fac {k m : Nat} {R : PR TE} (hf : fracP ts k = false) (ha : Ev fun F => factorP nm ts F k m = R) : Ev fun F => firstP nm ts F k m = R := by
  refine ev_s1 (fun F h => ?_) ha
  unfold firstP
  rw [hf, Bool.false_and, if_neg (by decide), h]
theorem fst_fac2 {k m : Nat} {R : PR TE} (hf : isS false ts (k + signP ts k + 3) [94] = true) (ha : Ev fun F => factorP nm ts F k m = R) : Ev fun F => firstP nm ts F k m = R := by
  refine ev_s1 (fun F h => ?_) ha
  unfold firstP
  rw [hf, Bool.not_true, Bool.and_false, if_neg (by decide), h]
theorem fst_quot {k m k1 : Nat} {r : Int × Int} (hf : fracP ts k = true) (hx : isS false ts (k + signP ts k + 3) [94] = false) (hq : quotP ts k = .ok r k1) :
    Ev fun F => firstP nm ts F k m = .ok (numE r) k1 := by
  refine ev_s0 (fun F => ?_)
  unfold firstP
  rw [hf, hx, Bool.not_false, Bool.and_self, if_pos rfl, hq]
  rfl
theorem atom_par {k m : Nat} {R : PR TE} (h : (tk ts k).kind = 3) (ha : Ev fun F => encP nm ts F k m = R) : Ev fun F => atomP nm ts F k m = R := by
  refine ev_s1 (fun F h2 => ?_) ha
  unfold atomP
  rw [if_neg (by omega), if_neg (by omega), if_neg (by omega), h2]
theorem atom_num {k m k1 : Nat} {r : Int × Int} (h : (tk ts k).kind = 2) (hn : numP ts k = .ok r k1) : Ev fun F => atomP nm ts F k m = .ok (numE r) k1 := by
  refine ev_s0 (fun F => ?_)
  unfold atomP
  rw [if_pos h, hn]
  rfl
theorem atom_var {k m : Nat} {s : List UInt8} (h : (tk ts k).kind = 1 ∧ (tk ts k).text = s) (hn : nm s = true) : Ev fun F => atomP nm ts F k m = .ok (varE s) (k + 1) := by
  refine ev_s0 (fun F => ?_)
  unfold atomP
  rw [if_neg (by omega), if_pos ⟨h.1, by rw [h.2]; exact hn⟩, h.2]
theorem atom_fun {k m k1 : Nat} {s : List UInt8} {T : TE} (h : (tk ts k).kind = 1 ∧ (tk ts k).text = s) (hn : nm s = false) (hf : funK s ≠ 0)
    (ha : Ev fun F => encP nm ts F (k + 1) m = .ok T k1) : Ev fun F => atomP nm ts F k m = .ok (opE (funK s) [T]) k1 := by
  refine ev_s1 (fun F h2 => ?_) ha
  unfold atomP
  rw [if_neg (by omega), if_neg (fun h3 => by rw [h.2, hn] at h3; cases h3.2), if_pos ⟨h.1, by rw [h.2]; exact hf⟩, h2, h.2]
theorem enc_ok {k m k1 : Nat} {T : TE} (h : isS false ts k [40] = true) (hm : m ≠ 100) (h2 : isS false ts k1 [41] = true) (ha : Ev fun F => sumP nm ts F (k + 1) (m + 1) = .ok T k1) :
    Ev fun F => encP nm ts F k m = .ok T (k1 + 1) := by
  refine ev_s1 (fun F h3 => ?_) ha
  unfold encP
  rw [if_pos h, if_neg hm, h3]
  simp only [h2, if_true]
/-- The first token of a tree that is no sum, product, or quotient of numbers. -/
theorem atom_shape {h : Hd} {len : Nat} (hn : nodeB nm h len = true) (hw : needW h = false) : (h.kind = 1 ∧ 0 ≤ h.n ∧ h.d = 1) ∨ h.kind = 2 ∨ (9 ≤ h.kind ∧ h.kind ≤ 13) := by
  unfold needW sumK prodK brok whl at hw
  simp only [Bool.or_eq_false_iff, beq_eq_false_iff_ne, Bool.and_eq_false_iff, decide_eq_false_iff_not, ne_eq, bne_eq_false_iff_eq] at hw
  rcases node_kinds hn with ⟨hk, hl, hv⟩ | ⟨hk, hl, hv⟩ | ⟨hk, hk2, hl⟩ | ⟨hk, hl⟩ | ⟨hk, hl, hv, hv2⟩ | ⟨hk, hk2, hl⟩
  · refine .inl ⟨hk, ?_, ?_⟩ <;> omega
  · exact .inr (.inl hk)
  · omega
  · omega
  · omega
  · exact .inr (.inr ⟨hk, hk2⟩)
theorem tkn_num {f : Nat} {T : TE} (hk : T.h.kind = 1) : tkn (f + 1) T = numT T.h.n T.h.d := by
  rw [tkn, if_pos hk]
theorem tkn_var {f : Nat} {T : TE} (hk : T.h.kind = 2) : tkn (f + 1) T = [(1, T.h.name.data.toList)] := by
  rw [tkn, if_neg (by omega), if_pos hk]
theorem tkn_op {f : Nat} {T : TE} (hk : 3 ≤ T.h.kind ∧ T.h.kind ≤ 6) : tkn (f + 1) T = parT (need1 T.h.kind T.a.h T.b.h) (tkn f T.a) ++ ((3, opC T.h.kind) :: parT (need2 T.h.kind T.b.h) (tkn f T.b)) := by
  rw [tkn, if_neg (by omega), if_neg (by omega), if_pos hk.2]
theorem tkn_neg {f : Nat} {T : TE} (hk : T.h.kind = 7) : tkn (f + 1) T = (3, [45]) :: parT (needM T.a.h) (tkn f T.a) := by
  rw [tkn, if_neg (by omega), if_neg (by omega), if_neg (by omega), if_pos hk]
theorem tkn_pow {f : Nat} {T : TE} (hk : T.h.kind = 8) : tkn (f + 1) T = parT (needW T.a.h) (tkn f T.a) ++ [(3, [94]), (2, itoa T.h.k)] := by
  rw [tkn, if_neg (by omega), if_neg (by omega), if_neg (by omega), if_neg (by omega), if_pos hk]
theorem tkn_fun {f : Nat} {T : TE} (hk : 9 ≤ T.h.kind) : tkn (f + 1) T = (1, fnK T.h.kind) :: (3, [40]) :: (tkn f T.a ++ [(3, [41])]) := by
  rw [tkn, if_neg (by omega), if_neg (by omega), if_neg (by omega), if_neg (by omega), if_neg (by omega)]
theorem parT_len (l : List (Nat × List UInt8)) : (parT true l).length = l.length + 2 := by
  unfold parT
  rw [if_pos rfl, List.length_cons, List.length_append]
  rfl
theorem good_a {f : Nat} {T : TE} (hg : good nm (f + 1) T) (hl : 1 ≤ T.l.length) : good nm f T.a := by
  refine hg.2 _ ?_
  unfold TE.a
  cases hT : T.l with
  | nil => rw [hT] at hl; exact absurd hl (by decide)
  | cons x r => exact List.mem_cons_self ..
theorem good_b {f : Nat} {T : TE} (hg : good nm (f + 1) T) (hl : T.l.length = 2) : good nm f T.b := by
  refine hg.2 _ ?_
  unfold TE.b
  obtain ⟨x, y, hxy⟩ := list2 hl
  rw [hxy]
  exact List.mem_cons_of_mem _ (List.mem_cons_self ..)
/-- How a tree begins that stands as a factor: with a whole number, with a power of one, with a sign, or otherwise. -/
theorem first_tok : ∀ {f : Nat} {T : TE} {k : Nat}, good nm f T → Mt ts k (tkn f T) → sumK T.h.kind = false → prodK T.h.kind = false → brok T.h = false →
    ((tk ts k).kind = 2 ∧ T.h.kind = 1 ∧ 0 ≤ T.h.n ∧ T.h.d = 1) ∨ ((tk ts k).kind = 2 ∧ isS false ts (k + 1) [94] = true ∧ T.h.kind = 8) ∨ ((tk ts k).kind ≠ 2 ∧ isS false ts k [45] = false) ∨
      ((tk ts k).kind = 3 ∧ (tk ts k).text = [45] ∧ (T.h.kind = 7 ∨ T.h.kind = 1 ∧ T.h.n < 0 ∧ T.h.d = 1)) := by
  intro f T k hg h hs hp hb
  match f, hg, h with
  | f + 1, hg, h =>
    unfold sumK at hs
    unfold prodK at hp
    unfold brok at hb
    simp only [Bool.or_eq_false_iff, beq_eq_false_iff_ne, Bool.and_eq_false_iff, ne_eq, bne_eq_false_iff_eq] at hs hp hb
    rcases node_kinds hg.1 with ⟨hk, hl, hv⟩ | ⟨hk, hl, hv⟩ | ⟨hk, hk2, hl⟩ | ⟨hk, hl⟩ | ⟨hk, hl, hv, hv2⟩ | ⟨hk, hk2, hl⟩
    · have hd : T.h.d = 1 := by omega
      rw [tkn_num hk] at h
      unfold numT at h
      by_cases hn : T.h.n < 0
      · rw [if_pos hn] at h
        exact .inr (.inr (.inr ⟨h.1.1, h.1.2, .inr ⟨hk, hn, hd⟩⟩))
      · rw [if_neg hn] at h
        exact .inl ⟨h.1.1, hk, by omega, hd⟩
    · rw [tkn_var hk] at h
      have h1 := h.1.1
      simp only at h1
      exact .inr (.inr (.inl ⟨by omega, isS_no3 (by omega)⟩))
    · omega
    · rw [tkn_neg hk] at h
      exact .inr (.inr (.inr ⟨h.1.1, h.1.2, .inl hk⟩))
    · rw [tkn_pow hk] at h
      have ga := good_a hg (by omega)
      by_cases hw : needW T.a.h = true
      · rw [hw] at h
        have h1 := par_first (mt_app.1 h).1
        exact .inr (.inr (.inl ⟨by omega, by rw [isS_sym h1]; decide⟩))
      · have hw' : needW T.a.h = false := by simpa using hw
        rw [hw'] at h
        match f, ga, h with
        | f + 1, ga, h =>
          rcases atom_shape ga.1 hw' with ⟨h1, h2, h3⟩ | h1 | ⟨h1, h2⟩
          · rw [tkn_num h1] at h
            unfold numT parT at h
            rw [if_neg (by decide : ¬ false = true), if_neg (by omega : ¬ T.a.h.n < 0), if_pos h3] at h
            exact .inr (.inl ⟨h.1.1, by rw [isS_sym h.2.1]; decide, hk⟩)
          · rw [tkn_var h1] at h
            have h1 := h.1.1
            simp only at h1
            exact .inr (.inr (.inl ⟨by omega, isS_no3 (by omega)⟩))
          · rw [tkn_fun h1] at h
            have h1 := h.1.1
            simp only at h1
            exact .inr (.inr (.inl ⟨by omega, isS_no3 (by omega)⟩))
    · rw [tkn_fun hk] at h
      have h1 := h.1.1
      simp only at h1
      exact .inr (.inr (.inl ⟨by omega, isS_no3 (by omega)⟩))
end
end Go.Fl.Pa
namespace Go.Fl.Pa
open Go.Lib Go.Fl.Lx Go.Fl.Fm Go.Fl.Rt
theorem ok_eq {α : Type} {a b : α} {i j : Nat} (h1 : a = b) (h2 : i = j) : PR.ok a i = PR.ok b j := by rw [h1, h2]
theorem ev_cast {α : Type} {p : Nat → α} {x y : α} (h : Ev fun F => p F = x) (e : x = y) : Ev fun F => p F = y := e ▸ h
theorem read_dec {v : Nat} (h : v ≤ MX) : read1 (decDigits v) = ((v : Int), 1, 0) := by
  have h2 : textR (v : Int) 1 = decDigits v := by unfold textR; rw [if_pos rfl, List.append_nil, itoa_nonneg]
  rw [← h2]
  exact read_text ⟨by decide, by decide, by omega, by omega, Nat.gcd_one_right _⟩
theorem powV_snoc (l : List UInt8) (b : UInt8) : powV (l ++ [b]) = min (10 * powV l + (b.toNat - 48)) 17 := by simp [powV]
theorem powV_dec (v : Nat) : powV (decDigits v) = min v 17 := by
  induction v using Nat.strongRecOn with
  | ind v ih =>
    by_cases h : v < 10
    · rw [decDigits_one h]
      have : (UInt8.ofNat (48 + v)).toNat = 48 + v := by simp; omega
      rw [show [UInt8.ofNat (48 + v)] = [] ++ [UInt8.ofNat (48 + v)] from rfl, powV_snoc, this]
      show min (10 * 0 + (48 + v - 48)) 17 = min v 17
      omega
    · rw [dec_big h, powV_snoc, ih (v / 10) (by omega)]
      have : (UInt8.ofNat (48 + v % 10)).toNat = 48 + v % 10 := by simp; omega
      rw [this]
      omega
section
variable {nm : List UInt8 → Bool} {ts : List Tok}
theorem num_first {n d : Int} {k : Nat} (h : Mt ts k (numT n d)) : signP ts k = (if n < 0 then 1 else 0) ∧ isS false ts k [45] = decide (n < 0) ∧
    ((tk ts (k + signP ts k)).kind = 2 ∧ (tk ts (k + signP ts k)).text = decDigits n.natAbs) ∧ Mt ts (k + signP ts k + 1) (if d = 1 then [] else [(3, [47]), (2, decDigits d.natAbs)]) := by
  unfold numT at h
  by_cases hn : n < 0
  · rw [if_pos hn] at h
    have hs : isS false ts k [45] = true := by rw [isS_sym h.1]; decide
    have h1 := sign1 hs
    rw [h1, if_pos hn, hs, decide_eq_true hn]
    exact ⟨rfl, rfl, h.2.1, h.2.2⟩
  · rw [if_neg hn] at h
    have hk : (tk ts k).kind = 2 := h.1.1
    have hs : isS false ts k [45] = false := isS_no3 (by omega)
    have h1 := sign0 hs
    rw [h1, if_neg hn, hs, decide_eq_false hn]
    exact ⟨rfl, rfl, h.1, h.2⟩
theorem num_len (n d : Int) : (numT n d).length = (if n < 0 then 1 else 0) + 1 + (if d = 1 then 0 else 2) := by
  unfold numT
  rw [List.length_append, List.length_cons]
  split <;> split <;> rfl
theorem num_head {n d : Int} {k : Nat} (h : Mt ts k (numT n d)) (hv : -(MX : Int) ≤ n ∧ n ≤ MX) : numP ts k = .ok (n, 1) (k + signP ts k + 1) := by
  obtain ⟨h1, h2, h3, h4⟩ := num_first h
  unfold numP
  rw [if_neg (by rw [h3.1]; simp), h3.2, read_dec (by omega), if_neg (by simp), h2]
  refine ok_eq ?_ rfl
  by_cases hn : n < 0
  · rw [decide_eq_true hn, if_pos rfl]
    refine Prod.ext ?_ rfl
    simp only
    omega
  · rw [decide_eq_false hn, if_neg (by simp)]
    refine Prod.ext ?_ rfl
    simp only
    omega
theorem quot_read {n d : Int} {k : Nat} (h : Mt ts k (numT n d)) (hv : valid n d) (hd : d ≠ 1) : fracP ts k = true ∧ quotP ts k = .ok (n, d) (k + (numT n d).length) := by
  obtain ⟨h1, h2, h3, h4⟩ := num_first h
  have hn := num_head h ⟨hv.2.2.1, hv.2.2.2.1⟩
  rw [if_neg hd] at h4
  have hs : isS false ts (k + signP ts k + 1) [47] = true := by rw [isS_sym h4.1]; decide
  have h5 : (tk ts (k + signP ts k + 2)).kind = 2 ∧ (tk ts (k + signP ts k + 2)).text = decDigits d.natAbs := h4.2.1
  constructor
  · unfold fracP
    rw [int_dec h3, hs, int_dec h5]
    rfl
  · unfold quotP
    rw [hn]
    simp only [PR.bind]
    have hdd : ((d.natAbs : Nat) : Int) = d := by have := hv.1; omega
    have hmk := make_of_eq (x := n) (y := d) hv (by have := hv.1; omega) rfl
    rw [hs, if_neg (by decide), show k + signP ts k + 1 + 1 = k + signP ts k + 2 from rfl, h5.2, read_dec (by have := hv.1; have := hv.2.1; omega), if_neg (by simp)]
    simp only [hdd, hmk]
    rw [if_neg (by simp)]
    refine ok_eq rfl ?_
    rw [num_len, if_neg hd, h1]
    omega
theorem chT_step {c : Int} {e b : TE} {k k2 m : Nat} {R : PR TE} (hc : (tk ts k).kind = 3 ∧ (tk ts k).text = opC c) (h : c = 5 ∨ c = 6) (hb : Ev fun F => factorP nm ts F (k + 1) m = .ok b k2)
    (hr : Ev fun F => chT nm ts F (opE c [e, b]) k2 m = R) : Ev fun F => chT nm ts F e k m = R := by
  refine ev_s2 (fun F h1 h2 => ?_) hb hr
  unfold chT
  have ht : (tk ts k).text = [42] ∨ (tk ts k).text = [47] := by rw [hc.2]; rcases h with rfl | rfl <;> decide
  have he : (if (tk ts k).text = [42] then (5 : Int) else 6) = c := by rw [hc.2]; rcases h with rfl | rfl <;> decide
  rw [if_pos ⟨hc.1, ht⟩, h1, he]
  exact h2
theorem chS_step {c : Int} {e b : TE} {k k2 m : Nat} {R : PR TE} (hc : (tk ts k).kind = 3 ∧ (tk ts k).text = opC c) (h : c = 3 ∨ c = 4) (hb : Ev fun F => termP nm ts F (k + 1) m = .ok b k2)
    (hr : Ev fun F => chS nm ts F (opE c [e, b]) k2 m = R) : Ev fun F => chS nm ts F e k m = R := by
  refine ev_s2 (fun F h1 h2 => ?_) hb hr
  unfold chS
  have ht : (tk ts k).text = [43] ∨ (tk ts k).text = [45] := by rw [hc.2]; rcases h with rfl | rfl <;> decide
  have he : (if (tk ts k).text = [43] then (3 : Int) else 4) = c := by rw [hc.2]; rcases h with rfl | rfl <;> decide
  rw [if_pos ⟨hc.1, ht⟩, h1, he]
  exact h2
theorem chT_end {e : TE} {k m : Nat} (h1 : isS false ts k [42] = false) (h2 : isS false ts k [47] = false) : Ev fun F => chT nm ts F e k m = .ok e k := by
  refine ev_s0 (fun F => ?_)
  unfold chT
  rw [if_neg]
  rintro ⟨hk, ht | ht⟩
  · rw [isS_sym ⟨hk, ht⟩] at h1
    cases h1
  · rw [isS_sym ⟨hk, ht⟩] at h2
    cases h2
theorem chS_end {e : TE} {k m : Nat} (h1 : isS false ts k [43] = false) (h2 : isS false ts k [45] = false) : Ev fun F => chS nm ts F e k m = .ok e k := by
  refine ev_s0 (fun F => ?_)
  unfold chS
  rw [if_neg]
  rintro ⟨hk, ht | ht⟩
  · rw [isS_sym ⟨hk, ht⟩] at h1
    cases h1
  · rw [isS_sym ⟨hk, ht⟩] at h2
    cases h2
theorem term_step {e : TE} {k k1 m : Nat} {R : PR TE} (h1 : Ev fun F => firstP nm ts F k m = .ok e k1) (h2 : Ev fun F => chT nm ts F e k1 m = R) : Ev fun F => termP nm ts F k m = R := by
  refine ev_s2 (fun F h3 h4 => ?_) h1 h2
  unfold termP
  rw [h3]
  exact h4
theorem sum_step {e : TE} {k k1 m : Nat} {R : PR TE} (h1 : Ev fun F => termP nm ts F k m = .ok e k1) (h2 : Ev fun F => chS nm ts F e k1 m = R) : Ev fun F => sumP nm ts F k m = R := by
  refine ev_s2 (fun F h3 h4 => ?_) h1 h2
  unfold sumP
  rw [h3]
  exact h4
/-- How each rule reads the trees of so many levels that may stand there. -/
structure Rds (nm : List UInt8 → Bool) (ts : List Tok) (f : Nat) : Prop where
  E : ∀ T k m, good nm f T → m + 3 * f ≤ 98 → Mt ts k (parT true (tkn f T)) → Ev fun F => encP nm ts F k m = .ok T (k + (tkn f T).length + 2)
  A : ∀ T k m, good nm f T → m + 3 * f ≤ 99 → needW T.h = false → Mt ts k (tkn f T) → Ev fun F => atomP nm ts F k m = .ok T (k + (tkn f T).length)
  Fa : ∀ T k m, good nm f T → m + 3 * f ≤ 99 → sumK T.h.kind = false → prodK T.h.kind = false → brok T.h = false → Mt ts k (tkn f T) → isS false ts (k + (tkn f T).length) [94] = false →
    Ev fun F => factorP nm ts F k m = .ok T (k + (tkn f T).length)
  Te : ∀ T k m R, good nm f T → m + 3 * f ≤ 99 → sumK T.h.kind = false → Mt ts k (tkn f T) → isS false ts (k + (tkn f T).length) [94] = false → (whl T.h = true → Nq ts (k + (tkn f T).length)) →
    (Ev fun F => chT nm ts F T (k + (tkn f T).length) m = R) → Ev fun F => termP nm ts F k m = R
  Su : ∀ T k m R, good nm f T → m + 3 * f ≤ 99 → Mt ts k (tkn f T) → isS false ts (k + (tkn f T).length) [94] = false → isS false ts (k + (tkn f T).length) [42] = false → isS false ts (k + (tkn f T).length) [47] = false →
    (Ev fun F => chS nm ts F T (k + (tkn f T).length) m = R) → Ev fun F => sumP nm ts F k m = R
/-- Parentheses as a factor, as the beginning of a term. -/
theorem Rds.pf {f : Nat} (r : Rds nm ts f) {T : TE} {k m : Nat} (hg : good nm f T) (hm : m + 3 * f ≤ 98) (h : Mt ts k (parT true (tkn f T))) (hx : isS false ts (k + (tkn f T).length + 2) [94] = false) :
    Ev fun F => factorP nm ts F k m = .ok T (k + (tkn f T).length + 2) := by
  have h1 := par_first h
  exact fac_atom (by rw [isS_sym h1]; decide) (fun h2 => by omega) hx (atom_par h1.1 (r.E T k m hg hm h))
theorem Rds.pt {f : Nat} (r : Rds nm ts f) {T : TE} {k m : Nat} {R : PR TE} (hg : good nm f T) (hm : m + 3 * f ≤ 98) (h : Mt ts k (parT true (tkn f T))) (hx : isS false ts (k + (tkn f T).length + 2) [94] = false)
    (hr : Ev fun F => chT nm ts F T (k + (tkn f T).length + 2) m = R) : Ev fun F => termP nm ts F k m = R := by
  have h1 := par_first h
  refine term_step (fst_fac ?_ (r.pf hg hm h hx)) hr
  unfold fracP
  rw [sign0 (by rw [isS_sym h1]; decide), Nat.add_zero, int_kind (by omega)]
  rfl
theorem neg_tok {f : Nat} {T : TE} {k : Nat} (hg : good nm f T) (h : Mt ts k (parT (needM T.h) (tkn f T))) (hk : (tk ts k).kind = 2) : isS false ts (k + 1) [94] = true := by
  by_cases hn : needM T.h = true
  · rw [hn] at h
    have := (par_first h).1
    omega
  · have hn' : needM T.h = false := by simpa using hn
    rw [hn'] at h
    unfold needM at hn'
    simp only [Bool.or_eq_false_iff] at hn'
    rcases first_tok hg h hn'.1.1.1 hn'.1.1.2 hn'.1.2 with ⟨_, h1, h2, h3⟩ | ⟨_, h1, _⟩ | ⟨h1, _⟩ | ⟨h1, _⟩
    · have h4 := hn'.2
      unfold whl at h4
      rw [h1, h3, decide_eq_true h2] at h4
      cases h4
    · exact h1
    · omega
    · omega
theorem rds_A {f : Nat} (hnf : ∀ c : Int, nm (fnK c) = false) (r : Rds nm ts f) : ∀ T k m, good nm (f + 1) T → m + 3 * (f + 1) ≤ 99 → needW T.h = false → Mt ts k (tkn (f + 1) T) → Ev fun F => atomP nm ts F k m = .ok T (k + (tkn (f + 1) T).length) := by
  intro T k m hg hm hw h
  rcases atom_shape hg.1 hw with ⟨h1, h2, h3⟩ | h1 | ⟨h1, h2⟩
  · have hv : valid T.h.n T.h.d := by
      rcases node_kinds hg.1 with ⟨hk, hl, hv⟩ | h9 | h9 | h9 | h9 | h9
      · exact hv
      all_goals omega
    rw [tkn_num h1] at h ⊢
    obtain ⟨n1, n2, n3, n4⟩ := num_first h
    have hs0 : signP ts k = 0 := by rw [n1, if_neg (by omega)]
    rw [hs0, Nat.add_zero] at n3
    refine ev_cast (atom_num n3.1 (num_head h ⟨hv.2.2.1, hv.2.2.2.1⟩)) (ok_eq ?_ ?_)
    · exact ((numE_eq hg.1 h1).trans (by rw [h3])).symm
    · rw [num_len, hs0, h3, if_neg (by omega), if_pos rfl]
  · rw [tkn_var h1] at h ⊢
    obtain ⟨e1, e2⟩ := varE_eq hg.1 h1
    exact ev_cast (atom_var h.1 e2) (ok_eq e1.symm rfl)
  · rw [tkn_fun h1] at h ⊢
    have hl : T.l.length = 1 := by rcases node_kinds hg.1 with h9 | h9 | h9 | h9 | h9 | h9 <;> omega
    obtain ⟨x, hx⟩ := list1 hl
    have ha : T.a = x := by unfold TE.a; rw [hx]; rfl
    have hfk : funK (fnK T.h.kind) = T.h.kind := by
      have : T.h.kind = 9 ∨ T.h.kind = 10 ∨ T.h.kind = 11 ∨ T.h.kind = 12 ∨ T.h.kind = 13 := by omega
      rcases this with e | e | e | e | e <;> rw [e] <;> decide
    have hE := r.E T.a (k + 1) m (good_a hg (by omega)) (by omega) (by
      unfold parT
      rw [if_pos rfl]
      exact h.2)
    refine ev_cast (atom_fun h.1 (hnf _) (by rw [hfk]; omega) hE) (ok_eq ?_ ?_)
    · rw [hfk]
      refine ((op_fields hg.1 (by omega) (by omega) (by omega)).trans ?_).symm
      rw [hx, ha]
    · simp only [List.length_cons, List.length_append, List.length_nil]
      omega
theorem rds_Fa {f : Nat} (hnf : ∀ c : Int, nm (fnK c) = false) (r : Rds nm ts f) : ∀ T k m, good nm (f + 1) T → m + 3 * (f + 1) ≤ 99 → sumK T.h.kind = false → prodK T.h.kind = false → brok T.h = false → Mt ts k (tkn (f + 1) T) → isS false ts (k + (tkn (f + 1) T).length) [94] = false →
    Ev fun F => factorP nm ts F k m = .ok T (k + (tkn (f + 1) T).length) := by
  intro T k m hg hm h1 h2 h3 h hx
  have hft := first_tok hg h h1 h2 h3
  have hA := rds_A hnf r T k m hg hm
  rcases node_kinds hg.1 with ⟨hk, hl, hv⟩ | ⟨hk, hl, hv⟩ | ⟨hk, hk2, hl⟩ | ⟨hk, hl⟩ | ⟨hk, hl, hv, hv2⟩ | ⟨hk, hk2, hl⟩
  · have hd : T.h.d = 1 := by
      unfold brok at h3
      rw [hk] at h3
      simpa using h3
    rw [tkn_num hk] at h hx ⊢
    obtain ⟨n1, n2, n3, n4⟩ := num_first h
    have hlen : k + (numT T.h.n T.h.d).length = k + signP ts k + 1 := by rw [num_len, n1, hd, if_pos rfl]; omega
    rw [hlen] at hx ⊢
    exact ev_cast (fac_num n3.1 hx (num_head h ⟨hv.2.2.1, hv.2.2.2.1⟩)) (ok_eq ((numE_eq hg.1 hk).trans (by rw [hd])).symm rfl)
  · refine fac_atom ?_ ?_ hx (hA ?_ h)
    · rcases hft with ⟨_, e, _⟩ | ⟨_, _, e⟩ | ⟨_, e⟩ | ⟨_, _, e⟩
      · omega
      · omega
      · exact e
      · omega
    · intro e2
      rcases hft with ⟨_, e, _⟩ | ⟨_, _, e⟩ | ⟨e, _⟩ | ⟨_, _, e⟩ <;> omega
    · unfold needW sumK prodK brok whl
      rw [hk]
      rfl
  · exfalso
    unfold sumK at h1
    unfold prodK at h2
    simp only [Bool.or_eq_false_iff, beq_eq_false_iff_ne, ne_eq] at h1 h2
    omega
  · rw [tkn_neg hk] at h hx ⊢
    obtain ⟨x, hx1⟩ := list1 hl
    have ha : T.a = x := by unfold TE.a; rw [hx1]; rfl
    have hs : isS false ts k [45] = true := by rw [isS_sym h.1]; decide
    have ga := good_a hg (by omega)
    have hT : opE 7 [T.a] = T := by
      refine ((op_fields hg.1 (by omega) (by omega) (by omega)).trans ?_).symm
      rw [hx1, ha, hk]
    have hnt := neg_tok ga h.2
    by_cases hn : needM T.a.h = true
    · have h4 := h.2
      rw [hn] at h4 hx ⊢
      rw [List.length_cons, parT_len] at hx ⊢
      have hf := r.pf (m := m + 1) ga (by omega) h4 (by rw [← hx]; congr 1; omega)
      exact ev_cast (fac_neg hs hnt (by omega) hf) (ok_eq hT (by omega))
    · have hn' : needM T.a.h = false := by simpa using hn
      have h4 := h.2
      rw [hn'] at h4 hx ⊢
      have hpf : parT false (tkn f T.a) = tkn f T.a := rfl
      rw [hpf] at h4 hx ⊢
      rw [List.length_cons] at hx ⊢
      unfold needM at hn'
      simp only [Bool.or_eq_false_iff] at hn'
      have hf := r.Fa T.a (k + 1) (m + 1) ga (by omega) hn'.1.1.1 hn'.1.1.2 hn'.1.2 h4 (by rw [← hx]; congr 1; omega)
      exact ev_cast (fac_neg hs hnt (by omega) hf) (ok_eq hT (by omega))
  · have ga := good_a hg (by omega)
    obtain ⟨hT, hk0, hk16⟩ := powE_eq hg.1 hk
    rw [tkn_pow hk] at h hx ⊢
    have hm2 := mt_app.1 h
    obtain ⟨la, hla⟩ : ∃ la, la = (parT (needW T.a.h) (tkn f T.a)).length := ⟨_, rfl⟩
    rw [← hla] at hm2
    have hx1 : isS false ts (k + la) [94] = true := by rw [isS_sym hm2.2.1]; decide
    have hi : itoa T.h.k = decDigits T.h.k.toNat := by rw [← itoa_nonneg, Int.toNat_of_nonneg hk0]
    have ht : (tk ts (k + la + 1)).kind = 2 ∧ (tk ts (k + la + 1)).text = decDigits T.h.k.toNat := by rw [← hi]; exact hm2.2.2.1
    have hpv : powV (tk ts (k + la + 1)).text = T.h.k.toNat := by rw [ht.2, powV_dec]; omega
    have hat : Ev fun F => atomP nm ts F k m = .ok T.a (k + la) := by
      by_cases hn : needW T.a.h = true
      · rw [hn] at hm2 hla
        rw [parT_len] at hla
        exact ev_cast (atom_par (par_first hm2.1).1 (r.E T.a k m ga (by omega) hm2.1)) (ok_eq rfl (by omega))
      · have hn' : needW T.a.h = false := by simpa using hn
        rw [hn'] at hm2 hla
        rw [show parT false (tkn f T.a) = tkn f T.a from rfl] at hm2 hla
        rw [hla]
        exact r.A T.a k m ga (by omega) hn' hm2.1
    refine ev_cast (fac_pow ?_ ?_ hx1 (int_dec ht) hpv (by omega) hat) (ok_eq hT.symm ?_)
    · rcases hft with ⟨_, e, _⟩ | ⟨e, _, _⟩ | ⟨_, e⟩ | ⟨_, _, e⟩
      · omega
      · exact isS_no3 (by omega)
      · exact e
      · omega
    · intro e2
      rcases hft with ⟨_, e, _⟩ | ⟨_, e, _⟩ | ⟨e, _⟩ | ⟨_, _, e⟩
      · omega
      · exact e
      · omega
      · omega
    · rw [List.length_append, ← hla]
      rfl
  · refine fac_atom ?_ ?_ hx (hA ?_ h)
    · rcases hft with ⟨_, e, _⟩ | ⟨_, _, e⟩ | ⟨_, e⟩ | ⟨_, _, e⟩
      · omega
      · omega
      · exact e
      · omega
    · intro e2
      rcases hft with ⟨_, e, _⟩ | ⟨_, _, e⟩ | ⟨e, _⟩ | ⟨_, _, e⟩ <;> omega
    · unfold needW sumK prodK brok whl
      simp only [Bool.or_eq_false_iff, beq_eq_false_iff_ne, Bool.and_eq_false_iff, ne_eq]
      refine ⟨⟨⟨⟨⟨?_, ?_⟩, ?_⟩, ?_⟩, .inl ?_⟩, .inl (.inl ?_)⟩ <;> omega
theorem rds_Fi {f : Nat} (hnf : ∀ c : Int, nm (fnK c) = false) (r : Rds nm ts f) : ∀ T k m, good nm (f + 1) T → m + 3 * (f + 1) ≤ 99 → sumK T.h.kind = false → prodK T.h.kind = false → Mt ts k (tkn (f + 1) T) → isS false ts (k + (tkn (f + 1) T).length) [94] = false →
    (whl T.h = true → Nq ts (k + (tkn (f + 1) T).length)) → Ev fun F => firstP nm ts F k m = .ok T (k + (tkn (f + 1) T).length) := by
  intro T k m hg hm h1 h2 h hx hq
  by_cases hb : brok T.h = true
  · have hk : T.h.kind = 1 ∧ T.h.d ≠ 1 := by
      unfold brok at hb
      simpa using hb
    have hv : valid T.h.n T.h.d := by
      rcases node_kinds hg.1 with ⟨hk, hl, hv⟩ | h9 | h9 | h9 | h9 | h9
      · exact hv
      all_goals omega
    rw [tkn_num hk.1] at h hx ⊢
    obtain ⟨q1, q2⟩ := quot_read h hv hk.2
    obtain ⟨n1, n2, n3, n4⟩ := num_first h
    have hlen : k + (numT T.h.n T.h.d).length = k + signP ts k + 3 := by rw [num_len, n1, if_neg hk.2]; omega
    exact ev_cast (fst_quot q1 (by rw [← hlen]; exact hx) q2) (ok_eq (numE_eq hg.1 hk.1).symm rfl)
  · have hb' : brok T.h = false := by simpa using hb
    have hF := rds_Fa hnf r T k m hg hm h1 h2 hb' h hx
    by_cases hk : T.h.kind = 1
    · have hd : T.h.d = 1 := by
        unfold brok at hb'
        rw [hk] at hb'
        simpa using hb'
      have hw : whl T.h = true := by
        unfold whl
        rw [hk, hd]
        rfl
      have hq2 := hq hw
      rw [tkn_num hk] at h hq2
      obtain ⟨n1, n2, n3, n4⟩ := num_first h
      have hlen : k + (numT T.h.n T.h.d).length = k + signP ts k + 1 := by rw [num_len, n1, hd, if_pos rfl]; omega
      rw [hlen] at hq2
      by_cases hx3 : isS false ts (k + signP ts k + 3) [94] = true
      · exact fst_fac2 hx3 hF
      · refine fst_fac ?_ hF
        unfold fracP
        unfold Nq at hq2
        have hx3' : isS false ts (k + signP ts k + 3) [94] = false := by simpa using hx3
        by_cases h5 : isS false ts (k + signP ts k + 1) [47] = true
        · by_cases h6 : integerP ts (k + signP ts k + 2) = true
          · exact absurd ⟨h5, h6, hx3'⟩ hq2
          · rw [show integerP ts (k + signP ts k + 2) = false by simpa using h6]
            simp
        · rw [show isS false ts (k + signP ts k + 1) [47] = false by simpa using h5]
          simp
    · refine fst_fac ?_ hF
      unfold fracP
      rcases first_tok hg h h1 h2 hb' with ⟨_, e, _⟩ | ⟨e, e2, _⟩ | ⟨e, e2⟩ | ⟨e, e2, e3⟩
      · omega
      · rw [sign0 (isS_no3 (by omega)), Nat.add_zero]
        rw [show isS false ts (k + 1) [47] = false by
          obtain ⟨t1, t2⟩ := isS_kind e2
          unfold isS
          rw [t1]
          rfl]
        simp
      · rw [sign0 e2, Nat.add_zero, int_kind e]
        rfl
      · have hk7 : T.h.kind = 7 := by omega
        rw [sign1 (by rw [isS_sym ⟨e, e2⟩]; decide)]
        rw [tkn_neg hk7] at h
        have hnt := neg_tok (good_a hg (by rcases node_kinds hg.1 with h9 | h9 | h9 | h9 | h9 | h9 <;> omega)) h.2
        by_cases h9 : (tk ts (k + 1)).kind = 2
        · have := hnt h9
          rw [show isS false ts (k + 1 + 1) [47] = false by
            obtain ⟨t1, t2⟩ := isS_kind this
            unfold isS
            rw [t1]
            rfl]
          simp
        · rw [int_kind h9]
          rfl
theorem rds_Te {f : Nat} (hnf : ∀ c : Int, nm (fnK c) = false) (r : Rds nm ts f) : ∀ T k m R, good nm (f + 1) T → m + 3 * (f + 1) ≤ 99 → sumK T.h.kind = false → Mt ts k (tkn (f + 1) T) → isS false ts (k + (tkn (f + 1) T).length) [94] = false →
    (whl T.h = true → Nq ts (k + (tkn (f + 1) T).length)) → (Ev fun F => chT nm ts F T (k + (tkn (f + 1) T).length) m = R) → Ev fun F => termP nm ts F k m = R := by
  intro T k m R hg hm h1 h hx hq hr
  by_cases hp : prodK T.h.kind = false
  · exact term_step (rds_Fi hnf r T k m hg hm h1 hp h hx hq) hr
  · have hk : T.h.kind = 5 ∨ T.h.kind = 6 := by
      unfold prodK at hp
      simp only [Bool.or_eq_false_iff, beq_eq_false_iff_ne, ne_eq] at hp
      omega
    have hl : T.l.length = 2 := by rcases node_kinds hg.1 with h9 | h9 | h9 | h9 | h9 | h9 <;> omega
    obtain ⟨x, y, hxy⟩ := list2 hl
    have ha : T.a = x := by unfold TE.a; rw [hxy]; rfl
    have hb : T.b = y := by unfold TE.b; rw [hxy]; rfl
    have ga := good_a hg (by omega)
    have gb := good_b hg hl
    have hT : opE T.h.kind [T.a, T.b] = T := by
      refine ((op_fields hg.1 (by omega) (by omega) (by omega)).trans ?_).symm
      rw [hxy, ha, hb]
    rw [tkn_op (by omega)] at h hx hq hr
    obtain ⟨la, hla⟩ : ∃ la, la = (parT (need1 T.h.kind T.a.h T.b.h) (tkn f T.a)).length := ⟨_, rfl⟩
    obtain ⟨lb, hlb⟩ : ∃ lb, lb = (parT (need2 T.h.kind T.b.h) (tkn f T.b)).length := ⟨_, rfl⟩
    rw [List.length_append, List.length_cons, ← hla, ← hlb] at hx hq hr
    have hm2 := mt_app.1 h
    rw [← hla] at hm2
    obtain ⟨hma, hop, hmb⟩ := hm2
    simp only at hop
    have hend : k + (la + (lb + 1)) = k + la + 1 + lb := by omega
    rw [hend] at hx hr
    -- the second operand
    have hfb : Ev fun F => factorP nm ts F (k + la + 1) m = .ok T.b (k + la + 1 + lb) := by
      by_cases hn : need2 T.h.kind T.b.h = true
      · rw [hn] at hmb hlb
        rw [parT_len] at hlb
        exact ev_cast (r.pf gb (by omega) hmb (by have h9 := hx; rw [hlb] at h9; exact h9)) (ok_eq rfl (by omega))
      · have hn' : need2 T.h.kind T.b.h = false := by simpa using hn
        rw [hn'] at hmb hlb
        rw [show parT false (tkn f T.b) = tkn f T.b from rfl] at hmb hlb
        unfold need2 at hn'
        rw [if_neg (by rcases hk with e | e <;> rw [e] <;> decide)] at hn'
        simp only [Bool.or_eq_false_iff] at hn'
        rw [hlb] at hx ⊢
        exact r.Fa T.b (k + la + 1) m gb (by omega) hn'.1.1 hn'.1.2 hn'.2 hmb hx
    have hch := chT_step (e := T.a) hop hk hfb (by rw [hT]; exact hr)
    have hx94 : isS false ts (k + la) [94] = false := by rw [isS_sym hop]; rcases hk with e | e <;> rw [e] <;> decide
    by_cases hn : need1 T.h.kind T.a.h T.b.h = true
    · rw [hn] at hma hla
      rw [parT_len] at hla
      refine r.pt ga (by omega) hma ?_ ?_
      · have h9 := hx94; rw [hla] at h9; exact h9
      · rw [show k + (tkn f T.a).length + 2 = k + la by omega]
        exact hch
    · have hn' : need1 T.h.kind T.a.h T.b.h = false := by simpa using hn
      rw [hn'] at hma hla
      rw [show parT false (tkn f T.a) = tkn f T.a from rfl] at hma hla
      unfold need1 at hn'
      rw [if_neg (by rcases hk with e | e <;> rw [e] <;> decide)] at hn'
      simp only [Bool.or_eq_false_iff] at hn'
      refine r.Te T.a k m R ga (by omega) hn'.1 hma (by rw [← hla]; exact hx94) ?_ (by rw [← hla]; exact hch)
      intro hwa
      rw [← hla]
      rintro ⟨q1, q2, q3⟩
      have hk6 : T.h.kind = 6 := by
        rcases hk with e | e
        · rw [isS_sym hop, e] at q1
          exact absurd q1 (by decide)
        · exact e
      by_cases hn2 : need2 T.h.kind T.b.h = true
      · rw [hn2] at hmb
        have := (par_first hmb).1
        rw [int_kind (by omega)] at q2
        cases q2
      · have hn2' : need2 T.h.kind T.b.h = false := by simpa using hn2
        rw [hn2'] at hmb
        rw [show parT false (tkn f T.b) = tkn f T.b from rfl] at hmb
        unfold need2 at hn2'
        rw [if_neg (by rw [hk6]; decide)] at hn2'
        simp only [Bool.or_eq_false_iff] at hn2'
        rcases first_tok gb hmb hn2'.1.1 hn2'.1.2 hn2'.2 with ⟨_, e1, e2, e3⟩ | ⟨_, e, _⟩ | ⟨e, _⟩ | ⟨e, _⟩
        · have h4 := hn'.2
          have hwb : whl T.b.h = true := by unfold whl; rw [e1, e3]; rfl
          rw [hk6, hwa, hwb, decide_eq_true e2] at h4
          cases h4
        · rw [show k + la + 2 = k + la + 1 + 1 from rfl, e] at q3
          cases q3
        · rw [int_kind e] at q2
          cases q2
        · rw [int_kind (by omega)] at q2
          cases q2
theorem rds_Su {f : Nat} (hnf : ∀ c : Int, nm (fnK c) = false) (r : Rds nm ts f) : ∀ T k m R, good nm (f + 1) T → m + 3 * (f + 1) ≤ 99 → Mt ts k (tkn (f + 1) T) → isS false ts (k + (tkn (f + 1) T).length) [94] = false → isS false ts (k + (tkn (f + 1) T).length) [42] = false → isS false ts (k + (tkn (f + 1) T).length) [47] = false →
    (Ev fun F => chS nm ts F T (k + (tkn (f + 1) T).length) m = R) → Ev fun F => sumP nm ts F k m = R := by
  intro T k m R hg hm h hx h42 h47 hr
  by_cases hs : sumK T.h.kind = false
  · refine sum_step (rds_Te hnf r T k m _ hg hm hs h hx (fun _ hq => ?_) (chT_end h42 h47)) hr
    rw [h47] at hq
    cases hq.1
  · have hk : T.h.kind = 3 ∨ T.h.kind = 4 := by
      unfold sumK at hs
      simp only [Bool.or_eq_false_iff, beq_eq_false_iff_ne, ne_eq] at hs
      omega
    have hl : T.l.length = 2 := by rcases node_kinds hg.1 with h9 | h9 | h9 | h9 | h9 | h9 <;> omega
    obtain ⟨x, y, hxy⟩ := list2 hl
    have ha : T.a = x := by unfold TE.a; rw [hxy]; rfl
    have hb : T.b = y := by unfold TE.b; rw [hxy]; rfl
    have ga := good_a hg (by omega)
    have gb := good_b hg hl
    have hT : opE T.h.kind [T.a, T.b] = T := by
      refine ((op_fields hg.1 (by omega) (by omega) (by omega)).trans ?_).symm
      rw [hxy, ha, hb]
    have hn1 : need1 T.h.kind T.a.h T.b.h = false := by unfold need1; rcases hk with e | e <;> rw [e] <;> rfl
    rw [tkn_op (by omega), hn1, show parT false (tkn f T.a) = tkn f T.a from rfl] at h hx h42 h47 hr
    obtain ⟨la, hla⟩ : ∃ la, la = (tkn f T.a).length := ⟨_, rfl⟩
    obtain ⟨lb, hlb⟩ : ∃ lb, lb = (parT (need2 T.h.kind T.b.h) (tkn f T.b)).length := ⟨_, rfl⟩
    rw [List.length_append, List.length_cons, ← hla, ← hlb] at hx h42 h47 hr
    have hm2 := mt_app.1 h
    rw [← hla] at hm2
    obtain ⟨hma, hop, hmb⟩ := hm2
    simp only at hop
    have hend : k + (la + (lb + 1)) = k + la + 1 + lb := by omega
    rw [hend] at hx h42 h47 hr
    have htb : Ev fun F => termP nm ts F (k + la + 1) m = .ok T.b (k + la + 1 + lb) := by
      by_cases hn : need2 T.h.kind T.b.h = true
      · rw [hn] at hmb hlb
        rw [parT_len] at hlb
        have e9 : k + la + 1 + lb = k + la + 1 + (tkn f T.b).length + 2 := by omega
        rw [e9] at hx h42 h47 ⊢
        exact r.pt gb (by omega) hmb hx (chT_end h42 h47)
      · have hn' : need2 T.h.kind T.b.h = false := by simpa using hn
        rw [hn'] at hmb hlb
        rw [show parT false (tkn f T.b) = tkn f T.b from rfl] at hmb hlb
        unfold need2 at hn'
        rw [if_pos (by rcases hk with e | e <;> rw [e] <;> decide)] at hn'
        rw [hlb] at hx h42 h47 ⊢
        refine r.Te T.b (k + la + 1) m _ gb (by omega) hn' hmb hx (fun _ hq => ?_) (chT_end h42 h47)
        rw [h47] at hq
        cases hq.1
    have hch := chS_step (e := T.a) hop hk htb (by rw [hT]; exact hr)
    refine r.Su T.a k m R ga (by omega) hma ?_ ?_ ?_ (by rw [← hla]; exact hch) <;> rw [← hla, isS_sym hop] <;> rcases hk with e | e <;> rw [e] <;> decide
theorem rds_all (hnf : ∀ c : Int, nm (fnK c) = false) : ∀ f, Rds nm ts f
  | 0 => ⟨fun _ _ _ h => h.elim, fun _ _ _ h => h.elim, fun _ _ _ h => h.elim, fun _ _ _ _ h => h.elim, fun _ _ _ _ h => h.elim⟩
  | f + 1 => by
    have r := rds_all hnf f
    refine ⟨?_, rds_A hnf r, rds_Fa hnf r, rds_Te hnf r, rds_Su hnf r⟩
    intro T k m hg hm h
    unfold parT at h
    rw [if_pos rfl] at h
    obtain ⟨h1, h2⟩ := h
    obtain ⟨h3, h4, _⟩ := mt_app.1 h2
    simp only at h1 h4
    refine ev_cast (enc_ok (by rw [isS_sym h1]; decide) (by omega) (by rw [isS_sym h4]; decide) (rds_Su hnf r T (k + 1) (m + 1) _ hg (by omega) h3 ?_ ?_ ?_ (chS_end ?_ ?_))) (ok_eq rfl (by omega)) <;> rw [isS_sym h4] <;> decide
/-- A printed tree, and nothing behind it, is read as the tree. -/
theorem sum_read (hnf : ∀ c : Int, nm (fnK c) = false) {f : Nat} {T : TE} (hg : good nm f T) (hf : f ≤ 33) (h : Mt ts 0 (tkn f T)) (hl : ts.length = (tkn f T).length) :
    Ev fun F => sumP nm ts F 0 0 = .ok T ts.length := by
  have he : (tk ts ts.length).kind = 0 := by
    unfold tk
    rw [List.getD_eq_getElem?_getD, List.getElem?_eq_none (Nat.le_refl _)]
    rfl
  have hz : ∀ s, isS false ts (0 + (tkn f T).length) s = false := fun s => isS_no3 (by rw [Nat.zero_add, ← hl, he]; decide)
  refine ev_cast ((rds_all hnf f).Su T 0 0 _ hg (by omega) h (hz _) (hz _) (hz _) (chS_end (hz _) (hz _))) (ok_eq rfl (by omega))
end
end Go.Fl.Pa
namespace Go.Fl.Pa
open Go.Lib Go.Fl.Lx Go.Fl.Fm Go.Fl.Rt
def kt (t : Tok) : Nat × List UInt8 := (t.kind, t.text)
def NoRun (r : List UInt8) : Prop := ∀ c, r.head? = some c → inRun c = false
/-- A text's tokens, whatever follows; and where no letter, digit, point follows. -/
def LexS (l : List UInt8) (ks : List (Nat × List UInt8)) : Prop := ∀ r p, ∃ us p', Lx.split (l ++ r) p = pre us (Lx.split r p') ∧ us.map kt = ks
def LexK (l : List UInt8) (ks : List (Nat × List UInt8)) : Prop := ∀ r p, NoRun r → ∃ us p', Lx.split (l ++ r) p = pre us (Lx.split r p') ∧ us.map kt = ks
theorem LexS.k {l : List UInt8} {ks : List (Nat × List UInt8)} (h : LexS l ks) : LexK l ks := fun r p _ => h r p
theorem LexS.s {a b : List UInt8} {ka kb : List (Nat × List UInt8)} (h1 : LexS a ka) (h2 : LexS b kb) : LexS (a ++ b) (ka ++ kb) := fun r p => by
  obtain ⟨us, p1, e1, m1⟩ := h1 (b ++ r) p
  obtain ⟨vs, p2, e2, m2⟩ := h2 r p1
  exact ⟨us ++ vs, p2, by rw [List.append_assoc, e1, e2, pre_pre], by rw [List.map_append, m1, m2]⟩
theorem LexS.sk {a b : List UInt8} {ka kb : List (Nat × List UInt8)} (h1 : LexS a ka) (h2 : LexK b kb) : LexK (a ++ b) (ka ++ kb) := fun r p hr => by
  obtain ⟨us, p1, e1, m1⟩ := h1 (b ++ r) p
  obtain ⟨vs, p2, e2, m2⟩ := h2 r p1 hr
  exact ⟨us ++ vs, p2, by rw [List.append_assoc, e1, e2, pre_pre], by rw [List.map_append, m1, m2]⟩
theorem norun_app {b r : List UInt8} (hb : NoRun b) (hr : NoRun r) : NoRun (b ++ r) := by
  cases b with
  | nil => exact hr
  | cons c b => exact hb
theorem LexK.k {a b : List UInt8} {ka kb : List (Nat × List UInt8)} (h1 : LexK a ka) (hb : NoRun b) (h2 : LexK b kb) : LexK (a ++ b) (ka ++ kb) := fun r p hr => by
  obtain ⟨us, p1, e1, m1⟩ := h1 (b ++ r) p (norun_app hb hr)
  obtain ⟨vs, p2, e2, m2⟩ := h2 r p1 hr
  exact ⟨us ++ vs, p2, by rw [List.append_assoc, e1, e2, pre_pre], by rw [List.map_append, m1, m2]⟩
theorem LexK.s {a b : List UInt8} {ka kb : List (Nat × List UInt8)} (h1 : LexK a ka) (hb : NoRun b) (hne : b ≠ []) (h2 : LexS b kb) : LexS (a ++ b) (ka ++ kb) := fun r p => by
  obtain ⟨us, p1, e1, m1⟩ := h1 (b ++ r) p (by
    cases b with
    | nil => exact absurd rfl hne
    | cons c b => exact hb)
  obtain ⟨vs, p2, e2, m2⟩ := h2 r p1
  exact ⟨us ++ vs, p2, by rw [List.append_assoc, e1, e2, pre_pre], by rw [List.map_append, m1, m2]⟩
theorem ls_blank {c : UInt8} (h : isBlank c = true) : LexS [c] [] := fun r p => ⟨[], step1 p c, by rw [List.singleton_append, split_blank c r p h, pre_nil], rfl⟩
theorem ls_sym {c : UInt8} (h : isSym c = true) : LexS [c] [(3, [c])] := fun r p => ⟨[⟨3, [c], p.1, p.2⟩], step1 p c, by rw [List.singleton_append, split_sym c r p h], rfl⟩
theorem lk_run {t : List UInt8} {k : Nat} (hne : t ≠ []) (hall : ∀ c ∈ t, inRun c = true) (hk : kindOf t = (k, 0)) : LexK t [(k, t)] := fun r p hr => by
  obtain ⟨e1, e2⟩ := takeWhile_run t r hall hr
  cases t with
  | nil => exact absurd rfl hne
  | cons c t =>
    have hc := hall c (List.mem_cons_self ..)
    have hkk : (c :: (t ++ r).takeWhile inRun) = c :: t := by
      rw [List.cons_append, List.takeWhile_cons, if_pos hc] at e1
      exact e1
    have hdd : (t ++ r).dropWhile inRun = r := by
      rw [List.cons_append, List.dropWhile_cons, if_pos hc] at e2
      exact e2
    refine ⟨[⟨k, c :: t, p.1, p.2⟩], adv (c :: t) p, ?_, rfl⟩
    rw [List.cons_append, split_run c (t ++ r) p hc (by rw [hkk, hk]), hkk, hk, hdd]
theorem norun_nil : NoRun [] := fun c h => by cases h
theorem norun_cons {c : UInt8} {l : List UInt8} (h : inRun c = false) : NoRun (c :: l) := fun d hd => by injection hd with hd; rw [← hd]; exact h
theorem mt_of_map {us : List Tok} : ∀ (pr : List Tok), Mt (pr ++ us) pr.length (us.map kt) := by
  induction us with
  | nil => intro pr; exact trivial
  | cons u us ih =>
    intro pr
    have ht : tk (pr ++ u :: us) pr.length = u := by
      unfold tk
      rw [List.getD_eq_getElem?_getD, List.getElem?_append_right (Nat.le_refl _), Nat.sub_self]
      rfl
    refine ⟨by rw [ht]; exact ⟨rfl, rfl⟩, ?_⟩
    have := ih (pr ++ [u])
    rw [List.length_append, List.append_assoc] at this
    exact this
/-- The tokens of a whole text. -/
theorem LexK.res {l : List UInt8} {ks : List (Nat × List UInt8)} (h : LexK l ks) (hl : l.length ≤ 65536) : ∃ ts, lexRes l = .ok ts ∧ Mt ts 0 ks ∧ ts.length = ks.length := by
  obtain ⟨us, p', e, m⟩ := h [] (1, 1) norun_nil
  rw [List.append_nil, split_nil] at e
  refine ⟨us, ?_, ?_, by rw [← m, List.length_map]⟩
  · unfold lexRes
    rw [if_neg (by omega), e]
    simp [pre]
  · rw [← m]
    have := mt_of_map (us := us) []
    simpa using this
/-- A number in decimal. -/
theorem lk_dec {v : Nat} (h : v ≤ MX) : LexK (decDigits v) [(2, decDigits v)] := by
  have hall := dec_digits v
  have hd : (decDigits v).all isDigit = true := by
    rw [List.all_eq_true] at hall ⊢
    intro c hc
    have := hall c hc
    unfold isDig at this
    unfold isDigit
    simp only [Bool.and_eq_true, decide_eq_true_eq] at this ⊢
    exact ⟨UInt8.le_iff_toNat_le.2 this.1, UInt8.le_iff_toNat_le.2 this.2⟩
  have hn : numN (decDigits v) = (decDigits v).length := by
    have h46 : ∀ c ∈ decDigits v, (c != 46) = true := fun c hc => by
      rw [bne_iff_ne]
      intro e
      rw [e] at hc
      exact dec_no v (c := 46) (by decide) hc
    unfold numN
    rw [(tw_all h46).2]
    have : digitsP (decDigits v) = true := by
      unfold digitsP
      rw [hd]
      cases hdd : decDigits v with
      | nil => exact absurd hdd (dec_ne v)
      | cons c r => rfl
    rw [if_pos this]
  have hw : wordP (decDigits v) = false := by
    unfold wordP headLetter
    cases hdd : decDigits v with
    | nil => rfl
    | cons c r =>
      rw [hdd] at hd
      rw [List.all_cons, Bool.and_eq_true] at hd
      have : isLetter c = false := by
        have := u8_all (p := fun c => !isDigit c || !isLetter c) (by decide +kernel) c
        simp only [Bool.or_eq_true, Bool.not_eq_true'] at this
        rcases this with e | e
        · rw [hd.1] at e; cases e
        · exact e
      simp only [this, Bool.false_and]
  have hlen := dec_len9 h
  have hpos : 0 < (decDigits v).length := List.length_pos_iff.2 (dec_ne v)
  refine lk_run (dec_ne v) (fun c hc => ?_) ?_
  · have := List.all_eq_true.1 hd c hc
    unfold inRun
    rw [this]
    simp
  · unfold kindOf
    rw [hw, hn, if_neg (by simp; omega), if_neg (by decide), if_pos hpos]
/-- A name, or a function's name. -/
theorem lk_word {t : List UInt8} (h : wordP t = true) (hl : t.length ≤ 20) : LexK t [(1, t)] := by
  obtain ⟨h1, h2⟩ := word_run t h
  refine lk_run h1 h2 ?_
  unfold kindOf
  rw [h, numN_word t h, if_neg (by simp; omega), if_pos rfl]
section
variable {nm : List UInt8 → Bool} {ts : List Tok}
/-- More fuel changes nothing. -/
theorem more : ∀ f : Nat,
    (∀ k n, sumP nm ts f k n ≠ .out → sumP nm ts (f + 1) k n = sumP nm ts f k n) ∧ (∀ e k n, chS nm ts f e k n ≠ .out → chS nm ts (f + 1) e k n = chS nm ts f e k n) ∧
    (∀ k n, termP nm ts f k n ≠ .out → termP nm ts (f + 1) k n = termP nm ts f k n) ∧ (∀ e k n, chT nm ts f e k n ≠ .out → chT nm ts (f + 1) e k n = chT nm ts f e k n) ∧
    (∀ k n, firstP nm ts f k n ≠ .out → firstP nm ts (f + 1) k n = firstP nm ts f k n) ∧ (∀ k n, factorP nm ts f k n ≠ .out → factorP nm ts (f + 1) k n = factorP nm ts f k n) ∧
    (∀ k n, atomP nm ts f k n ≠ .out → atomP nm ts (f + 1) k n = atomP nm ts f k n) ∧ (∀ k n, encP nm ts f k n ≠ .out → encP nm ts (f + 1) k n = encP nm ts f k n) := by
  intro f
  induction f with
  | zero => refine ⟨?_, ?_, ?_, ?_, ?_, ?_, ?_, ?_⟩ <;> intros <;> rename_i h <;> exact absurd (by first | rw [sumP] | rw [chS] | rw [termP] | rw [chT] | rw [firstP] | rw [factorP] | rw [atomP] | rw [encP]) h
  | succ f ih =>
    obtain ⟨iS, iCS, iT, iCT, iF, iFa, iA, iE⟩ := ih
    refine ⟨?_, ?_, ?_, ?_, ?_, ?_, ?_, ?_⟩
    · intro k n h
      have e1 := sumP.eq_def nm ts (f + 1 + 1) k n
      have e2 := sumP.eq_def nm ts (f + 1) k n
      simp only at e1 e2
      rw [e2] at h
      rw [e1, e2]
      cases ht : termP nm ts f k n with
      | out => rw [ht] at h; exact absurd rfl h
      | bad l c e => rw [iT k n (by rw [ht]; simp), ht]
      | ok e k1 =>
        rw [ht] at h
        rw [iT k n (by rw [ht]; simp), ht]
        exact iCS _ _ _ h
    · intro e k n h
      have e1 := chS.eq_def nm ts (f + 1 + 1) e k n
      have e2 := chS.eq_def nm ts (f + 1) e k n
      simp only at e1 e2
      rw [e2] at h
      rw [e1, e2]
      by_cases hc : (tk ts k).kind = 3 ∧ ((tk ts k).text = [43] ∨ (tk ts k).text = [45])
      · rw [if_pos hc] at h ⊢
        rw [if_pos hc]
        cases ht : termP nm ts f (k + 1) n with
        | out => rw [ht] at h; exact absurd rfl h
        | bad l c e => rw [iT _ n (by rw [ht]; simp), ht]
        | ok e k1 =>
          rw [ht] at h
          rw [iT _ n (by rw [ht]; simp), ht]
          exact iCS _ _ _ h
      · rw [if_neg hc, if_neg hc]
    · intro k n h
      have e1 := termP.eq_def nm ts (f + 1 + 1) k n
      have e2 := termP.eq_def nm ts (f + 1) k n
      simp only at e1 e2
      rw [e2] at h
      rw [e1, e2]
      cases ht : firstP nm ts f k n with
      | out => rw [ht] at h; exact absurd rfl h
      | bad l c e => rw [iF k n (by rw [ht]; simp), ht]
      | ok e k1 =>
        rw [ht] at h
        rw [iF k n (by rw [ht]; simp), ht]
        exact iCT _ _ _ h
    · intro e k n h
      have e1 := chT.eq_def nm ts (f + 1 + 1) e k n
      have e2 := chT.eq_def nm ts (f + 1) e k n
      simp only at e1 e2
      rw [e2] at h
      rw [e1, e2]
      by_cases hc : (tk ts k).kind = 3 ∧ ((tk ts k).text = [42] ∨ (tk ts k).text = [47])
      · rw [if_pos hc] at h ⊢
        rw [if_pos hc]
        cases ht : factorP nm ts f (k + 1) n with
        | out => rw [ht] at h; exact absurd rfl h
        | bad l c e => rw [iFa _ n (by rw [ht]; simp), ht]
        | ok e k1 =>
          rw [ht] at h
          rw [iFa _ n (by rw [ht]; simp), ht]
          exact iCT _ _ _ h
      · rw [if_neg hc, if_neg hc]
    · intro k n h
      have e1 := firstP.eq_def nm ts (f + 1 + 1) k n
      have e2 := firstP.eq_def nm ts (f + 1) k n
      simp only at e1 e2
      rw [e2] at h
      rw [e1, e2]
      split
      · rfl
      · rename_i hc
        rw [if_neg hc] at h
        exact iFa _ _ h
    · intro k n h
      have e1 := factorP.eq_def nm ts (f + 1 + 1) k n
      have e2 := factorP.eq_def nm ts (f + 1) k n
      simp only at e1 e2
      rw [e2] at h
      rw [e1, e2]
      split
      · rfl
      · rename_i hc
        rw [if_neg hc] at h
        split
        · rename_i hs
          rw [if_pos hs] at h
          split
          · rfl
          · rename_i hn
            rw [if_neg hn] at h
            cases ht : factorP nm ts f (k + 1) (n + 1) with
            | out => rw [ht] at h; exact absurd rfl h
            | bad l c e => rw [iFa _ _ (by rw [ht]; simp), ht]
            | ok e k1 => rw [iFa _ _ (by rw [ht]; simp), ht]
        · rename_i hs
          rw [if_neg hs] at h
          cases ht : atomP nm ts f k n with
          | out => rw [ht] at h; exact absurd rfl h
          | bad l c e => rw [iA _ _ (by rw [ht]; simp), ht]
          | ok e k1 => rw [iA _ _ (by rw [ht]; simp), ht]
    · intro k n h
      have e1 := atomP.eq_def nm ts (f + 1 + 1) k n
      have e2 := atomP.eq_def nm ts (f + 1) k n
      simp only at e1 e2
      rw [e2] at h
      rw [e1, e2]
      split
      · rfl
      · rename_i h1
        rw [if_neg h1] at h
        split
        · rfl
        · rename_i h2
          rw [if_neg h2] at h
          split
          · rename_i h3
            rw [if_pos h3] at h
            cases ht : encP nm ts f (k + 1) n with
            | out => rw [ht] at h; exact absurd rfl h
            | bad l c e => rw [iE _ _ (by rw [ht]; simp), ht]
            | ok e k1 => rw [iE _ _ (by rw [ht]; simp), ht]
          · rename_i h3
            rw [if_neg h3] at h
            exact iE _ _ h
    · intro k n h
      have e1 := encP.eq_def nm ts (f + 1 + 1) k n
      have e2 := encP.eq_def nm ts (f + 1) k n
      simp only at e1 e2
      rw [e2] at h
      rw [e1, e2]
      split
      · rename_i h1
        rw [if_pos h1] at h
        split
        · rfl
        · rename_i h2
          rw [if_neg h2] at h
          cases ht : sumP nm ts f (k + 1) (n + 1) with
          | out => rw [ht] at h; exact absurd rfl h
          | bad l c e => rw [iS _ _ (by rw [ht]; simp), ht]
          | ok e k1 => rw [iS _ _ (by rw [ht]; simp), ht]
      · rfl
theorem more_sum {f g k n : Nat} (hfg : f ≤ g) (h : sumP nm ts f k n ≠ .out) : sumP nm ts g k n = sumP nm ts f k n := by
  induction hfg with
  | refl => rfl
  | step hle ih => rw [(more (nm := nm) (ts := ts) _).1 k n (by rw [ih]; exact h), ih]
/-- What a sum comes to from some fuel on, it comes to with enough fuel. -/
theorem ev_sum {R : PR TE} {k n f : Nat} (h : Ev fun F => sumP nm ts F k n = R) (hf : 8 * (ts.length - k) + 8 ≤ f) : sumP nm ts f k n = R := by
  obtain ⟨F0, h0⟩ := h
  have hno := (enough (nm := nm) (ts := ts) f).1 k n hf
  rw [← h0 (f + F0) (Nat.le_add_left _ _)]
  exact (more_sum (Nat.le_add_right _ _) hno).symm
end
end Go.Fl.Pa
namespace Go.Fl.Pa
open Go.Lib Go.Fl.Lx Go.Fl.Fm Go.Fl.Rt
theorem lk_num {n d : Int} (h : valid n d) : LexK (textR n d) (numT n d) := by
  obtain ⟨h1, h2, h3, h4, h5⟩ := h
  have hi : LexK (itoa n) ((if n < 0 then [(3, [45])] else []) ++ [(2, decDigits n.natAbs)]) := by
    unfold itoa
    by_cases hn : n < 0
    · rw [if_pos hn, if_pos hn]
      exact (ls_sym (c := 45) (by decide)).sk (lk_dec (by omega))
    · rw [if_neg hn, if_neg hn]
      have e : n.toNat = n.natAbs := by omega
      rw [e]
      exact lk_dec (by omega)
  unfold textR numT
  by_cases hd : d = 1
  · rw [if_pos hd, if_pos hd, List.append_nil]
    exact hi
  · rw [if_neg hd, if_neg hd]
    have hdd : itoa d = decDigits d.natAbs := by
      unfold itoa
      rw [if_neg (by omega)]
      congr 1
      omega
    have := hi.k (b := 47 :: itoa d) (kb := [(3, [47]), (2, decDigits d.natAbs)]) (norun_cons (by decide)) (LexS.sk (a := [47]) (b := itoa d) (ls_sym (c := 47) (by decide)) (by rw [hdd]; exact lk_dec (by omega)))
    rw [List.append_assoc] at this
    exact this
end Go.Fl.Pa
