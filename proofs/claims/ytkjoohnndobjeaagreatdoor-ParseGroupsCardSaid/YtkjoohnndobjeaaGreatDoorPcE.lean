/-
  ParseGroups' texts: how they are read. In plain Lean. No program in sight.
-/
import Derived.Test.YtkjoohnndobjeaaGreatDoorQU
import Derived.Test.YtkjoohnndobjeaaGreatDoorPcD
import Derived.Test.YtkjoohnndobjeaaGreatDoorQY
import Derived.Test.YtkjoohnndobjeaaGreatDoorPgI
set_option linter.unusedVariables false
namespace Go.Fl.Pa
open Go.Lib Go.Fl.Lx Go.Fl.Fm Go.Fl.Rt
open Go.Proofs.YtkjoohnndobjeaaGreatDoor (nameP okE exprR expr_inv run_ok9 runS runR cR okE_iff)
theorem expr_ok9 {l : List UInt8} {ts : List Tok} {T : TE} (h3 : lexRes l = .ok ts) (h4 : sumP nameP ts (8 * ts.length + 8) 0 0 = .ok T ts.length) (h : okE T = true) : exprR l = ((0, 0, 0), some T) := run_ok9 (rd := fun ts => sumP nameP ts (8 * ts.length + 8) 0 0) h3 h4 h
/-- A part that may be nested three deep. -/
def Gr (us : List Tok) (T : TE) : Prop := ∀ ts p d, d ≤ 3 → Sub us ts p → Ev fun F => sumP nameP ts F p d = .ok T (p + us.length)
def NoGr (us : List Tok) : Prop := ∀ ts p d, 3 ≤ d → d ≤ 100 → Sub us ts p → Ev fun F => ∃ l c, sumP nameP ts F p d = .bad l c 5
theorem gr_or {us : List Tok} {T : TE} (h : Prt us T) : Gr us T ∨ NoGr us := by
  obtain ⟨P, hm, hp⟩ := (inn_rules (nm := nameP) (us := us) (8 * us.length + 8)).1 0 0 T us.length (Nat.zero_le _) h.s
  have key : ∀ ts p d, sumP nameP ts (8 * us.length + 8) (p + 0) (0 + d) = sumP nameP ts (8 * us.length + 8) p d := fun ts p d => by rw [Nat.zero_add]; rfl
  rcases Classical.em (P 3) with h3 | h3
  · refine .inl (fun ts p d hd hs => ⟨8 * us.length + 8, fun F hF => ?_⟩)
    have h4 := (hp ts p d hs (by omega)).1 (hm d 3 hd h3)
    simp only [key] at h4
    show sumP nameP ts F p d = _
    rw [more_sum hF (by rw [h4]; simp), h4]
  · refine .inr (fun ts p d hd hd2 hs => ⟨8 * us.length + 8, fun F hF => ?_⟩)
    obtain ⟨l, c, h4⟩ := (hp ts p d hs (by omega)).2 (fun h => h3 (hm 3 d hd h))
    simp only [key] at h4
    exact ⟨l, c, by rw [more_sum hF (by rw [h4]; simp), h4]⟩
/-- The tokens of a part in parentheses. -/
def pkT (us : List Tok) : List (Nat × List UInt8) := (3, [40]) :: (us.map kt ++ [(3, [41])])
theorem pkT_len (us : List Tok) : (pkT us).length = us.length + 2 := by unfold pkT; simp
section
variable {ts us vs : List Tok} {k m : Nat} {T U : TE}
theorem pk_sub (h : Mt ts k (pkT us)) : Sub us ts (k + 1) ∧ ((tk ts k).kind = 3 ∧ (tk ts k).text = [40]) ∧ ((tk ts (k + 1 + us.length)).kind = 3 ∧ (tk ts (k + 1 + us.length)).text = [41]) := by
  obtain ⟨h1, h2⟩ := h
  obtain ⟨h2, h3⟩ := mt_app.1 h2
  rw [List.length_map] at h3
  exact ⟨sub_sym h2 h3.1 (stop_sym h3.1 (by decide)), h1, h3.1⟩
theorem pk_enc (hg : Gr us T) (h : Mt ts k (pkT us)) (hm : m ≤ 2) : Ev fun F => encP nameP ts F k m = .ok T (k + us.length + 2) := by
  obtain ⟨h1, h2, h3⟩ := pk_sub h
  have := enc_ok (nm := nameP) (by rw [isS_sym h2]; decide) (by omega) (by rw [isS_sym h3]; decide) (hg ts (k + 1) (m + 1) (by omega) h1)
  rw [show k + 1 + us.length + 1 = k + us.length + 2 by omega] at this
  exact this
theorem pk_fac (hg : Gr us T) (h : Mt ts k (pkT us)) (hm : m ≤ 2) (hx : isS false ts (k + us.length + 2) [94] = false) : Ev fun F => factorP nameP ts F k m = .ok T (k + us.length + 2) := by
  obtain ⟨h1, h2, h3⟩ := pk_sub h
  exact fac_atom (by rw [isS_sym h2]; decide) (fun e => by omega) hx (atom_par h2.1 (pk_enc hg h hm))
theorem pk_pow (hg : Gr us T) (h : Mt ts k (pkT us)) (hm : m ≤ 2) (h1 : (tk ts (k + us.length + 2)).kind = 3 ∧ (tk ts (k + us.length + 2)).text = [94]) (h2 : (tk ts (k + us.length + 2 + 1)).kind = 2 ∧ (tk ts (k + us.length + 2 + 1)).text = [51]) :
    Ev fun F => factorP nameP ts F k m = .ok (powE 3 T) (k + us.length + 2 + 2) := by
  obtain ⟨_, h3, _⟩ := pk_sub h
  refine fac_pow (by rw [isS_sym h3]; decide) (fun e => by omega) (by rw [isS_sym h1]; decide) ?_ (by rw [h2.2]; decide) (by decide) (atom_par h3.1 (pk_enc hg h hm))
  unfold integerP
  rw [h2.1, h2.2]
  decide
theorem no_frac (h : (tk ts k).kind = 3 ∧ (tk ts k).text = [40]) : fracP ts k = false := by
  unfold fracP
  rw [sign0 (by rw [isS_sym h]; decide), Nat.add_zero, int_kind (by omega)]
  rfl
theorem no_frac1 (h : (tk ts k).kind = 1) : fracP ts k = false := by
  unfold fracP
  rw [sign0 (isS_no3 (by omega)), Nat.add_zero, int_kind (by omega)]
  rfl
theorem no_frac7 (h : (tk ts k).kind = 3 ∧ (tk ts k).text = [45]) (h2 : (tk ts (k + 1)).kind = 3) : fracP ts k = false := by
  unfold fracP
  rw [sign1 (by rw [isS_sym h]; decide), int_kind (by omega)]
  rfl
theorem pk_fst (hg : Gr us T) (h : Mt ts k (pkT us)) (hm : m ≤ 2) (hx : isS false ts (k + us.length + 2) [94] = false) : Ev fun F => firstP nameP ts F k m = .ok T (k + us.length + 2) := fst_fac (no_frac (pk_sub h).2.1) (pk_fac hg h hm hx)
theorem pk_neg (hg : Gr us T) (h1 : (tk ts k).kind = 3 ∧ (tk ts k).text = [45]) (h : Mt ts (k + 1) (pkT us)) (hm : m ≤ 1) (hx : isS false ts (k + 1 + us.length + 2) [94] = false) : Ev fun F => firstP nameP ts F k m = .ok (opE 7 [T]) (k + 1 + us.length + 2) := by
  obtain ⟨_, h3, _⟩ := pk_sub h
  exact fst_fac (no_frac7 h1 h3.1) (fac_neg (by rw [isS_sym h1]; decide) (fun e => by omega) (by omega) (pk_fac hg h (by omega) hx))
theorem pk_npw (hg : Gr us T) (h0 : (tk ts k).kind = 3 ∧ (tk ts k).text = [45]) (h : Mt ts (k + 1) (pkT us)) (hm : m ≤ 1) (h1 : (tk ts (k + 1 + us.length + 2)).kind = 3 ∧ (tk ts (k + 1 + us.length + 2)).text = [94]) (h2 : (tk ts (k + 1 + us.length + 2 + 1)).kind = 2 ∧ (tk ts (k + 1 + us.length + 2 + 1)).text = [51]) :
    Ev fun F => firstP nameP ts F k m = .ok (opE 7 [powE 3 T]) (k + 1 + us.length + 2 + 2) := by
  obtain ⟨_, h3, _⟩ := pk_sub h
  exact fst_fac (no_frac7 h0 h3.1) (fac_neg (by rw [isS_sym h0]; decide) (fun e => by omega) (by omega) (pk_pow hg h (by omega) h1 h2))
theorem pk_fun {s : List UInt8} (hg : Gr us T) (h0 : (tk ts k).kind = 1 ∧ (tk ts k).text = s) (hn : nameP s = false) (hf : funK s ≠ 0) (h : Mt ts (k + 1) (pkT us)) (hm : m ≤ 2) (hx : isS false ts (k + 1 + us.length + 2) [94] = false) :
    Ev fun F => factorP nameP ts F k m = .ok (opE (funK s) [T]) (k + 1 + us.length + 2) :=
  fac_atom (isS_no3 (by omega)) (fun e => by omega) hx (atom_fun h0 hn hf (pk_enc hg h hm))
/-! Too deep. -/
theorem bad_enc {k m : Nat} (h : isS false ts k [40] = true) (hm : m ≠ 100) (ha : Ev fun F => ∃ l c, sumP nameP ts F (k + 1) (m + 1) = .bad l c 5) : Ev fun F => ∃ l c, encP nameP ts F k m = .bad l c 5 := by
  refine ev_s1 (fun F h1 => ?_) ha
  obtain ⟨l, c, h1⟩ := h1
  exact ⟨l, c, by unfold encP; rw [h, if_pos rfl, if_neg hm, h1]⟩
theorem bad_sum {k m : Nat} (h : (tk ts k).kind = 3 ∧ (tk ts k).text = [40]) (ha : Ev fun F => ∃ l c, encP nameP ts F k m = .bad l c 5) : Ev fun F => ∃ l c, sumP nameP ts F k m = .bad l c 5 := by
  have hs : isS false ts k [45] = false := by rw [isS_sym h]; decide
  have h1 : Ev fun F => ∃ l c, atomP nameP ts F k m = .bad l c 5 := by
    refine ev_s1 (fun F h1 => ?_) ha
    obtain ⟨l, c, h1⟩ := h1
    exact ⟨l, c, by unfold atomP; rw [if_neg (by omega), if_neg (by omega), if_neg (by omega), h1]⟩
  have h2 : Ev fun F => ∃ l c, factorP nameP ts F k m = .bad l c 5 := by
    refine ev_s1 (fun F h1 => ?_) h1
    obtain ⟨l, c, h1⟩ := h1
    exact ⟨l, c, by unfold factorP; rw [sign0 hs, Nat.add_zero, if_neg (by omega), if_neg (by decide), h1]⟩
  have h3 : Ev fun F => ∃ l c, firstP nameP ts F k m = .bad l c 5 := by
    refine ev_s1 (fun F h1 => ?_) h2
    obtain ⟨l, c, h1⟩ := h1
    exact ⟨l, c, by unfold firstP; rw [no_frac h, Bool.false_and, if_neg (by decide), h1]⟩
  have h4 : Ev fun F => ∃ l c, termP nameP ts F k m = .bad l c 5 := by
    refine ev_s1 (fun F h1 => ?_) h3
    obtain ⟨l, c, h1⟩ := h1
    exact ⟨l, c, by unfold termP; rw [h1]⟩
  refine ev_s1 (fun F h1 => ?_) h4
  obtain ⟨l, c, h1⟩ := h1
  exact ⟨l, c, by unfold sumP; rw [h1]⟩
/-- A sum in parentheses alone as a sum. -/
theorem par_sum {k k1 m : Nat} (h : (tk ts k).kind = 3 ∧ (tk ts k).text = [40]) (hm : m ≠ 100) (h2 : (tk ts k1).kind = 3 ∧ (tk ts k1).text = [41]) (hx : Stop ts (k1 + 1)) (hs : Ev fun F => sumP nameP ts F (k + 1) (m + 1) = .ok T k1) : Ev fun F => sumP nameP ts F k m = .ok T (k1 + 1) := by
  obtain ⟨a, b, c, d, e⟩ := hx
  exact sum_of_first (first_par h hm h2 a hs) (chT_end b c) d e
theorem stop_end {k : Nat} (h : ts.length ≤ k) : Stop ts k := stop_word (by rw [tk_end h]; decide)
end
/-- The check of the law. -/
def chkT (us : List Tok) : List (Nat × List UInt8) := (3, [40]) :: (3, [40]) :: (pkT us ++ [(3, [41]), (3, [41])])
section
variable {ts us : List Tok} {T : TE} {l : List UInt8}
theorem chk_pos (h : Mt ts 0 (chkT us)) : ((tk ts 0).kind = 3 ∧ (tk ts 0).text = [40]) ∧ ((tk ts 1).kind = 3 ∧ (tk ts 1).text = [40]) ∧ Mt ts 2 (pkT us) ∧ ((tk ts (us.length + 4)).kind = 3 ∧ (tk ts (us.length + 4)).text = [41]) ∧ ((tk ts (us.length + 5)).kind = 3 ∧ (tk ts (us.length + 5)).text = [41]) := by
  obtain ⟨h1, h2, h3⟩ := h
  obtain ⟨h3, h4⟩ := mt_app.1 h3
  rw [pkT_len] at h4
  rw [show 0 + 1 + 1 = 2 from rfl] at h3 h4
  obtain ⟨h4, h5, _⟩ := h4
  rw [show 2 + (us.length + 2) = us.length + 4 by omega] at h4 h5
  exact ⟨h1, h2, h3, h4, h5⟩
theorem chk_ok (hg : Gr us T) (h : Mt ts 0 (chkT us)) (hl : ts.length = (chkT us).length) : Ev fun F => sumP nameP ts F 0 0 = .ok T ts.length := by
  obtain ⟨h1, h2, h3, h4, h5⟩ := chk_pos h
  have hl2 : ts.length = us.length + 6 := by rw [hl]; unfold chkT; simp [pkT_len]
  obtain ⟨s1, s2, s3⟩ := pk_sub h3
  have e3 := par_sum (m := 2) s2 (by omega) s3 (by rw [show 2 + 1 + us.length + 1 = us.length + 4 by omega]; exact stop_sym h4 (by decide)) (hg ts 3 3 (Nat.le_refl _) s1)
  rw [show 2 + 1 + us.length + 1 = us.length + 4 by omega] at e3
  have e2 := par_sum (m := 1) h2 (by omega) h4 (stop_sym h5 (by decide)) e3
  have e1 := par_sum (m := 0) h1 (by omega) h5 (stop_end (by omega)) e2
  rw [hl2]
  exact e1
theorem chk_bad (hg : NoGr us) (h : Mt ts 0 (chkT us)) : Ev fun F => ∃ l c, sumP nameP ts F 0 0 = .bad l c 5 := by
  obtain ⟨h1, h2, h3, h4, h5⟩ := chk_pos h
  obtain ⟨s1, s2, s3⟩ := pk_sub h3
  have y : ∀ {k}, ((tk ts k).kind = 3 ∧ (tk ts k).text = [40]) → isS false ts k [40] = true := fun h => by rw [isS_sym h]; decide
  have e3 := bad_sum s2 (bad_enc (m := 2) (y s2) (by omega) (hg ts 3 3 (Nat.le_refl _) (by omega) s1))
  have e2 := bad_sum h2 (bad_enc (m := 1) (y h2) (by omega) e3)
  exact bad_sum h1 (bad_enc (m := 0) (y h1) (by omega) e2)
theorem ev_ex {R : PR TE} {k : Nat} (h : Ev fun F => ∃ l c, sumP nameP ts F k 0 = .bad l c 5) : ∃ l c, sumP nameP ts (8 * ts.length + 8) k 0 = .bad l c 5 := by
  obtain ⟨F0, hF⟩ := h
  obtain ⟨l, c, h1⟩ := hF (F0 + (8 * ts.length + 8)) (by omega)
  exact ⟨l, c, ev_sum (R := .bad l c 5) ⟨F0 + (8 * ts.length + 8), fun F hF => by show sumP nameP ts F k 0 = _; rw [more_sum hF (by rw [h1]; simp), h1]⟩ (by omega)⟩
end
/-! The texts. -/
def pX (S : List UInt8) : List UInt8 := 40 :: (S ++ [41])
theorem pX_len (S : List UInt8) : (pX S).length = S.length + 2 := by unfold pX; simp
theorem pX_lex {S : List UInt8} {us : List Tok} (h : LexK S (us.map kt)) : LexS (pX S) (pkT us) := by
  have h1 := h.s (b := [41]) (norun_cons (by decide)) (by simp) (ls_sym (by decide))
  exact (ls_sym (c := 40) (by decide)).s h1
/-- What is known of a part: its tokens, its tree, and that it may be nested three deep. -/
structure Pt (S : List UInt8) (us : List Tok) (T : TE) : Prop where
  x : LexK S (us.map kt)
  g : Gr us T
theorem chk_law {S : List UInt8} {us : List Tok} {T : TE} (h1 : lexRes S = .ok us) (h35 : (35 : UInt8) ∉ S) (hp : Prt us T) (hl : S.length ≤ 1000) : ((exprR (40 :: 40 :: (pX S ++ [41, 41]))).1.2.2 = 0 ∧ Pt S us T) ∨ (exprR (40 :: 40 :: (pX S ++ [41, 41]))).1.2.2 = 5 := by
  have hx := lexk_res h1 h35
  have y : ∀ {c : UInt8}, isSym c = true → LexS [c] [(3, [c])] := fun h => ls_sym h
  have hc : LexK (40 :: 40 :: (pX S ++ [41, 41])) (chkT us) := ((y (c := 40) (by decide)).s ((y (c := 40) (by decide)).s ((pX_lex hx).s ((y (c := 41) (by decide)).s (y (c := 41) (by decide)))))).k
  obtain ⟨ts, e1, e2, e3⟩ := hc.res (by simp [pX_len]; omega)
  rcases gr_or hp with hg | hg
  · left
    refine ⟨?_, hx, hg⟩
    rw [expr_ok9 e1 (ev_sum (chk_ok hg e2 e3) (by omega)) hp.o]
  · right
    obtain ⟨l, c, h⟩ := ev_ex (R := .out) (chk_bad hg e2)
    show (runR _ _ _).1.2.2 = 5
    unfold runR
    rw [e1]
    show (runS ts okE (sumP nameP ts (8 * ts.length + 8) 0 0)).1.2.2 = 5
    rw [h]
    rfl
section
variable {S U : List UInt8} {us vs : List Tok} {a b : TE}
theorem gx_ok {l : List UInt8} {ks : List (Nat × List UInt8)} {T : TE} (h : LexK l ks) (hl : l.length ≤ 65536) (ho : okE T = true) (hr : ∀ ts, Mt ts 0 ks → ts.length = ks.length → Ev fun F => sumP nameP ts F 0 0 = .ok T ts.length) : exprR l = ((0, 0, 0), some T) := by
  obtain ⟨ts, e1, e2, e3⟩ := h.res hl
  exact expr_ok9 e1 (ev_sum (hr ts e2 e3) (by omega)) ho
theorem y_sym {c : UInt8} (h : isSym c = true) : LexS [c] [(3, [c])] := ls_sym h
theorem g1 (hp : Pt S us a) (hl : S.length ≤ 1000) (ho : okE a = true) : exprR (pX S) = ((0, 0, 0), some a) := by
  refine gx_ok (pX_lex hp.x).k (by rw [pX_len]; omega) ho (fun ts h hl => ?_)
  rw [pkT_len] at hl
  obtain ⟨s1, s2, s3, s4, s5⟩ := stop_end (ts := ts) (k := 0 + us.length + 2) (by omega)
  rw [show ts.length = 0 + us.length + 2 by omega]
  exact sum_of_first (pk_fst hp.g h (by omega) s1) (chT_end s2 s3) s4 s5
theorem g2 (hp : Pt S us a) (hl : S.length ≤ 1000) (ho : okE a = true) : exprR (40 :: (pX S ++ [41])) = ((0, 0, 0), some a) := by
  refine gx_ok (ks := (3, [40]) :: (pkT us ++ [(3, [41])])) ((y_sym (c := 40) (by decide)).s ((pX_lex hp.x).s (y_sym (c := 41) (by decide)))).k (by simp [pX_len]; omega) ho (fun ts h hl => ?_)
  simp only [List.length_cons, List.length_append, List.length_nil, pkT_len] at hl
  obtain ⟨h1, h2⟩ := h
  obtain ⟨h2, h3⟩ := mt_app.1 h2
  rw [pkT_len] at h3
  obtain ⟨h3, _⟩ := h3
  obtain ⟨q1, q2, q3⟩ := pk_sub h2
  rw [show 0 + 1 + (us.length + 2) = us.length + 3 by omega] at h3
  have e1 := par_sum (m := 1) q2 (by omega) q3 (by rw [show 0 + 1 + 1 + us.length + 1 = us.length + 3 by omega]; exact stop_sym h3 (by decide)) (hp.g ts 2 2 (by omega) q1)
  rw [show 0 + 1 + 1 + us.length + 1 = us.length + 3 by omega] at e1
  have e2 := par_sum (m := 0) h1 (by omega) h3 (stop_end (by omega)) e1
  rw [show ts.length = us.length + 3 + 1 by omega]
  exact e2
/-- A chain of a first part and an operation with another part. -/
theorem g3 (hp : Pt S us a) (hq : Pt U vs b) (hl : S.length ≤ 1000) (hl2 : U.length ≤ 1000) (ho : okE (opE 3 [a, b]) = true) : exprR (pX S ++ (43 :: pX U)) = ((0, 0, 0), some (opE 3 [a, b])) := by
  refine gx_ok (ks := pkT us ++ ((3, [43]) :: pkT vs)) ((pX_lex hp.x).s ((y_sym (c := 43) (by decide)).s (pX_lex hq.x))).k (by simp [pX_len]; omega) ho (fun ts h hl => ?_)
  simp only [List.length_cons, List.length_append, pkT_len] at hl
  obtain ⟨h1, h2⟩ := mt_app.1 h
  rw [pkT_len] at h2
  obtain ⟨h2, h3⟩ := h2
  rw [← Nat.add_assoc] at h2 h3
  obtain ⟨s1, s2, s3, s4, s5⟩ := stop_end (ts := ts) (k := 0 + us.length + 2 + 1 + vs.length + 2) (by omega)
  rw [show ts.length = 0 + us.length + 2 + 1 + vs.length + 2 by omega]
  refine sum_step (term_step (pk_fst hp.g h1 (by omega) (sym_no h2 (by decide))) (chT_end (sym_no h2 (by decide)) (sym_no h2 (by decide)))) (chS_step (c := 3) h2 (.inl rfl) (term_step (pk_fst hq.g h3 (by omega) s1) (chT_end s2 s3)) (chS_end s4 s5))
theorem g4 (hp : Pt S us a) (hq : Pt U vs b) (hl : S.length ≤ 1000) (hl2 : U.length ≤ 1000) (ho : okE (opE 4 [a, opE 5 [b, a]]) = true) : exprR (pX S ++ (45 :: (pX U ++ (42 :: pX S)))) = ((0, 0, 0), some (opE 4 [a, opE 5 [b, a]])) := by
  refine gx_ok (ks := pkT us ++ ((3, [45]) :: (pkT vs ++ ((3, [42]) :: pkT us)))) ((pX_lex hp.x).s ((y_sym (c := 45) (by decide)).s ((pX_lex hq.x).s ((y_sym (c := 42) (by decide)).s (pX_lex hp.x))))).k (by simp [pX_len]; omega) ho (fun ts h hl => ?_)
  simp only [List.length_cons, List.length_append, pkT_len] at hl
  obtain ⟨h1, h2⟩ := mt_app.1 h
  rw [pkT_len] at h2
  obtain ⟨h2, h3⟩ := h2
  rw [← Nat.add_assoc] at h2 h3
  obtain ⟨h3, h4⟩ := mt_app.1 h3
  rw [pkT_len] at h4
  obtain ⟨h4, h5⟩ := h4
  rw [← Nat.add_assoc] at h4 h5
  obtain ⟨s1, s2, s3, s4, s5⟩ := stop_end (ts := ts) (k := 0 + us.length + 2 + 1 + vs.length + 2 + 1 + us.length + 2) (by omega)
  rw [show ts.length = 0 + us.length + 2 + 1 + vs.length + 2 + 1 + us.length + 2 by omega]
  refine sum_step (term_step (pk_fst hp.g h1 (by omega) (sym_no h2 (by decide))) (chT_end (sym_no h2 (by decide)) (sym_no h2 (by decide)))) (chS_step (c := 4) h2 (.inr rfl) (term_step (pk_fst hq.g h3 (by omega) (sym_no h4 (by decide))) (chT_step (c := 5) h4 (.inl rfl) (pk_fac hp.g h5 (by omega) s1) (chT_end s2 s3))) (chS_end s4 s5))
theorem g5 (hp : Pt S us a) (hq : Pt U vs b) (hl : S.length ≤ 1000) (hl2 : U.length ≤ 1000) (ho : okE (opE 6 [opE 5 [a, b], a]) = true) : exprR (pX S ++ (42 :: (pX U ++ (47 :: pX S)))) = ((0, 0, 0), some (opE 6 [opE 5 [a, b], a])) := by
  refine gx_ok (ks := pkT us ++ ((3, [42]) :: (pkT vs ++ ((3, [47]) :: pkT us)))) ((pX_lex hp.x).s ((y_sym (c := 42) (by decide)).s ((pX_lex hq.x).s ((y_sym (c := 47) (by decide)).s (pX_lex hp.x))))).k (by simp [pX_len]; omega) ho (fun ts h hl => ?_)
  simp only [List.length_cons, List.length_append, pkT_len] at hl
  obtain ⟨h1, h2⟩ := mt_app.1 h
  rw [pkT_len] at h2
  obtain ⟨h2, h3⟩ := h2
  rw [← Nat.add_assoc] at h2 h3
  obtain ⟨h3, h4⟩ := mt_app.1 h3
  rw [pkT_len] at h4
  obtain ⟨h4, h5⟩ := h4
  rw [← Nat.add_assoc] at h4 h5
  obtain ⟨s1, s2, s3, s4, s5⟩ := stop_end (ts := ts) (k := 0 + us.length + 2 + 1 + vs.length + 2 + 1 + us.length + 2) (by omega)
  rw [show ts.length = 0 + us.length + 2 + 1 + vs.length + 2 + 1 + us.length + 2 by omega]
  refine sum_step (term_step (pk_fst hp.g h1 (by omega) (sym_no h2 (by decide))) (chT_step (c := 5) h2 (.inl rfl) (pk_fac hq.g h3 (by omega) (sym_no h4 (by decide))) (chT_step (c := 6) h4 (.inr rfl) (pk_fac hp.g h5 (by omega) s1) (chT_end s2 s3)))) (chS_end s4 s5)
theorem g6 (hp : Pt S us a) (hq : Pt U vs b) (hl : S.length ≤ 1000) (hl2 : U.length ≤ 1000) (ho : okE (opE 3 [opE 4 [a, b], a]) = true) : exprR (pX S ++ (45 :: (pX U ++ (43 :: pX S)))) = ((0, 0, 0), some (opE 3 [opE 4 [a, b], a])) := by
  refine gx_ok (ks := pkT us ++ ((3, [45]) :: (pkT vs ++ ((3, [43]) :: pkT us)))) ((pX_lex hp.x).s ((y_sym (c := 45) (by decide)).s ((pX_lex hq.x).s ((y_sym (c := 43) (by decide)).s (pX_lex hp.x))))).k (by simp [pX_len]; omega) ho (fun ts h hl => ?_)
  simp only [List.length_cons, List.length_append, pkT_len] at hl
  obtain ⟨h1, h2⟩ := mt_app.1 h
  rw [pkT_len] at h2
  obtain ⟨h2, h3⟩ := h2
  rw [← Nat.add_assoc] at h2 h3
  obtain ⟨h3, h4⟩ := mt_app.1 h3
  rw [pkT_len] at h4
  obtain ⟨h4, h5⟩ := h4
  rw [← Nat.add_assoc] at h4 h5
  obtain ⟨s1, s2, s3, s4, s5⟩ := stop_end (ts := ts) (k := 0 + us.length + 2 + 1 + vs.length + 2 + 1 + us.length + 2) (by omega)
  rw [show ts.length = 0 + us.length + 2 + 1 + vs.length + 2 + 1 + us.length + 2 by omega]
  refine sum_step (term_step (pk_fst hp.g h1 (by omega) (sym_no h2 (by decide))) (chT_end (sym_no h2 (by decide)) (sym_no h2 (by decide)))) (chS_step (c := 4) h2 (.inr rfl) (term_step (pk_fst hq.g h3 (by omega) (sym_no h4 (by decide))) (chT_end (sym_no h4 (by decide)) (sym_no h4 (by decide)))) (chS_step (c := 3) h4 (.inl rfl) (term_step (pk_fst hp.g h5 (by omega) s1) (chT_end s2 s3)) (chS_end s4 s5)))
theorem g7 (hp : Pt S us a) (hl : S.length ≤ 1000) (ho : okE (opE 7 [a]) = true) : exprR (45 :: pX S) = ((0, 0, 0), some (opE 7 [a])) := by
  refine gx_ok (ks := (3, [45]) :: pkT us) ((y_sym (c := 45) (by decide)).s (pX_lex hp.x)).k (by simp [pX_len]; omega) ho (fun ts h hl => ?_)
  simp only [List.length_cons, pkT_len] at hl
  obtain ⟨h1, h2⟩ := h
  obtain ⟨s1, s2, s3, s4, s5⟩ := stop_end (ts := ts) (k := 0 + 1 + us.length + 2) (by omega)
  rw [show ts.length = 0 + 1 + us.length + 2 by omega]
  exact sum_of_first (pk_neg hp.g h1 h2 (by omega) s1) (chT_end s2 s3) s4 s5
theorem lk_three : LexK [51] [(2, [51])] := by
  have h := lk_dec (v := 3) (by decide)
  rwa [show decDigits 3 = [51] from decDigits_one (by decide)] at h
theorem g8 (hp : Pt S us a) (hl : S.length ≤ 1000) (ho : okE (powE 3 a) = true) : exprR (pX S ++ [94, 51]) = ((0, 0, 0), some (powE 3 a)) := by
  refine gx_ok (ks := pkT us ++ [(3, [94]), (2, [51])]) ((pX_lex hp.x).sk ((y_sym (c := 94) (by decide)).sk lk_three)) (by simp [pX_len]; omega) ho (fun ts h hl => ?_)
  simp only [List.length_cons, List.length_append, List.length_nil, pkT_len] at hl
  obtain ⟨h1, h2⟩ := mt_app.1 h
  rw [pkT_len] at h2
  obtain ⟨h2, h3, _⟩ := h2
  rw [← Nat.add_assoc] at h2 h3
  obtain ⟨s1, s2, s3, s4, s5⟩ := stop_end (ts := ts) (k := 0 + us.length + 2 + 2) (by omega)
  rw [show ts.length = 0 + us.length + 2 + 2 by omega]
  exact sum_of_first (fst_fac (no_frac (pk_sub h1).2.1) (pk_pow hp.g h1 (by omega) h2 h3)) (chT_end s2 s3) s4 s5
theorem g9 (hp : Pt S us a) (hq : Pt U vs b) (hl : S.length ≤ 1000) (hl2 : U.length ≤ 1000) (ho : okE (opE 5 [opE 7 [powE 3 a], b]) = true) : exprR (45 :: (pX S ++ ([94, 51] ++ (42 :: pX U)))) = ((0, 0, 0), some (opE 5 [opE 7 [powE 3 a], b])) := by
  refine gx_ok (ks := (3, [45]) :: (pkT us ++ ((3, [94]) :: (2, [51]) :: (3, [42]) :: pkT vs)))
    (((y_sym (c := 45) (by decide)).s (pX_lex hp.x)).s (((y_sym (c := 94) (by decide)).sk lk_three).s (norun_cons (by decide)) (by simp) ((y_sym (c := 42) (by decide)).s (pX_lex hq.x)))).k (by simp [pX_len]; omega) ho (fun ts h hl => ?_)
  simp only [List.length_cons, List.length_append, pkT_len] at hl
  obtain ⟨h0, h⟩ := h
  obtain ⟨h1, h2⟩ := mt_app.1 h
  rw [pkT_len] at h2
  obtain ⟨h2, h3, h4, h5⟩ := h2
  rw [← Nat.add_assoc] at h2 h3 h4 h5
  obtain ⟨s1, s2, s3, s4, s5⟩ := stop_end (ts := ts) (k := 0 + 1 + us.length + 2 + 1 + 1 + 1 + vs.length + 2) (by omega)
  rw [show ts.length = 0 + 1 + us.length + 2 + 1 + 1 + 1 + vs.length + 2 by omega]
  exact sum_of_first (pk_npw hp.g h0 h1 (by omega) h2 h3) (chT_step (c := 5) h4 (.inl rfl) (pk_fac hq.g h5 (by omega) s1) (chT_end s2 s3)) s4 s5
theorem lk_fng {t : List UInt8} (h : wordP t = true) (hl : t.length ≤ 20) (hp : Pt S us a) : LexS (t ++ pX S) ((1, t) :: pkT us) := (lk_word h hl).s (norun_cons (by decide)) (by unfold pX; simp) (pX_lex hp.x)
theorem g10 (hp : Pt S us a) (hl : S.length ≤ 1000) (ho : okE (opE 9 [a]) = true) : exprR ([101, 120, 112] ++ pX S) = ((0, 0, 0), some (opE 9 [a])) := by
  refine gx_ok (ks := (1, [101, 120, 112]) :: pkT us) (lk_fng (by decide) (by decide) hp).k (by simp [pX_len]; omega) ho (fun ts h hl => ?_)
  simp only [List.length_cons, pkT_len] at hl
  obtain ⟨h1, h2⟩ := h
  obtain ⟨s1, s2, s3, s4, s5⟩ := stop_end (ts := ts) (k := 0 + 1 + us.length + 2) (by omega)
  rw [show ts.length = 0 + 1 + us.length + 2 by omega]
  exact sum_of_first (fst_fac (no_frac1 h1.1) (pk_fun (s := [101, 120, 112]) hp.g h1 (by decide) (by decide) h2 (by omega) s1)) (chT_end s2 s3) s4 s5
theorem g11 (hp : Pt S us a) (hq : Pt U vs b) (hl : S.length ≤ 1000) (hl2 : U.length ≤ 1000) (ho : okE (opE 3 [opE 13 [b], opE 10 [a]]) = true) : exprR ([115, 113, 114, 116] ++ pX U ++ (43 :: ([108, 111, 103] ++ pX S))) = ((0, 0, 0), some (opE 3 [opE 13 [b], opE 10 [a]])) := by
  refine gx_ok (ks := ((1, [115, 113, 114, 116]) :: pkT vs) ++ ((3, [43]) :: ((1, [108, 111, 103]) :: pkT us))) ((lk_fng (t := [115, 113, 114, 116]) (by decide) (by decide) hq).s ((y_sym (c := 43) (by decide)).s (lk_fng (t := [108, 111, 103]) (by decide) (by decide) hp))).k (by simp [pX_len]; omega) ho (fun ts h hl => ?_)
  simp only [List.length_cons, List.length_append, pkT_len] at hl
  obtain ⟨h0, h⟩ := h
  obtain ⟨h1, h2⟩ := mt_app.1 h
  rw [pkT_len] at h2
  obtain ⟨h2, h3, h4⟩ := h2
  rw [← Nat.add_assoc] at h2 h3 h4
  obtain ⟨s1, s2, s3, s4, s5⟩ := stop_end (ts := ts) (k := 0 + 1 + vs.length + 2 + 1 + 1 + us.length + 2) (by omega)
  rw [show ts.length = 0 + 1 + vs.length + 2 + 1 + 1 + us.length + 2 by omega]
  refine sum_step (term_step (fst_fac (no_frac1 h0.1) (pk_fun (s := [115, 113, 114, 116]) hq.g h0 (by decide) (by decide) h1 (by omega) (sym_no h2 (by decide)))) (chT_end (sym_no h2 (by decide)) (sym_no h2 (by decide)))) (chS_step (c := 3) h2 (.inl rfl) (term_step (fst_fac (no_frac1 h3.1) (pk_fun (s := [108, 111, 103]) hp.g h3 (by decide) (by decide) h4 (by omega) s1)) (chT_end s2 s3)) (chS_end s4 s5))
theorem g12 (hp : Pt S us a) (hq : Pt U vs b) (hl : S.length ≤ 1000) (hl2 : U.length ≤ 1000) (ho : okE (opE 5 [opE 11 [a], opE 12 [b]]) = true) : exprR ([115, 105, 110] ++ pX S ++ (42 :: ([99, 111, 115] ++ pX U))) = ((0, 0, 0), some (opE 5 [opE 11 [a], opE 12 [b]])) := by
  refine gx_ok (ks := ((1, [115, 105, 110]) :: pkT us) ++ ((3, [42]) :: ((1, [99, 111, 115]) :: pkT vs))) ((lk_fng (t := [115, 105, 110]) (by decide) (by decide) hp).s ((y_sym (c := 42) (by decide)).s (lk_fng (t := [99, 111, 115]) (by decide) (by decide) hq))).k (by simp [pX_len]; omega) ho (fun ts h hl => ?_)
  simp only [List.length_cons, List.length_append, pkT_len] at hl
  obtain ⟨h0, h⟩ := h
  obtain ⟨h1, h2⟩ := mt_app.1 h
  rw [pkT_len] at h2
  obtain ⟨h2, h3, h4⟩ := h2
  rw [← Nat.add_assoc] at h2 h3 h4
  obtain ⟨s1, s2, s3, s4, s5⟩ := stop_end (ts := ts) (k := 0 + 1 + us.length + 2 + 1 + 1 + vs.length + 2) (by omega)
  rw [show ts.length = 0 + 1 + us.length + 2 + 1 + 1 + vs.length + 2 by omega]
  exact sum_of_first (fst_fac (no_frac1 h0.1) (pk_fun (s := [115, 105, 110]) hp.g h0 (by decide) (by decide) h1 (by omega) (sym_no h2 (by decide)))) (chT_step (c := 5) h2 (.inl rfl) (pk_fun (s := [99, 111, 115]) hq.g h3 (by decide) (by decide) h4 (by omega) s1) (chT_end s2 s3)) s4 s5
end
end Go.Fl.Pa
