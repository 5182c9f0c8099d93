/-
  What the texts of ParseNumbers are read as, in plain Lean. No program in sight.
-/
import Derived.Test.YtkjoohnndobjeaaGreatDoorQM
set_option linter.unusedVariables false
namespace Go.Fl.Pa
open Go.Lib Go.Fl.Lx Go.Fl.Fm Go.Fl.Rt
theorem good_num {nm : List UInt8 → Bool} {n d : Int} (h : valid n d) (f : Nat) : good nm (f + 1) (numE (n, d)) := by
  refine ⟨?_, fun x hx => by cases hx⟩
  show nodeB nm ⟨1, n, d, ⟨#[]⟩, 0⟩ 0 = true
  unfold nodeB
  rw [if_pos (by simp)]
  simp only [decide_eq_true h]
  rw [show (⟨#[]⟩ : ByteArray).toList.isEmpty = true by rw [ByteArray.toList_eq]; rfl]
  rfl
theorem numT_pos {b : Int} (h : 0 < b) : numT b 1 = [(2, decDigits b.natAbs)] := by
  unfold numT
  rw [if_neg (by omega), if_pos rfl]
  rfl
theorem valid_int {n : Int} (h : -(MX : Int) ≤ n ∧ n ≤ MX) : valid n 1 := ⟨by decide, by decide, h.1, h.2, Nat.gcd_one_right _⟩
section
variable {nm : List UInt8 → Bool} {ts : List Tok}
theorem end_no {k : Nat} (h : ts.length ≤ k) (s : List UInt8) : isS false ts k s = false := isS_no3 (by
  unfold tk
  rw [List.getD_eq_getElem?_getD, List.getElem?_eq_none h]
  decide)
/-- A quotient of integers, lowest or not. -/
theorem quot_make {a b n d : Int} {k : Nat} (h : Mt ts k (numT a 1)) (h2 : Mt ts (k + (numT a 1).length) [(3, [47]), (2, decDigits b.natAbs)]) (ha : -(MX : Int) ≤ a ∧ a ≤ MX) (hb : 0 < b ∧ b ≤ MX) (hm : make a b = (n, d, 0)) :
    fracP ts k = true ∧ signP ts k + 1 = (numT a 1).length ∧ quotP ts k = .ok (n, d) (k + (numT a 1).length + 2) := by
  obtain ⟨h1, _, h3, _⟩ := num_first h
  have hn := num_head h ha
  have hlen : signP ts k + 1 = (numT a 1).length := by rw [num_len, h1, if_pos rfl]
  rw [← hlen, ← Nat.add_assoc] at h2
  have hs : isS false ts (k + signP ts k + 1) [47] = true := by rw [isS_sym h2.1]; decide
  have h5 : (tk ts (k + signP ts k + 2)).kind = 2 ∧ (tk ts (k + signP ts k + 2)).text = decDigits b.natAbs := h2.2.1
  refine ⟨?_, hlen, ?_⟩
  · unfold fracP
    rw [int_dec h3, hs, int_dec h5]
    rfl
  · unfold quotP
    rw [hn]
    simp only [PR.bind]
    have hdd : ((b.natAbs : Nat) : Int) = b := by omega
    rw [hs, if_neg (by decide), show k + signP ts k + 1 + 1 = k + signP ts k + 2 from rfl, h5.2, read_dec (by omega), if_neg (by simp)]
    simp only [hdd, hm]
    rw [if_neg (by simp)]
    exact ok_eq rfl (by omega)
theorem first_quot {a b n d : Int} {k m : Nat} (h : Mt ts k (numT a 1)) (h2 : Mt ts (k + (numT a 1).length) [(3, [47]), (2, decDigits b.natAbs)]) (ha : -(MX : Int) ≤ a ∧ a ≤ MX) (hb : 0 < b ∧ b ≤ MX) (hm : make a b = (n, d, 0))
    (hx : isS false ts (k + (numT a 1).length + 2) [94] = false) : Ev fun F => firstP nm ts F k m = .ok (numE (n, d)) (k + (numT a 1).length + 2) := by
  obtain ⟨q1, q2, q3⟩ := quot_make h h2 ha hb hm
  exact fst_quot q1 (by rw [← hx]; congr 1; omega) q3
/-- An integer as a factor. -/
theorem factor_int {a : Int} {k m : Nat} (h : Mt ts k (numT a 1)) (ha : -(MX : Int) ≤ a ∧ a ≤ MX) (hx : isS false ts (k + (numT a 1).length) [94] = false) :
    Ev fun F => factorP nm ts F k m = .ok (numE (a, 1)) (k + (numT a 1).length) := by
  obtain ⟨h1, _, h3, _⟩ := num_first h
  have hlen : k + (numT a 1).length = k + signP ts k + 1 := by rw [num_len, h1, if_pos rfl]; omega
  rw [hlen] at hx ⊢
  exact fac_num h3.1 hx (num_head h ha)
theorem factor_var {s : List UInt8} {k m : Nat} (h : (tk ts k).kind = 1 ∧ (tk ts k).text = s) (hn : nm s = true) (hx : isS false ts (k + 1) [94] = false) : Ev fun F => factorP nm ts F k m = .ok (varE s) (k + 1) :=
  fac_atom (isS_no3 (by omega)) (fun e => by omega) hx (atom_var h hn)
theorem first_var {s : List UInt8} {k m : Nat} (h : (tk ts k).kind = 1 ∧ (tk ts k).text = s) (hn : nm s = true) (hx : isS false ts (k + 1) [94] = false) : Ev fun F => firstP nm ts F k m = .ok (varE s) (k + 1) := by
  refine fst_fac ?_ (factor_var h hn hx)
  unfold fracP
  rw [sign0 (isS_no3 (by omega)), Nat.add_zero, int_kind (by omega)]
  rfl
/-- A sum in parentheses as a factor. -/
theorem factor_par {k k1 m : Nat} {T : TE} (h : (tk ts k).kind = 3 ∧ (tk ts k).text = [40]) (hm : m ≠ 100) (h2 : (tk ts k1).kind = 3 ∧ (tk ts k1).text = [41]) (hx : isS false ts (k1 + 1) [94] = false)
    (hs : Ev fun F => sumP nm ts F (k + 1) (m + 1) = .ok T k1) : Ev fun F => factorP nm ts F k m = .ok T (k1 + 1) :=
  fac_atom (by rw [isS_sym h]; decide) (fun e => by omega) hx (atom_par h.1 (enc_ok (by rw [isS_sym h]; decide) hm (by rw [isS_sym h2]; decide) hs))
theorem first_par {k k1 m : Nat} {T : TE} (h : (tk ts k).kind = 3 ∧ (tk ts k).text = [40]) (hm : m ≠ 100) (h2 : (tk ts k1).kind = 3 ∧ (tk ts k1).text = [41]) (hx : isS false ts (k1 + 1) [94] = false)
    (hs : Ev fun F => sumP nm ts F (k + 1) (m + 1) = .ok T k1) : Ev fun F => firstP nm ts F k m = .ok T (k1 + 1) := by
  refine fst_fac ?_ (factor_par h hm h2 hx hs)
  unfold fracP
  rw [sign0 (by rw [isS_sym h]; decide), Nat.add_zero, int_kind (by omega)]
  rfl
/-- A chain of products that ends the sum, where no sum follows. -/
theorem sum_of_first {k k1 m : Nat} {e T : TE} {k2 : Nat} (h1 : Ev fun F => firstP nm ts F k m = .ok e k1) (h2 : Ev fun F => chT nm ts F e k1 m = .ok T k2) (h3 : isS false ts k2 [43] = false) (h4 : isS false ts k2 [45] = false) :
    Ev fun F => sumP nm ts F k m = .ok T k2 :=
  sum_step (term_step h1 h2) (chS_end h3 h4)
theorem int_first {a : Int} {k m : Nat} (h : Mt ts k (numT a 1)) (ha : -(MX : Int) ≤ a ∧ a ≤ MX) (hx : isS false ts (k + (numT a 1).length) [94] = false) (hq : isS false ts (k + (numT a 1).length) [47] = false) :
    Ev fun F => firstP nm ts F k m = .ok (numE (a, 1)) (k + (numT a 1).length) := by
  refine fst_fac ?_ (factor_int h ha hx)
  obtain ⟨h1, _, h3, _⟩ := num_first h
  have hlen : k + (numT a 1).length = k + signP ts k + 1 := by rw [num_len, h1, if_pos rfl]; omega
  rw [hlen] at hq
  unfold fracP
  rw [hq]
  simp
end
section
variable {nm : List UInt8 → Bool} {ts : List Tok} {a b n d : Int} (ha : -(MX : Int) ≤ a ∧ a ≤ MX) (hb : 0 < b ∧ b ≤ MX) (hx : nm [120] = true)
include ha hb
theorem read_quot (hm : make a b = (n, d, 0)) (h : Mt ts 0 (numT a 1 ++ [(3, [47]), (2, decDigits b.natAbs)])) (hl : ts.length = (numT a 1 ++ [(3, [47]), (2, decDigits b.natAbs)]).length) :
    Ev fun F => sumP nm ts F 0 0 = .ok (numE (n, d)) ts.length := by
  rw [List.length_append] at hl
  have h2 := mt_app.1 h
  have e : 0 + (numT a 1).length + 2 = ts.length := by rw [hl]; simp
  have hf := first_quot (nm := nm) (m := 0) h2.1 h2.2 ha hb hm (end_no (by omega) _)
  rw [e] at hf
  exact sum_of_first hf (chT_end (end_no (Nat.le_refl _) _) (end_no (Nat.le_refl _) _)) (end_no (Nat.le_refl _) _) (end_no (Nat.le_refl _) _)
include hx
theorem read_qx (hm : make a b = (n, d, 0)) (h : Mt ts 0 (numT a 1 ++ [(3, [47]), (2, decDigits b.natAbs), (3, [42]), (1, [120])])) (hl : ts.length = (numT a 1 ++ [(3, [47]), (2, decDigits b.natAbs), (3, [42]), (1, [120])]).length) :
    Ev fun F => sumP nm ts F 0 0 = .ok (opE 5 [numE (n, d), varE [120]]) ts.length := by
  rw [List.length_append] at hl
  have h2 := mt_app.1 h
  obtain ⟨h3, m1, m2, m3, m4, _⟩ := h2
  have hf := first_quot (nm := nm) (m := 0) h3 ⟨m1, m2, trivial⟩ ha hb hm (by rw [isS_sym (t := [42]) m3]; decide)
  have e : 0 + (numT a 1).length + 1 + 1 + 1 + 1 = ts.length := by rw [hl]; simp
  have hv := factor_var (nm := nm) (m := 0) m4 hx (end_no (by omega) _)
  refine sum_of_first hf (chT_step (c := 5) m3 (.inl rfl) hv ?_) (end_no (Nat.le_refl _) _) (end_no (Nat.le_refl _) _)
  rw [e]
  exact chT_end (end_no (Nat.le_refl _) _) (end_no (Nat.le_refl _) _)
theorem read_xsq (h : Mt ts 0 ((1, [120]) :: (3, [42]) :: (numT a 1 ++ [(3, [47]), (2, decDigits b.natAbs)]))) (hl : ts.length = ((1, [120]) :: (3, [42]) :: (numT a 1 ++ [(3, [47]), (2, decDigits b.natAbs)])).length) :
    Ev fun F => sumP nm ts F 0 0 = .ok (opE 6 [opE 5 [varE [120], numE (a, 1)], numE (b, 1)]) ts.length := by
  rw [List.length_cons, List.length_cons, List.length_append] at hl
  obtain ⟨m1, m2, h3⟩ := h
  obtain ⟨h4, m3, m4, _⟩ := mt_app.1 h3
  have hf := first_var (nm := nm) (m := 0) m1 hx (by rw [isS_sym (t := [42]) m2]; decide)
  have hi := factor_int (nm := nm) (m := 0) h4 ha (by rw [isS_sym (t := [47]) m3]; decide)
  have e : 0 + 1 + 1 + (numT a 1).length + 1 + 1 = ts.length := by rw [hl]; simp; omega
  have hbT : Mt ts (0 + 1 + 1 + (numT a 1).length + 1) (numT b 1) := by
    rw [numT_pos hb.1]
    exact ⟨m4, trivial⟩
  have hbl : (numT b 1).length = 1 := by rw [num_len, if_neg (by omega), if_pos rfl]
  have hj := factor_int (nm := nm) (m := 0) hbT (by omega) (by rw [hbl]; exact end_no (by omega) _)
  rw [hbl] at hj
  refine sum_of_first hf (chT_step (c := 5) m2 (.inl rfl) hi (chT_step (c := 6) m3 (.inr rfl) hj ?_)) (end_no (Nat.le_refl _) _) (end_no (Nat.le_refl _) _)
  rw [e]
  exact chT_end (end_no (Nat.le_refl _) _) (end_no (Nat.le_refl _) _)
omit hx in
theorem read_psq (h : Mt ts 0 ((3, [40]) :: (numT a 1 ++ [(3, [41]), (3, [47]), (2, decDigits b.natAbs)]))) (hl : ts.length = ((3, [40]) :: (numT a 1 ++ [(3, [41]), (3, [47]), (2, decDigits b.natAbs)])).length) :
    Ev fun F => sumP nm ts F 0 0 = .ok (opE 6 [numE (a, 1), numE (b, 1)]) ts.length := by
  rw [List.length_cons, List.length_append] at hl
  obtain ⟨m1, h3⟩ := h
  obtain ⟨h4, m2, m3, m4, _⟩ := mt_app.1 h3
  have hi := int_first (nm := nm) (m := 1) h4 ha (by rw [isS_sym (t := [41]) m2]; decide) (by rw [isS_sym (t := [41]) m2]; decide)
  have hs := sum_of_first hi (chT_end (by rw [isS_sym (t := [41]) m2]; decide) (by rw [isS_sym (t := [41]) m2]; decide)) (by rw [isS_sym (t := [41]) m2]; decide) (by rw [isS_sym (t := [41]) m2]; decide)
  have hf := first_par (nm := nm) (m := 0) m1 (by decide) m2 (by rw [isS_sym (t := [47]) m3]; decide) hs
  have e : 0 + 1 + (numT a 1).length + 1 + 1 + 1 = ts.length := by rw [hl]; simp; omega
  have hbT : Mt ts (0 + 1 + (numT a 1).length + 1 + 1) (numT b 1) := by
    rw [numT_pos hb.1]
    exact ⟨m4, trivial⟩
  have hbl : (numT b 1).length = 1 := by rw [num_len, if_neg (by omega), if_pos rfl]
  have hj := factor_int (nm := nm) (m := 0) hbT (by omega) (by rw [hbl]; exact end_no (by omega) _)
  rw [hbl] at hj
  refine sum_of_first hf (chT_step (c := 6) m3 (.inr rfl) hj ?_) (end_no (Nat.le_refl _) _) (end_no (Nat.le_refl _) _)
  rw [e]
  exact chT_end (end_no (Nat.le_refl _) _) (end_no (Nat.le_refl _) _)
theorem read_xpq (hm : make a b = (n, d, 0)) (h : Mt ts 0 ((1, [120]) :: (3, [42]) :: (3, [40]) :: (numT a 1 ++ [(3, [47]), (2, decDigits b.natAbs), (3, [41])]))) (hl : ts.length = ((1, [120]) :: (3, [42]) :: (3, [40]) :: (numT a 1 ++ [(3, [47]), (2, decDigits b.natAbs), (3, [41])])).length) :
    Ev fun F => sumP nm ts F 0 0 = .ok (opE 5 [varE [120], numE (n, d)]) ts.length := by
  rw [List.length_cons, List.length_cons, List.length_cons, List.length_append] at hl
  obtain ⟨m1, m2, m3, h3⟩ := h
  obtain ⟨h4, m4, m5, m6, _⟩ := mt_app.1 h3
  have hq := first_quot (nm := nm) (m := 1) h4 ⟨m4, m5, trivial⟩ ha hb hm (by rw [isS_sym (t := [41]) m6]; decide)
  have hs := sum_of_first hq (chT_end (by rw [isS_sym (t := [41]) m6]; decide) (by rw [isS_sym (t := [41]) m6]; decide)) (by rw [isS_sym (t := [41]) m6]; decide) (by rw [isS_sym (t := [41]) m6]; decide)
  have e : 0 + 1 + 1 + 1 + (numT a 1).length + 1 + 1 + 1 = ts.length := by rw [hl]; simp; omega
  have hp := factor_par (nm := nm) (m := 0) m3 (by decide) m6 (end_no (by omega) _) hs
  have hf := first_var (nm := nm) (m := 0) m1 hx (by rw [isS_sym (t := [42]) m2]; decide)
  refine sum_of_first hf (chT_step (c := 5) m2 (.inl rfl) hp ?_) (end_no (Nat.le_refl _) _) (end_no (Nat.le_refl _) _)
  have e2 : 0 + 1 + 1 + 1 + (numT a 1).length + 2 + 1 = ts.length := e
  rw [e2]
  exact chT_end (end_no (Nat.le_refl _) _) (end_no (Nat.le_refl _) _)
end
theorem read_ttt {nm : List UInt8 → Bool} {ts : List Tok} {b : Int} (hb : 0 < b ∧ b ≤ MX) (h : Mt ts 0 [(2, decDigits b.natAbs), (3, [47]), (2, decDigits b.natAbs), (3, [47]), (2, decDigits b.natAbs)]) (hl : ts.length = 5) :
    Ev fun F => sumP nm ts F 0 0 = .ok (opE 6 [numE (1, 1), numE (b, 1)]) ts.length := by
  obtain ⟨m1, m2, m3, m4, m5, _⟩ := h
  have hbl : (numT b 1).length = 1 := by rw [num_len, if_neg (by omega), if_pos rfl]
  have hbT : ∀ k, ((tk ts k).kind = 2 ∧ (tk ts k).text = decDigits b.natAbs) → Mt ts k (numT b 1) := fun k hk => by
    rw [numT_pos hb.1]
    exact ⟨hk, trivial⟩
  have hmk : make b b = (1, 1, 0) := make_of_eq (valid_int (by decide)) (by omega) (by omega)
  have hq := first_quot (nm := nm) (m := 0) (hbT 0 m1) (by rw [hbl]; exact ⟨m2, m3, trivial⟩) (by omega) hb hmk (by rw [hbl, isS_sym (t := [47]) m4]; decide)
  rw [hbl] at hq
  have hj := factor_int (nm := nm) (m := 0) (hbT 4 m5) (by omega) (by rw [hbl]; exact end_no (by omega) _)
  rw [hbl] at hj
  refine sum_of_first hq (chT_step (c := 6) m4 (.inr rfl) hj ?_) (end_no (Nat.le_refl _) _) (end_no (Nat.le_refl _) _)
  rw [hl]
  exact chT_end (end_no (by omega) _) (end_no (by omega) _)
end Go.Fl.Pa
