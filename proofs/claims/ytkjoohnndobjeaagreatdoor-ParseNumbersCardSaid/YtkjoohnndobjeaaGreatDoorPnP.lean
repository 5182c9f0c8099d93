/-
  The examples' texts of flowpipelaw14, and what they are read as.
-/
import Derived.Test.YtkjoohnndobjeaaGreatDoorPnA
set_option linter.unusedVariables false
namespace Go.Proofs.YtkjoohnndobjeaaGreatDoor
open Go.RowKit Go.Lib Go.Fl Go.Fl.Lx Go.Fl.Nm Go.Fl.Fm Go.Fl.Rt Go.Fl.Pa
theorem aw_third : exprR [49, 47, 51] = ((0, 0, 0), some (numE (1, 3))) := by
  have h := ex_quot (a := 1) (n := 1) (d := 3) (b := 3) (by decide) (by decide) (make_of_eq ⟨by decide, by decide, by decide, by decide, by decide⟩ (by decide) (by decide)) ⟨by decide, by decide, by decide, by decide, by decide⟩
  have e : itoa 1 ++ ([47] ++ decDigits 3) = [49, 47, 51] := by
    have e1 : itoa 1 = [49] := by
      unfold itoa
      rw [if_neg (by decide), show (1 : Int).toNat = 1 from rfl, decDigits_one (by decide)]
      rfl
    have e2 : decDigits 3 = [51] := by
      rw [decDigits_one (by decide)]
      rfl
    rw [e1, e2]
    rfl
  rw [e] at h
  exact h
def sqE : TE := opE 7 [powE 2 (varE [120])]
theorem cnt_one {nm : List UInt8 → Bool} {f x : Nat} {c : Int} {a : TE} (hc : 7 ≤ c ∧ c ≤ 13 ∧ c ≠ 8) (ha : cntR nm f a = x) : cntR nm (f + 1) (opE c [a]) = 1 + x := by
  unfold cntR
  rw [if_pos]
  · show goR (cntR nm f) [a] 1 = _
    unfold goR
    rw [if_pos (by omega), ha]
    rfl
  · show nodeB nm ⟨c, 0, 0, ⟨#[]⟩, 0⟩ 1 = true
    unfold nodeB
    rw [if_neg (by simp; omega), if_neg (by simp; omega), if_neg (by simp; omega)]
    have e : opsK c = 1 := by unfold opsK; rw [if_neg (by omega), if_pos (by omega)]
    rw [e, show (⟨#[]⟩ : ByteArray).toList.isEmpty = true by rw [ByteArray.toList_eq]; rfl]
    rfl
theorem cnt_pow {nm : List UInt8 → Bool} {f x v : Nat} {a : TE} (hv : v ≤ 16) (ha : cntR nm f a = x) : cntR nm (f + 1) (powE v a) = 1 + x := by
  unfold cntR
  rw [if_pos]
  · show goR (cntR nm f) [a] 1 = _
    unfold goR
    rw [if_pos (by omega), ha]
    rfl
  · show nodeB nm ⟨8, 0, 0, ⟨#[]⟩, v⟩ 1 = true
    unfold nodeB
    rw [if_neg (by simp), if_neg (by simp), if_pos (by simp)]
    rw [show (⟨#[]⟩ : ByteArray).toList.isEmpty = true by rw [ByteArray.toList_eq]; rfl]
    simp
    omega
theorem sq_ok : okE sqE = true := ok_cnt (cnt_one (by decide) (cnt_pow (by decide) (cx 17))) (by decide)
theorem aw_square : exprR [45, 120, 32, 94, 32, 50] = ((0, 0, 0), some sqE) := by
  have hb := ls_blank (c := 32) (by decide)
  have h2 : LexK [50] [(2, [50])] := by
    have := lk_dec (v := 2) (by decide)
    rw [decDigits_one (by decide)] at this
    exact this
  have hl : LexK [45, 120, 32, 94, 32, 50] [(3, [45]), (1, [120]), (3, [94]), (2, [50])] :=
    (ls_sym (c := 45) (by decide)).sk (lk_x.k (b := [32, 94, 32, 50]) (norun_cons (by decide)) (hb.sk ((ls_sym (c := 94) (by decide)).sk (hb.sk h2))))
  refine expr_of hl (by decide) (fun ts h1 h2 => ?_) sq_ok
  have hg := (txt20 sq_ok).1
  have ht : tkn 20 sqE = [(3, [45]), (1, [120]), (3, [94]), (2, [50])] := by
    rw [tkn_neg rfl]
    show (3, [45]) :: parT (needM (powE 2 (varE [120])).h) (tkn 19 (powE 2 (varE [120]))) = _
    rw [tkn_pow rfl]
    show (3, [45]) :: parT false (parT false (tkn 18 (varE [120])) ++ [(3, [94]), (2, itoa 2)]) = _
    rw [tkn_var rfl]
    have e : itoa 2 = [50] := by
      unfold itoa
      rw [if_neg (by decide), show (2 : Int).toNat = 2 from rfl, decDigits_one (by decide)]
      rfl
    rw [e]
    rfl
  rw [← ht] at h1 h2
  exact sum_read nameP_fn hg (by decide) h1 h2
/-- "x +" ends too early. -/
theorem aw_plus : exprR [120, 32, 43] = ((0, 0, 4), none) := by
  have hb := ls_blank (c := 32) (by decide)
  have hl : LexK [120, 32, 43] [(1, [120]), (3, [43])] := lk_x.k (b := [32, 43]) (norun_cons (by decide)) (hb.sk (ls_sym (c := 43) (by decide)).k)
  obtain ⟨ts, h1, h2, h3⟩ := hl.res (by decide)
  have h3' : ts.length = 2 := h3
  obtain ⟨m1, m2, _⟩ := h2
  have hk : (tk ts 2).kind = 0 := by
    unfold tk
    rw [List.getD_eq_getElem?_getD, List.getElem?_eq_none (by omega)]
    rfl
  have hS : ∀ s, isS false ts 2 s = false := fun s => end_no (by omega) s
  have hf : Ev fun F => termP nameP ts F 2 0 = .bad 0 0 4 := by
    refine ⟨6, fun F hF => ?_⟩
    obtain ⟨G, rfl⟩ : ∃ G, F = G + 6 := ⟨F - 6, by omega⟩
    have hfr : fracP ts 2 = false := by
      unfold fracP integerP
      rw [sign0 (hS _), Nat.add_zero, hk]
      rfl
    have he : encP nameP ts (G + 2) 2 0 = .bad 0 0 4 := by
      rw [encP, hS, if_neg (by decide)]
      unfold unex
      rw [if_pos (by omega)]
    have ha : atomP nameP ts (G + 3) 2 0 = .bad 0 0 4 := by
      rw [atomP, hk, if_neg (by decide), if_neg (by simp), if_neg (by simp), he]
    have hfa : factorP nameP ts (G + 4) 2 0 = .bad 0 0 4 := by
      rw [factorP, sign0 (hS _), Nat.add_zero, hk, if_neg (by simp), if_neg (by decide), ha]
    have hfi : firstP nameP ts (G + 5) 2 0 = .bad 0 0 4 := by
      rw [firstP, hfr, Bool.false_and, if_neg (by decide), hfa]
    rw [termP, hfi]
  have hx := first_var (nm := nameP) (ts := ts) (m := 0) m1 name_x (by rw [isS_sym (t := [43]) m2]; decide)
  have ht := term_step hx (chT_end (by rw [isS_sym (t := [43]) m2]; decide) (by rw [isS_sym (t := [43]) m2]; decide))
  have hc : Ev fun F => chS nameP ts F (varE [120]) 1 0 = .bad 0 0 4 := by
    refine ev_s1 (fun F h => ?_) hf
    rw [chS, if_pos ⟨m2.1, .inl m2.2⟩, h]
  have hs := ev_sum (sum_step ht hc) (f := 8 * ts.length + 8) (by omega)
  unfold exprR runR
  rw [h1]
  show runS ts okE (sumP nameP ts (8 * ts.length + 8) 0 0) = _
  rw [hs]
  rfl
/-- "x ) y" is wrong at its second token. -/
theorem aw_paren : exprR [120, 32, 41, 32, 121] = ((1, 3, 3), none) := by
  have h1 : lexRes [120, 32, 41, 32, 121] = .ok [⟨1, [120], 1, 1⟩, ⟨3, [41], 1, 3⟩, ⟨1, [121], 1, 5⟩] := by
    unfold lexRes
    rw [if_neg (by decide), split_run _ _ _ (by decide) (by decide)]
    have e1 : ([32, 41, 32, 121] : List UInt8).dropWhile inRun = [32, 41, 32, 121] := by decide
    rw [e1, split_blank _ _ _ (by decide), split_sym _ _ _ (by decide), split_blank _ _ _ (by decide), split_run _ _ _ (by decide) (by decide)]
    have e2 : ([] : List UInt8).dropWhile inRun = [] := rfl
    rw [e2, split_nil]
    rfl
  obtain ⟨ts, hts⟩ : ∃ ts : List Tok, ts = [⟨1, [120], 1, 1⟩, ⟨3, [41], 1, 3⟩, ⟨1, [121], 1, 5⟩] := ⟨_, rfl⟩
  rw [← hts] at h1
  have m1 : (tk ts 0).kind = 1 ∧ (tk ts 0).text = [120] := by rw [hts]; exact ⟨rfl, rfl⟩
  have m2 : (tk ts 1).kind = 3 ∧ (tk ts 1).text = [41] := by rw [hts]; exact ⟨rfl, rfl⟩
  have hn : ∀ s, ([41] == s) = false → isS false ts 1 s = false := fun s h => by rw [isS_sym (t := [41]) m2, h]
  have hx := first_var (nm := nameP) (ts := ts) (m := 0) m1 name_x (hn _ (by decide))
  have hs := ev_sum (sum_of_first hx (chT_end (hn _ (by decide)) (hn _ (by decide))) (hn _ (by decide)) (hn _ (by decide))) (f := 8 * ts.length + 8) (by omega)
  unfold exprR runR
  rw [h1]
  show runS ts okE (sumP nameP ts (8 * ts.length + 8) 0 0) = _
  rw [hs, hts]
  rfl
end Go.Proofs.YtkjoohnndobjeaaGreatDoor
