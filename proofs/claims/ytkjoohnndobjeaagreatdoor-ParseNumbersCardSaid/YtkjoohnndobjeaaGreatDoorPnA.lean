/-
  The texts of ParseNumbers, and what they are read as.
-/
import Derived.Test.YtkjoohnndobjeaaGreatDoorPaNp
import Derived.Test.YtkjoohnndobjeaaGreatDoorPfA
set_option linter.unusedVariables false
namespace Go.Fl.Pa
open Go.Lib Go.Fl.Lx Go.Fl.Fm Go.Fl.Rt
theorem digs_dot {b : Nat} : digs (decDigits b) = true ∧ digs [53] = true := ⟨dec_digs b, by decide⟩
/-- A number and a half. -/
theorem read_half {b : Nat} (hb : b ≤ 65535) : read1 (decDigits b ++ [46, 53]) = (((2 * b + 1 : Nat) : Int), 2, 0) := by
  have hne : decDigits b ≠ [] := dec_ne b
  have h45 : ((decDigits b ++ [46, 53]).head? == some 45) = false := by
    rw [beq_eq_false_iff_ne]
    exact head_dec b _
  have h46 : (46 : UInt8) ∉ decDigits b := dec_no b (by decide)
  have hlen : (decDigits b).length ≤ 10 := dec_len9 (by unfold MX; omega)
  have hL : read1 (decDigits b ++ [46, 53]) = make ((dval (decDigits b ++ [53]) : Nat) : Int) ((10 ^ 1 : Nat) : Int) := by
    unfold read1
    simp only [h45, Bool.false_eq_true, if_false, cut_some h46, if_true, digs_dot.1]
    rw [if_neg (by rw [show digs [53] = true by decide]; simp), if_neg (by simp; omega)]
    rfl
  rw [hL, dval_snoc, dval_dec]
  refine make_of_eq ⟨by decide, by decide, by unfold MX; omega, by unfold MX; omega, ?_⟩ (by decide) ?_
  · show Nat.gcd (2 * b + 1) 2 = 1
    rw [Nat.gcd_comm, Nat.gcd_rec]
    have : (2 * b + 1) % 2 = 1 := by omega
    rw [this]
    rfl
  · have : ((53 : UInt8).toNat - 48) = 5 := rfl
    rw [this]
    omega
theorem lk_half {b : Nat} (hb : b ≤ 65535) : LexK (decDigits b ++ [46, 53]) [(2, decDigits b ++ [46, 53])] := by
  have hd : (decDigits b).all isDigit = true := by
    have := dec_digits b
    rw [List.all_eq_true] at this ⊢
    intro c hc
    rw [← dig_eq]
    exact this c hc
  have hlen : (decDigits b).length ≤ 10 := dec_len9 (by unfold MX; omega)
  have h46 : (46 : UInt8) ∉ decDigits b := dec_no b (by decide)
  have hne : decDigits b ≠ [] := dec_ne b
  have hrun : ∀ c ∈ decDigits b ++ [46, 53], inRun c = true := fun c hc => by
    rcases List.mem_append.1 hc with h | h
    · have := List.all_eq_true.1 hd c h
      unfold inRun
      rw [this]
      simp
    · rcases List.mem_cons.1 h with rfl | h
      · decide
      · rw [List.mem_singleton.1 h]
        decide
  refine lk_run (by simp) hrun ?_
  obtain ⟨t1, t2⟩ := tw_stop (p := (· != 46)) (a := decDigits b) (b := [53]) (c := 46) (fun x hx => by simp; exact fun e => h46 (e ▸ hx)) (by simp)
  have hdp : digitsP (decDigits b) = true := by
    unfold digitsP
    rw [hd]
    cases h : decDigits b with
    | nil => exact absurd h hne
    | cons x l => rfl
  have hn : numN (decDigits b ++ [46, 53]) = (decDigits b).length + 1 := by
    unfold numN
    rw [t2, t1]
    simp only [hdp, Bool.true_and]
    rw [if_pos (by decide)]
    rfl
  have hw : wordP (decDigits b ++ [46, 53]) = false := by
    have h1 : (decDigits b ++ [46, 53]).all inWord = false := by
      rw [List.all_eq_false]
      exact ⟨46, by simp, by decide⟩
    unfold wordP
    rw [h1]
    exact Bool.and_false _
  unfold kindOf
  rw [hw, hn, if_neg (by simp; omega), if_neg (by simp), if_pos (by omega)]
theorem cnt_num {nm : List UInt8 → Bool} {n d : Int} (h : valid n d) (f : Nat) : cntR nm (f + 1) (numE (n, d)) = 1 := by
  unfold cntR
  rw [if_pos (good_num h f).1]
  rfl
theorem cnt_var {nm : List UInt8 → Bool} {s : List UInt8} (h : nm s = true) (f : Nat) : cntR nm (f + 1) (varE s) = 1 := by
  unfold cntR
  rw [if_pos]
  · rfl
  · show nodeB nm ⟨2, 0, 0, ⟨s.toArray⟩, 0⟩ 0 = true
    unfold nodeB
    rw [if_neg (by simp), if_pos (by simp)]
    simp [h]
theorem cnt_op {nm : List UInt8 → Bool} {f x y : Nat} {c : Int} {a b : TE} (hc : 3 ≤ c ∧ c ≤ 6) (ha : cntR nm f a = x) (hb : cntR nm f b = y) (hx : x ≤ 190) : cntR nm (f + 1) (opE c [a, b]) = 1 + x + y := by
  unfold cntR
  rw [if_pos]
  · show goR (cntR nm f) [a, b] 1 = _
    unfold goR
    rw [if_pos (by omega), ha]
    unfold goR
    rw [if_pos (by omega), hb]
    rfl
  · show nodeB nm ⟨c, 0, 0, ⟨#[]⟩, 0⟩ 2 = true
    unfold nodeB
    rw [if_neg (by simp; omega), if_neg (by simp; omega), if_neg (by simp; omega)]
    have e : opsK c = 2 := by unfold opsK; rw [if_pos hc]
    rw [e, show (⟨#[]⟩ : ByteArray).toList.isEmpty = true by rw [ByteArray.toList_eq]; rfl]
    rfl
end Go.Fl.Pa
namespace Go.Proofs.YtkjoohnndobjeaaGreatDoor
open Go.RowKit Go.Lib Go.Fl Go.Fl.Lx Go.Fl.Nm Go.Fl.Fm Go.Fl.Rt Go.Fl.Pa
theorem ok_cnt {T : TE} {x : Nat} (h : cntR nameP 20 T = x) (hx : x ≤ 200) : okE T = true := okE_iff.2 (by show cntR nameP 20 T ≤ 200; omega)
theorem ok_num {n d : Int} (h : valid n d) : okE (numE (n, d)) = true := ok_cnt (cnt_num h 19) (by decide)
theorem name_x : nameP [120] = true := by decide
theorem cx (f : Nat) : cntR nameP (f + 1) (varE [120]) = 1 := cnt_var name_x f
theorem expr_of {l : List UInt8} {ks : List (Nat × List UInt8)} {T : TE} (hl : LexK l ks) (hlen : l.length ≤ 65536) (hr : ∀ ts, Mt ts 0 ks → ts.length = ks.length → Ev fun F => sumP nameP ts F 0 0 = .ok T ts.length) (hok : okE T = true) : exprR l = ((0, 0, 0), some T) := by
  obtain ⟨ts, h1, h2, h3⟩ := hl.res hlen
  exact expr_ok h1 (ev_sum (hr ts h2 h3) (by omega)) hok
theorem lk_itoa {a : Int} (h : -(MX : Int) ≤ a ∧ a ≤ MX) : LexK (itoa a) (numT a 1) := by
  have := lk_num (valid_int h)
  unfold textR at this
  rw [if_pos rfl, List.append_nil] at this
  exact this
theorem o_div : LexS [32, 47, 32] [(3, [47])] := (lk_op (k := 6) (by decide)).1
theorem o_mul : LexS [32, 42, 32] [(3, [42])] := (lk_op (k := 5) (by decide)).1
theorem lk_x : LexK [120] [(1, [120])] := lk_word (by decide) (by decide)
theorem itoa_len {a : Int} (h : -(MX : Int) ≤ a ∧ a ≤ MX) : (itoa a).length ≤ 11 := by
  unfold itoa
  have := dec_len9 (v := a.natAbs) (by omega)
  split
  · rw [List.length_cons]; omega
  · rw [show a.toNat = a.natAbs by omega]; omega
section
variable {a n d : Int} {b : Nat} (ha : -(MX : Int) ≤ a ∧ a ≤ MX) (hb : 0 < b ∧ b ≤ MX) (hm : make a b = (n, d, 0)) (hv : valid n d)
include ha
theorem ex_int : exprR (itoa a) = ((0, 0, 0), some (numE (a, 1))) := by
  have h := expr_txt (ok_num (valid_int ha))
  rw [txt, if_pos (show (numE (a, 1)).h.kind = 1 from rfl)] at h
  have e : textR (numE (a, 1)).h.n (numE (a, 1)).h.d = itoa a := by
    show itoa a ++ (if (1 : Int) = 1 then [] else _) = _
    rw [if_pos rfl, List.append_nil]
  rw [e] at h
  exact h
include hb
include hm hv
theorem ex_quot : exprR (itoa a ++ ([47] ++ decDigits b)) = ((0, 0, 0), some (numE (n, d))) := by
  have hbI : 0 < (b : Int) ∧ (b : Int) ≤ MX := by omega
  have hl1 := itoa_len ha
  have hl2 := dec_len9 hb.2
  refine expr_of ((lk_itoa ha).k (norun_cons (by decide)) ((ls_sym (c := 47) (by decide)).sk (lk_dec hb.2))) (by simp; omega) (fun ts h1 h2 => ?_) (ok_num hv)
  exact read_quot ha hbI hm h1 h2
theorem ex_qx : exprR (itoa a ++ ([32, 47, 32] ++ (decDigits b ++ ([32, 42, 32] ++ [120])))) = ((0, 0, 0), some (opE 5 [numE (n, d), varE [120]])) := by
  have hbI : 0 < (b : Int) ∧ (b : Int) ≤ MX := by omega
  have hl1 := itoa_len ha
  have hl2 := dec_len9 hb.2
  refine expr_of ((lk_itoa ha).k (norun_cons (by decide)) (o_div.sk ((lk_dec hb.2).k (norun_cons (by decide)) (o_mul.sk lk_x)))) (by simp; omega) (fun ts h1 h2 => ?_) (ok_cnt (cnt_op (by decide) (cnt_num hv 18) (cx 18) (by decide)) (by decide))
  exact read_qx ha hbI name_x hm h1 h2
theorem ex_xpq : exprR ([120] ++ ([32, 42, 32] ++ ([40] ++ (itoa a ++ ([47] ++ (decDigits b ++ [41])))))) = ((0, 0, 0), some (opE 5 [varE [120], numE (n, d)])) := by
  have hbI : 0 < (b : Int) ∧ (b : Int) ≤ MX := by omega
  have hl1 := itoa_len ha
  have hl2 := dec_len9 hb.2
  refine expr_of (lk_x.k (norun_cons (by decide)) (o_mul.sk ((ls_sym (c := 40) (by decide)).sk ((lk_itoa ha).k (norun_cons (by decide)) ((ls_sym (c := 47) (by decide)).sk ((lk_dec hb.2).k (norun_cons (by decide)) (ls_sym (c := 41) (by decide)).k)))))) (by simp; omega) (fun ts h1 h2 => ?_) (ok_cnt (cnt_op (by decide) (cx 18) (cnt_num hv 18) (by decide)) (by decide))
  exact read_xpq ha hbI name_x hm h1 h2
omit hm hv
theorem ex_xsq : exprR ([120] ++ ([32, 42, 32] ++ (itoa a ++ ([32, 47, 32] ++ decDigits b)))) = ((0, 0, 0), some (opE 6 [opE 5 [varE [120], numE (a, 1)], numE ((b : Int), 1)])) := by
  have hbI : 0 < (b : Int) ∧ (b : Int) ≤ MX := by omega
  have hl1 := itoa_len ha
  have hl2 := dec_len9 hb.2
  refine expr_of (lk_x.k (norun_cons (by decide)) (o_mul.sk ((lk_itoa ha).k (norun_cons (by decide)) (o_div.sk (lk_dec hb.2))))) (by simp; omega) (fun ts h1 h2 => ?_) (ok_cnt (cnt_op (by decide) (cnt_op (by decide) (cx 17) (cnt_num (valid_int ha) 17) (by decide)) (cnt_num (valid_int (by omega)) 18) (by decide)) (by decide))
  exact read_xsq ha hbI name_x h1 h2
theorem ex_psq : exprR ([40] ++ (itoa a ++ ([41] ++ ([32, 47, 32] ++ decDigits b)))) = ((0, 0, 0), some (opE 6 [numE (a, 1), numE ((b : Int), 1)])) := by
  have hbI : 0 < (b : Int) ∧ (b : Int) ≤ MX := by omega
  have hl1 := itoa_len ha
  have hl2 := dec_len9 hb.2
  refine expr_of ((ls_sym (c := 40) (by decide)).sk ((lk_itoa ha).k (norun_cons (by decide)) ((ls_sym (c := 41) (by decide)).sk (o_div.sk (lk_dec hb.2))))) (by simp; omega) (fun ts h1 h2 => ?_) (ok_cnt (cnt_op (by decide) (cnt_num (valid_int ha) 18) (cnt_num (valid_int (by omega)) 18) (by decide)) (by decide))
  exact read_psq ha hbI h1 h2
end
theorem ex_ttt {b : Nat} (hb : 0 < b ∧ b ≤ MX) : exprR (decDigits b ++ ([32, 47, 32] ++ (decDigits b ++ ([32, 47, 32] ++ decDigits b)))) = ((0, 0, 0), some (opE 6 [numE (1, 1), numE ((b : Int), 1)])) := by
  have hbI : 0 < (b : Int) ∧ (b : Int) ≤ MX := by omega
  have hl2 := dec_len9 hb.2
  refine expr_of ((lk_dec hb.2).k (norun_cons (by decide)) (o_div.sk ((lk_dec hb.2).k (norun_cons (by decide)) (o_div.sk (lk_dec hb.2))))) (by simp; omega) (fun ts h1 h2 => ?_) (ok_cnt (cnt_op (by decide) (cnt_num (valid_int (by decide)) 18) (cnt_num (valid_int (by omega)) 18) (by decide)) (by decide))
  exact read_ttt hbI h1 h2
theorem ex_half {b : Nat} (hb : b ≤ 65535) : exprR (decDigits b ++ [46, 53]) = ((0, 0, 0), some (numE (((2 * b + 1 : Nat) : Int), 2))) := by
  have hl2 := dec_len9 (v := b) (by unfold MX; omega)
  have hr := read_half hb
  have hv : valid (((2 * b + 1 : Nat) : Int)) 2 := by
    refine ⟨by decide, by decide, by unfold MX; omega, by unfold MX; omega, ?_⟩
    show Nat.gcd (2 * b + 1) 2 = 1
    rw [Nat.gcd_comm, Nat.gcd_rec]
    have : (2 * b + 1) % 2 = 1 := by omega
    rw [this]
    rfl
  refine expr_of (lk_half hb) (by simp; omega) (fun ts h1 h2 => ?_) (ok_num hv)
  have h3 := h1.1
  have hs : isS false ts 0 [45] = false := isS_no3 (by omega)
  have hn : numP ts 0 = .ok (((2 * b + 1 : Nat) : Int), 2) 1 := by
    unfold numP
    rw [sign0 hs, Nat.add_zero, h3.1, h3.2, hr, if_neg (by simp), if_neg (by simp), hs]
    rfl
  have h2' : ts.length = 1 := h2
  rw [h2']
  have hi : integerP ts 0 = false := by
    unfold integerP
    rw [h3.2]
    simp
  have hf : Ev fun F => factorP nameP ts F 0 0 = .ok (numE (((2 * b + 1 : Nat) : Int), 2)) 1 := by
    have := fac_num (nm := nameP) (ts := ts) (k := 0) (m := 0) (r := (((2 * b + 1 : Nat) : Int), 2)) (k1 := 1) (by rw [sign0 hs]; exact h3.1) (by rw [sign0 hs]; exact end_no (by omega) _) hn
    exact this
  refine sum_of_first (fst_fac ?_ hf) (chT_end (end_no (by omega) _) (end_no (by omega) _)) (end_no (by omega) _) (end_no (by omega) _)
  unfold fracP
  rw [sign0 hs, Nat.add_zero, hi]
  rfl
end Go.Proofs.YtkjoohnndobjeaaGreatDoor
