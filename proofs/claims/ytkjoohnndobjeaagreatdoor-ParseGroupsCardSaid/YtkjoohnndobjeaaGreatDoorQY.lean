/-
  What the texts of ParseNumbers are read as, in plain Lean. No program in sight.
  The texts of ParseNumbers, and what they are read as.
  The small functions of ParseNumbers.
  The examples' texts of flowpipelaw14, and what they are read as.
  The walk of flowpipelaw14.awake: the examples of the chapter hold.
-/
import Derived.Test.YtkjoohnndobjeaaGreatDoorQM
import Derived.Test.YtkjoohnndobjeaaGreatDoorQZ
import Derived.Test.YtkjoohnndobjeaaGreatDoorQN
import Derived.Test.YtkjoohnndobjeaaGreatDoorQV
set_option linter.unusedVariables false
namespace Go.Fl.Pa
open Go.Lib Go.Fl.Lx Go.Fl.Fm Go.Fl.Rt
theorem good_num {nm : List UInt8 → Bool} {n d : Int} (h : valid n d) (f : Nat) : good nm (f + 1) (numE (n, d)) := by
  refine ⟨?_, fun x hx => by cases hx⟩
  show nodeB nm ⟨1, n, d, ⟨#[]⟩, 0⟩ 0 = true
  unfold nodeB
  rw [if_pos (by simp)]
  simp only [decide_eq_true h]
  rw [show (⟨#[]⟩ : ByteArray).toList.isEmpty = true by rw [ByteArray.toList_eq]; rfl]
  rfl
theorem valid_int {n : Int} (h : -(MX : Int) ≤ n ∧ n ≤ MX) : valid n 1 := ⟨by decide, by decide, h.1, h.2, Nat.gcd_one_right _⟩
section
variable {nm : List UInt8 → Bool} {ts : List Tok}
theorem end_no {k : Nat} (h : ts.length ≤ k) (s : List UInt8) : isS false ts k s = false := isS_no3 (by
  unfold tk
  rw [List.getD_eq_getElem?_getD, List.getElem?_eq_none h]
  decide)
/-- A quotient of integers, lowest or not. -/
theorem quot_make {a b n d : Int} {k : Nat} (h : Mt ts k (numT a 1)) (h2 : Mt ts (k + (numT a 1).length) [(3, [47]), (2, decDigits b.natAbs)]) (ha : -(MX : Int) ≤ a ∧ a ≤ MX) (hb : 0 < b ∧ b ≤ MX) (hm : make a b = (n, d, 0)) :
    fracP ts k = true ∧ signP ts k + 1 = (numT a 1).length ∧ quotP ts k = .ok (n, d) (k + (numT a 1).length + 2) := by
  obtain ⟨h1, _, h3, _⟩ := num_first h
  have hn := num_head h ha
  have hlen : signP ts k + 1 = (numT a 1).length := by rw [num_len, h1, if_pos rfl]
  rw [← hlen, ← Nat.add_assoc] at h2
  have hs : isS false ts (k + signP ts k + 1) [47] = true := by rw [isS_sym h2.1]; decide
  have h5 : (tk ts (k + signP ts k + 2)).kind = 2 ∧ (tk ts (k + signP ts k + 2)).text = decDigits b.natAbs := h2.2.1
  refine ⟨?_, hlen, ?_⟩
  · unfold fracP
    rw [int_dec h3, hs, int_dec h5]
    rfl
  · unfold quotP
    rw [hn]
    simp only [PR.bind]
    have hdd : ((b.natAbs : Nat) : Int) = b := by omega
    rw [hs, if_neg (by decide), show k + signP ts k + 1 + 1 = k + signP ts k + 2 from rfl, h5.2, read_dec (by omega), if_neg (by simp)]
    simp only [hdd, hm]
    rw [if_neg (by simp)]
    exact ok_eq rfl (by omega)
theorem first_quot {a b n d : Int} {k m : Nat} (h : Mt ts k (numT a 1)) (h2 : Mt ts (k + (numT a 1).length) [(3, [47]), (2, decDigits b.natAbs)]) (ha : -(MX : Int) ≤ a ∧ a ≤ MX) (hb : 0 < b ∧ b ≤ MX) (hm : make a b = (n, d, 0))
    (hx : isS false ts (k + (numT a 1).length + 2) [94] = false) : Ev fun F => firstP nm ts F k m = .ok (numE (n, d)) (k + (numT a 1).length + 2) := by
  obtain ⟨q1, q2, q3⟩ := quot_make h h2 ha hb hm
  exact fst_quot q1 (by rw [← hx]; congr 1; omega) q3
theorem factor_var {s : List UInt8} {k m : Nat} (h : (tk ts k).kind = 1 ∧ (tk ts k).text = s) (hn : nm s = true) (hx : isS false ts (k + 1) [94] = false) : Ev fun F => factorP nm ts F k m = .ok (varE s) (k + 1) :=
  fac_atom (isS_no3 (by omega)) (fun e => by omega) hx (atom_var h hn)
theorem first_var {s : List UInt8} {k m : Nat} (h : (tk ts k).kind = 1 ∧ (tk ts k).text = s) (hn : nm s = true) (hx : isS false ts (k + 1) [94] = false) : Ev fun F => firstP nm ts F k m = .ok (varE s) (k + 1) := by
  refine fst_fac ?_ (factor_var h hn hx)
  unfold fracP
  rw [sign0 (isS_no3 (by omega)), Nat.add_zero, int_kind (by omega)]
  rfl
/-- A sum in parentheses as a factor. -/
theorem factor_par {k k1 m : Nat} {T : TE} (h : (tk ts k).kind = 3 ∧ (tk ts k).text = [40]) (hm : m ≠ 100) (h2 : (tk ts k1).kind = 3 ∧ (tk ts k1).text = [41]) (hx : isS false ts (k1 + 1) [94] = false)
    (hs : Ev fun F => sumP nm ts F (k + 1) (m + 1) = .ok T k1) : Ev fun F => factorP nm ts F k m = .ok T (k1 + 1) :=
  fac_atom (by rw [isS_sym h]; decide) (fun e => by omega) hx (atom_par h.1 (enc_ok (by rw [isS_sym h]; decide) hm (by rw [isS_sym h2]; decide) hs))
theorem first_par {k k1 m : Nat} {T : TE} (h : (tk ts k).kind = 3 ∧ (tk ts k).text = [40]) (hm : m ≠ 100) (h2 : (tk ts k1).kind = 3 ∧ (tk ts k1).text = [41]) (hx : isS false ts (k1 + 1) [94] = false)
    (hs : Ev fun F => sumP nm ts F (k + 1) (m + 1) = .ok T k1) : Ev fun F => firstP nm ts F k m = .ok T (k1 + 1) := by
  refine fst_fac ?_ (factor_par h hm h2 hx hs)
  unfold fracP
  rw [sign0 (by rw [isS_sym h]; decide), Nat.add_zero, int_kind (by omega)]
  rfl
/-- A chain of products that ends the sum, where no sum follows. -/
theorem sum_of_first {k k1 m : Nat} {e T : TE} {k2 : Nat} (h1 : Ev fun F => firstP nm ts F k m = .ok e k1) (h2 : Ev fun F => chT nm ts F e k1 m = .ok T k2) (h3 : isS false ts k2 [43] = false) (h4 : isS false ts k2 [45] = false) :
    Ev fun F => sumP nm ts F k m = .ok T k2 :=
  sum_step (term_step h1 h2) (chS_end h3 h4)
end
section
variable {nm : List UInt8 → Bool} {ts : List Tok} {a b n d : Int} (ha : -(MX : Int) ≤ a ∧ a ≤ MX) (hb : 0 < b ∧ b ≤ MX) (hx : nm [120] = true)
include ha hb
theorem read_quot (hm : make a b = (n, d, 0)) (h : Mt ts 0 (numT a 1 ++ [(3, [47]), (2, decDigits b.natAbs)])) (hl : ts.length = (numT a 1 ++ [(3, [47]), (2, decDigits b.natAbs)]).length) :
    Ev fun F => sumP nm ts F 0 0 = .ok (numE (n, d)) ts.length := by
  rw [List.length_append] at hl
  have h2 := mt_app.1 h
  have e : 0 + (numT a 1).length + 2 = ts.length := by rw [hl]; simp
  have hf := first_quot (nm := nm) (m := 0) h2.1 h2.2 ha hb hm (end_no (by omega) _)
  rw [e] at hf
  exact sum_of_first hf (chT_end (end_no (Nat.le_refl _) _) (end_no (Nat.le_refl _) _)) (end_no (Nat.le_refl _) _) (end_no (Nat.le_refl _) _)
include hx
omit hx in
end
end Go.Fl.Pa
namespace Go.Fl.Pa
open Go.Lib Go.Fl.Lx Go.Fl.Fm Go.Fl.Rt
theorem cnt_num {nm : List UInt8 → Bool} {n d : Int} (h : valid n d) (f : Nat) : cntR nm (f + 1) (numE (n, d)) = 1 := by
  unfold cntR
  rw [if_pos (good_num h f).1]
  rfl
theorem cnt_var {nm : List UInt8 → Bool} {s : List UInt8} (h : nm s = true) (f : Nat) : cntR nm (f + 1) (varE s) = 1 := by
  unfold cntR
  rw [if_pos]
  · rfl
  · show nodeB nm ⟨2, 0, 0, ⟨s.toArray⟩, 0⟩ 0 = true
    unfold nodeB
    rw [if_neg (by simp), if_pos (by simp)]
    simp [h]
end Go.Fl.Pa
namespace Go.Proofs.YtkjoohnndobjeaaGreatDoor
open Go.RowKit Go.Lib Go.Fl Go.Fl.Lx Go.Fl.Nm Go.Fl.Fm Go.Fl.Rt Go.Fl.Pa
theorem ok_cnt {T : TE} {x : Nat} (h : cntR nameP 20 T = x) (hx : x ≤ 200) : okE T = true := okE_iff.2 (by show cntR nameP 20 T ≤ 200; omega)
theorem ok_num {n d : Int} (h : valid n d) : okE (numE (n, d)) = true := ok_cnt (cnt_num h 19) (by decide)
theorem name_x : nameP [120] = true := by decide
theorem cx (f : Nat) : cntR nameP (f + 1) (varE [120]) = 1 := cnt_var name_x f
theorem expr_of {l : List UInt8} {ks : List (Nat × List UInt8)} {T : TE} (hl : LexK l ks) (hlen : l.length ≤ 65536) (hr : ∀ ts, Mt ts 0 ks → ts.length = ks.length → Ev fun F => sumP nameP ts F 0 0 = .ok T ts.length) (hok : okE T = true) : exprR l = ((0, 0, 0), some T) := by
  obtain ⟨ts, h1, h2, h3⟩ := hl.res hlen
  exact expr_ok h1 (ev_sum (hr ts h2 h3) (by omega)) hok
theorem lk_itoa {a : Int} (h : -(MX : Int) ≤ a ∧ a ≤ MX) : LexK (itoa a) (numT a 1) := by
  have := lk_num (valid_int h)
  unfold textR at this
  rw [if_pos rfl, List.append_nil] at this
  exact this
theorem lk_x : LexK [120] [(1, [120])] := lk_word (by decide) (by decide)
theorem itoa_len {a : Int} (h : -(MX : Int) ≤ a ∧ a ≤ MX) : (itoa a).length ≤ 11 := by
  unfold itoa
  have := dec_len9 (v := a.natAbs) (by omega)
  split
  · rw [List.length_cons]; omega
  · rw [show a.toNat = a.natAbs by omega]; omega
section
variable {a n d : Int} {b : Nat} (ha : -(MX : Int) ≤ a ∧ a ≤ MX) (hb : 0 < b ∧ b ≤ MX) (hm : make a b = (n, d, 0)) (hv : valid n d)
include ha
include hb
include hm hv
theorem ex_quot : exprR (itoa a ++ ([47] ++ decDigits b)) = ((0, 0, 0), some (numE (n, d))) := by
  have hbI : 0 < (b : Int) ∧ (b : Int) ≤ MX := by omega
  have hl1 := itoa_len ha
  have hl2 := dec_len9 hb.2
  refine expr_of ((lk_itoa ha).k (norun_cons (by decide)) ((ls_sym (c := 47) (by decide)).sk (lk_dec hb.2))) (by simp; omega) (fun ts h1 h2 => ?_) (ok_num hv)
  exact read_quot ha hbI hm h1 h2
omit hm hv
end
end Go.Proofs.YtkjoohnndobjeaaGreatDoor
namespace Go.Proofs.YtkjoohnndobjeaaGreatDoor
open Go.RowKit Go.Fl Go.Fl.Lx Go.Fl.Nm Go.Fl.Fm Go.Fl.Rt Go.Fl.Pa
/-- What read answers to the text of a valid expression. -/
def ReadP (T : TE) (w : World) (e : Ending) (w' : World) : Prop := ∃ v : Nd, e = .returned v.val ∧ Hid (InE w' T v) ∧ Hid (Below w.heap.size w w')
set_option maxHeartbeats 4000000 in
set_option maxRecDepth 100000 in
theorem read_any (s : ByteArray) (T : TE) (w : World) (hs : s.size ≤ maxLen) (hR : RX w) (hX : FX w) (he : exprR s.data.toList = ((0, 0, 0), some T)) : Calls Tryz.prog 18 #[.string s] w (ReadP T w) := by
  have HR := Lib.hid hR
  have HX := Lib.hid hX
  have HEX := Lib.hid he
  clear hR hX he
  go_enter Tryz.func18, Tryz.ntmps18
  go_upto_region 1 with (fail)
  obtain ⟨w1, hw1⟩ : ∃ z9 : World, z9 = w.alloc (Obj.cells #[.int .i64 0, .int .i64 0, .int .i64 0, .string ⟨#[]⟩, .int .i64 0, .slice none 0 0] 29) := ⟨_, rfl⟩
  have O1 := Lib.hid (show Below w.heap.size w w1 by rw [hw1]; exact below_box _ _)
  have F1 := Lib.hid (show Blk w1 w.heap.size 29 #[.int .i64 0, .int .i64 0, .int .i64 0, .string ⟨#[]⟩, .int .i64 0, .slice none 0 0] by rw [hw1]; exact Blk.new _ _ _)
  rw [← hw1]
  clear hw1
  go_wp2_with fail
  refine (pExpr s w1 hs (HR.out.belowW O1.out) (HX.out.belowW O1.out)).mono ?_
  rintro e w4 ⟨x, rfl, HB4, HO4⟩
  rw [HEX.out] at HO4
  rw [HEX.out]
  obtain ⟨T1, hT1, hx1⟩ := HO4.2 rfl
  injection hT1 with hT1
  subst hT1
  have HX4 := Lib.hid (InA.lt hx1)
  have O4 := Lib.hid (O1.out.trans (HB4.out.mono O1.out.size))
  have F4 := Lib.hid (F1.out.belowW HB4.out)
  clear HO4 hx1
  go_upto_region 2 with (fail)
  obtain ⟨w5, hw5⟩ : ∃ z9 : World, z9 = (w4.alloc (Obj.cells #[.int .i64 x.h.kind, .int .i64 x.h.n, .int .i64 x.h.d, .string x.h.name, .int .i64 x.h.k, .slice x.A x.len x.cap] 29)).alloc (Obj.cells #[.int .i64 0, .int .i64 0] 40) := ⟨_, rfl⟩
  have HB5 := Lib.hid (show Below w4.heap.size w4 w5 by rw [hw5]; exact (below_box _ _).trans ((below_box _ _).mono (by simp)))
  have E5 := Lib.hid (show Blk w5 w4.heap.size 29 #[.int .i64 x.h.kind, .int .i64 x.h.n, .int .i64 x.h.d, .string x.h.name, .int .i64 x.h.k, .slice x.A x.len x.cap] by rw [hw5]; exact (Blk.new w4 29 #[.int .i64 x.h.kind, .int .i64 x.h.n, .int .i64 x.h.d, .string x.h.name, .int .i64 x.h.k, .slice x.A x.len x.cap]).belowW (below_box _ _))
  rw [← hw5]
  clear hw5
  have O5 := Lib.hid (O4.out.trans (HB5.out.mono O4.out.size))
  have F5 := Lib.hid (F4.out.belowW HB5.out)
  have HX5 := Lib.hid (HX4.out.belowW HB5.out)
  have hr1 := F1.out.lt
  obtain ⟨c0, _, c1, _, c2, _, c3, _, c4, _, c5, _⟩ := E5.out.all6
  obtain ⟨r0, h0, r1, h1, r2, h2, r3, h3, r4, h4, r5, h5⟩ := F5.out.all6
  go_wp2_with fail
  rw [pst6 F5.out]
  have FZ := Lib.hid (F5.out.put #[.int .i64 x.h.kind, .int .i64 x.h.n, .int .i64 x.h.d, .string x.h.name, .int .i64 x.h.k, .slice x.A x.len x.cap])
  obtain ⟨z0, _, z1, _, z2, _, z3, _, z4, _, z5, _⟩ := FZ.out.all6
  refine bodyPost_ret (v := .agg #[.int .i64 x.h.kind, .int .i64 x.h.n, .int .i64 x.h.d, .string x.h.name, .int .i64 x.h.k, .slice x.A x.len x.cap]) (by simp [results, Tryz.results18, go_sem, z0, z1, z2, z3, z4, z5]) rfl ?_
  exact ⟨x, rfl, Lib.hid (InA.toE (HX5.out.far (by rintro ⟨h1, _⟩; omega) 29 #[.int .i64 x.h.kind, .int .i64 x.h.n, .int .i64 x.h.d, .string x.h.name, .int .i64 x.h.k, .slice x.A x.len x.cap])), Lib.hid (O5.out.trans (putB_below w5 w.heap.size 29 #[.int .i64 x.h.kind, .int .i64 x.h.n, .int .i64 x.h.d, .string x.h.name, .int .i64 x.h.k, .slice x.A x.len x.cap] (Nat.le_refl _)))⟩
end Go.Proofs.YtkjoohnndobjeaaGreatDoor
namespace Go.Proofs.YtkjoohnndobjeaaGreatDoor
open Go.RowKit Go.Lib Go.Fl Go.Fl.Lx Go.Fl.Nm Go.Fl.Fm Go.Fl.Rt Go.Fl.Pa
theorem aw_third : exprR [49, 47, 51] = ((0, 0, 0), some (numE (1, 3))) := by
  have h := ex_quot (a := 1) (n := 1) (d := 3) (b := 3) (by decide) (by decide) (make_of_eq ⟨by decide, by decide, by decide, by decide, by decide⟩ (by decide) (by decide)) ⟨by decide, by decide, by decide, by decide, by decide⟩
  have e : itoa 1 ++ ([47] ++ decDigits 3) = [49, 47, 51] := by
    have e1 : itoa 1 = [49] := by
      unfold itoa
      rw [if_neg (by decide), show (1 : Int).toNat = 1 from rfl, decDigits_one (by decide)]
      rfl
    have e2 : decDigits 3 = [51] := by
      rw [decDigits_one (by decide)]
      rfl
    rw [e1, e2]
    rfl
  rw [e] at h
  exact h
def sqE : TE := opE 7 [powE 2 (varE [120])]
theorem cnt_one {nm : List UInt8 → Bool} {f x : Nat} {c : Int} {a : TE} (hc : 7 ≤ c ∧ c ≤ 13 ∧ c ≠ 8) (ha : cntR nm f a = x) : cntR nm (f + 1) (opE c [a]) = 1 + x := by
  unfold cntR
  rw [if_pos]
  · show goR (cntR nm f) [a] 1 = _
    unfold goR
    rw [if_pos (by omega), ha]
    rfl
  · show nodeB nm ⟨c, 0, 0, ⟨#[]⟩, 0⟩ 1 = true
    unfold nodeB
    rw [if_neg (by simp; omega), if_neg (by simp; omega), if_neg (by simp; omega)]
    have e : opsK c = 1 := by unfold opsK; rw [if_neg (by omega), if_pos (by omega)]
    rw [e, show (⟨#[]⟩ : ByteArray).toList.isEmpty = true by rw [ByteArray.toList_eq]; rfl]
    rfl
theorem cnt_pow {nm : List UInt8 → Bool} {f x v : Nat} {a : TE} (hv : v ≤ 16) (ha : cntR nm f a = x) : cntR nm (f + 1) (powE v a) = 1 + x := by
  unfold cntR
  rw [if_pos]
  · show goR (cntR nm f) [a] 1 = _
    unfold goR
    rw [if_pos (by omega), ha]
    rfl
  · show nodeB nm ⟨8, 0, 0, ⟨#[]⟩, v⟩ 1 = true
    unfold nodeB
    rw [if_neg (by simp), if_neg (by simp), if_pos (by simp)]
    rw [show (⟨#[]⟩ : ByteArray).toList.isEmpty = true by rw [ByteArray.toList_eq]; rfl]
    simp
    omega
theorem sq_ok : okE sqE = true := ok_cnt (cnt_one (by decide) (cnt_pow (by decide) (cx 17))) (by decide)
theorem aw_square : exprR [45, 120, 32, 94, 32, 50] = ((0, 0, 0), some sqE) := by
  have hb := ls_blank (c := 32) (by decide)
  have h2 : LexK [50] [(2, [50])] := by
    have := lk_dec (v := 2) (by decide)
    rw [decDigits_one (by decide)] at this
    exact this
  have hl : LexK [45, 120, 32, 94, 32, 50] [(3, [45]), (1, [120]), (3, [94]), (2, [50])] :=
    (ls_sym (c := 45) (by decide)).sk (lk_x.k (b := [32, 94, 32, 50]) (norun_cons (by decide)) (hb.sk ((ls_sym (c := 94) (by decide)).sk (hb.sk h2))))
  refine expr_of hl (by decide) (fun ts h1 h2 => ?_) sq_ok
  have hg := (txt20 sq_ok).1
  have ht : tkn 20 sqE = [(3, [45]), (1, [120]), (3, [94]), (2, [50])] := by
    rw [tkn_neg rfl]
    show (3, [45]) :: parT (needM (powE 2 (varE [120])).h) (tkn 19 (powE 2 (varE [120]))) = _
    rw [tkn_pow rfl]
    show (3, [45]) :: parT false (parT false (tkn 18 (varE [120])) ++ [(3, [94]), (2, itoa 2)]) = _
    rw [tkn_var rfl]
    have e : itoa 2 = [50] := by
      unfold itoa
      rw [if_neg (by decide), show (2 : Int).toNat = 2 from rfl, decDigits_one (by decide)]
      rfl
    rw [e]
    rfl
  rw [← ht] at h1 h2
  exact sum_read nameP_fn hg (by decide) h1 h2
/-- "x +" ends too early. -/
theorem aw_plus : exprR [120, 32, 43] = ((0, 0, 4), none) := by
  have hb := ls_blank (c := 32) (by decide)
  have hl : LexK [120, 32, 43] [(1, [120]), (3, [43])] := lk_x.k (b := [32, 43]) (norun_cons (by decide)) (hb.sk (ls_sym (c := 43) (by decide)).k)
  obtain ⟨ts, h1, h2, h3⟩ := hl.res (by decide)
  have h3' : ts.length = 2 := h3
  obtain ⟨m1, m2, _⟩ := h2
  have hk : (tk ts 2).kind = 0 := by
    unfold tk
    rw [List.getD_eq_getElem?_getD, List.getElem?_eq_none (by omega)]
    rfl
  have hS : ∀ s, isS false ts 2 s = false := fun s => end_no (by omega) s
  have hf : Ev fun F => termP nameP ts F 2 0 = .bad 0 0 4 := by
    refine ⟨6, fun F hF => ?_⟩
    obtain ⟨G, rfl⟩ : ∃ G, F = G + 6 := ⟨F - 6, by omega⟩
    have hfr : fracP ts 2 = false := by
      unfold fracP integerP
      rw [sign0 (hS _), Nat.add_zero, hk]
      rfl
    have he : encP nameP ts (G + 2) 2 0 = .bad 0 0 4 := by
      rw [encP, hS, if_neg (by decide)]
      unfold unex
      rw [if_pos (by omega)]
    have ha : atomP nameP ts (G + 3) 2 0 = .bad 0 0 4 := by
      rw [atomP, hk, if_neg (by decide), if_neg (by simp), if_neg (by simp), he]
    have hfa : factorP nameP ts (G + 4) 2 0 = .bad 0 0 4 := by
      rw [factorP, sign0 (hS _), Nat.add_zero, hk, if_neg (by simp), if_neg (by decide), ha]
    have hfi : firstP nameP ts (G + 5) 2 0 = .bad 0 0 4 := by
      rw [firstP, hfr, Bool.false_and, if_neg (by decide), hfa]
    rw [termP, hfi]
  have hx := first_var (nm := nameP) (ts := ts) (m := 0) m1 name_x (by rw [isS_sym (t := [43]) m2]; decide)
  have ht := term_step hx (chT_end (by rw [isS_sym (t := [43]) m2]; decide) (by rw [isS_sym (t := [43]) m2]; decide))
  have hc : Ev fun F => chS nameP ts F (varE [120]) 1 0 = .bad 0 0 4 := by
    refine ev_s1 (fun F h => ?_) hf
    rw [chS, if_pos ⟨m2.1, .inl m2.2⟩, h]
  have hs := ev_sum (sum_step ht hc) (f := 8 * ts.length + 8) (by omega)
  unfold exprR runR
  rw [h1]
  show runS ts okE (sumP nameP ts (8 * ts.length + 8) 0 0) = _
  rw [hs]
  rfl
/-- "x ) y" is wrong at its second token. -/
theorem aw_paren : exprR [120, 32, 41, 32, 121] = ((1, 3, 3), none) := by
  have h1 : lexRes [120, 32, 41, 32, 121] = .ok [⟨1, [120], 1, 1⟩, ⟨3, [41], 1, 3⟩, ⟨1, [121], 1, 5⟩] := by
    unfold lexRes
    rw [if_neg (by decide), split_run _ _ _ (by decide) (by decide)]
    have e1 : ([32, 41, 32, 121] : List UInt8).dropWhile inRun = [32, 41, 32, 121] := by decide
    rw [e1, split_blank _ _ _ (by decide), split_sym _ _ _ (by decide), split_blank _ _ _ (by decide), split_run _ _ _ (by decide) (by decide)]
    have e2 : ([] : List UInt8).dropWhile inRun = [] := rfl
    rw [e2, split_nil]
    rfl
  obtain ⟨ts, hts⟩ : ∃ ts : List Tok, ts = [⟨1, [120], 1, 1⟩, ⟨3, [41], 1, 3⟩, ⟨1, [121], 1, 5⟩] := ⟨_, rfl⟩
  rw [← hts] at h1
  have m1 : (tk ts 0).kind = 1 ∧ (tk ts 0).text = [120] := by rw [hts]; exact ⟨rfl, rfl⟩
  have m2 : (tk ts 1).kind = 3 ∧ (tk ts 1).text = [41] := by rw [hts]; exact ⟨rfl, rfl⟩
  have hn : ∀ s, ([41] == s) = false → isS false ts 1 s = false := fun s h => by rw [isS_sym (t := [41]) m2, h]
  have hx := first_var (nm := nameP) (ts := ts) (m := 0) m1 name_x (hn _ (by decide))
  have hs := ev_sum (sum_of_first hx (chT_end (hn _ (by decide)) (hn _ (by decide))) (hn _ (by decide)) (hn _ (by decide))) (f := 8 * ts.length + 8) (by omega)
  unfold exprR runR
  rw [h1]
  show runS ts okE (sumP nameP ts (8 * ts.length + 8) 0 0) = _
  rw [hs, hts]
  rfl
end Go.Proofs.YtkjoohnndobjeaaGreatDoor
namespace Go.Proofs.YtkjoohnndobjeaaGreatDoor
open Go.RowKit Go.Fl Go.Fl.Lx Go.Fl.Nm Go.Fl.Fm Go.Fl.Rt Go.Fl.Pa
open List (setIfInBounds_toArray set_cons_zero set_cons_succ getElem_toArray getElem_cons_zero getElem_cons_succ)
theorem pExpr_bad (s : ByteArray) (w : World) (hs : s.size ≤ maxLen) (hR : RX w) (hX : FX w) {ln co er : Nat} (he : exprR s.data.toList = ((ln, co, er), none)) (her : er ≠ 0) :
    Calls Tryz.prog 21 #[.string s] w (fun e w' => e = .returned (.tuple #[.agg #[.int .i64 0, .int .i64 0, .int .i64 0, .string ⟨#[]⟩, .int .i64 0, .slice none 0 0], .agg #[.int .i64 ln, .int .i64 co], .int .i64 er]) ∧ Hid (Below w.heap.size w w')) := by
  refine (pExpr s w hs hR hX).mono ?_
  rintro e w' ⟨v, rfl, HB, HO⟩
  rw [he] at HO ⊢
  rw [HO.1 her]
  exact ⟨rfl, HB⟩

set_option maxHeartbeats 4000000 in
set_option maxRecDepth 100000 in
theorem awake14_any (w : World) (hR : RX w) (hX : FX w) : Calls Tryz.prog 12 #[] w (RetB (.bool true) w) := by
  have HR := Lib.hid hR
  have HX := Lib.hid hX
  clear hR hX
  go_enter Tryz.func12, Tryz.ntmps12
  go_upto_region 3 with (fail)
  obtain ⟨w3, hw3⟩ : ∃ z9 : World, z9 = ((w.alloc (Obj.cells #[.int .i64 2, .int .i64 0, .int .i64 0, .string ⟨#[120]⟩, .int .i64 0, .slice none 0 0] 29)).alloc (Obj.cells #[.int .i64 2, .int .i64 0, .int .i64 0, .string ⟨#[120]⟩, .int .i64 0, .slice none 0 0] 29)).alloc (Obj.cells #[.int .i64 8, .int .i64 0, .int .i64 0, .string ⟨#[]⟩, .int .i64 2, .slice (some ⟨w.heap.size + 1, 0, none⟩) 1 1] 29) := ⟨_, rfl⟩
  have O3 := Lib.hid (show Below w.heap.size w w3 by rw [hw3]; exact ((below_box _ _).trans ((below_box _ _).mono (by simp))).trans ((below_box _ _).mono (by simp; omega)))
  have Q3 := Lib.hid (show Blk w3 (w.heap.size + 1 + 1) 29 #[.int .i64 8, .int .i64 0, .int .i64 0, .string ⟨#[]⟩, .int .i64 2, .slice (some ⟨w.heap.size + 1, 0, none⟩) 1 1] by rw [hw3]; exact (by have := Blk.new ((w.alloc (Obj.cells #[.int .i64 2, .int .i64 0, .int .i64 0, .string ⟨#[120]⟩, .int .i64 0, .slice none 0 0] 29)).alloc (Obj.cells #[.int .i64 2, .int .i64 0, .int .i64 0, .string ⟨#[120]⟩, .int .i64 0, .slice none 0 0] 29)) 29 #[.int .i64 8, .int .i64 0, .int .i64 0, .string ⟨#[]⟩, .int .i64 2, .slice (some ⟨w.heap.size + 1, 0, none⟩) 1 1]; simpa using this))
  have N3 := Lib.hid (show InE w3 (powE 2 (varE [120])) ⟨⟨8, 0, 0, ⟨#[]⟩, 2⟩, some ⟨w.heap.size + 1, 0, none⟩, 1, 1⟩ by
    rw [hw3]
    have h := in_new1 (w.alloc (Obj.cells #[.int .i64 2, .int .i64 0, .int .i64 0, .string ⟨#[120]⟩, .int .i64 0, .slice none 0 0] 29)) 8 2 (varE [120]) (ndV ⟨#[120]⟩) 29 (by decide) (by decide) (in_V _ ⟨#[120]⟩ (by decide))
    rw [World.size_alloc] at h
    exact InE.go h (below_box _ _))
  rw [← hw3]
  clear hw3
  go_wp2_with fail
  refine (pExpr_bad ⟨#[120, 32, 41, 32, 121]⟩ w3 (by decide) (HR.out.belowW O3.out) (HX.out.belowW O3.out) aw_paren (by decide)).mono ?_
  rintro e w4 ⟨rfl, HB4⟩
  have O4 := Lib.hid (O3.out.trans (HB4.out.mono O3.out.size))
  have Q4 := Lib.hid (Q3.out.belowW HB4.out)
  have N4 := Lib.hid (N3.out.belowW HB4.out)
  go_upto_region 4 with (fail)
  obtain ⟨w5, hw5⟩ : ∃ z9 : World, z9 = (w4.alloc (Obj.cells #[.int .i64 0, .int .i64 0, .int .i64 0, .string ⟨#[]⟩, .int .i64 0, .slice none 0 0] 29)).alloc (Obj.cells #[.int .i64 1, .int .i64 3] 40) := ⟨_, rfl⟩
  have HB5 := Lib.hid (show Below w4.heap.size w4 w5 by rw [hw5]; exact (below_box _ _).trans ((below_box _ _).mono (by simp)))
  have P5 := Lib.hid (show Blk w5 (w4.heap.size + 1) 40 #[.int .i64 1, .int .i64 3] by rw [hw5]; exact (by have := Blk.new (w4.alloc (Obj.cells #[.int .i64 0, .int .i64 0, .int .i64 0, .string ⟨#[]⟩, .int .i64 0, .slice none 0 0] 29)) 40 #[.int .i64 1, .int .i64 3]; simpa using this))
  rw [← hw5]
  clear hw5
  have O5 := Lib.hid (O4.out.trans (HB5.out.mono O4.out.size))
  have Q5 := Lib.hid (Q4.out.belowW HB5.out)
  have N5 := Lib.hid (N4.out.belowW HB5.out)
  go_wp2_with fail
  refine (pExpr_bad ⟨#[120, 32, 43]⟩ w5 (by decide) (HR.out.belowW O5.out) (HX.out.belowW O5.out) aw_plus (by decide)).mono ?_
  rintro e w6 ⟨rfl, HB6⟩
  have O6 := Lib.hid (O5.out.trans (HB6.out.mono O5.out.size))
  have Q6 := Lib.hid (Q5.out.belowW HB6.out)
  have N6 := Lib.hid (N5.out.belowW HB6.out)
  have P6 := Lib.hid (P5.out.belowW HB6.out)
  go_upto_region 5 with (fail)
  obtain ⟨w7, hw5⟩ : ∃ z9 : World, z9 = (w6.alloc (Obj.cells #[.int .i64 0, .int .i64 0, .int .i64 0, .string ⟨#[]⟩, .int .i64 0, .slice none 0 0] 29)).alloc (Obj.cells #[.int .i64 0, .int .i64 0] 40) := ⟨_, rfl⟩
  have HB7 := Lib.hid (show Below w6.heap.size w6 w7 by rw [hw5]; exact (below_box _ _).trans ((below_box _ _).mono (by simp)))
  have P7x := Lib.hid (show Blk w7 (w6.heap.size + 1) 40 #[.int .i64 0, .int .i64 0] by rw [hw5]; exact (by have := Blk.new (w6.alloc (Obj.cells #[.int .i64 0, .int .i64 0, .int .i64 0, .string ⟨#[]⟩, .int .i64 0, .slice none 0 0] 29)) 40 #[.int .i64 0, .int .i64 0]; simpa using this))
  rw [← hw5]
  clear hw5
  have O7 := Lib.hid (O6.out.trans (HB7.out.mono O6.out.size))
  have Q7 := Lib.hid (Q6.out.belowW HB7.out)
  have N7 := Lib.hid (N6.out.belowW HB7.out)
  have P7 := Lib.hid (P6.out.belowW HB7.out)
  have HR31 := Lib.hid (below_dr w7)
  have R31p := Lib.hid (P7.out.belowW HR31.out)
  have R31q := Lib.hid (Q7.out.belowW HR31.out)
  have R31n := Lib.hid (N7.out.belowW HR31.out)
  have R31o := Lib.hid (O7.out.trans (HR31.out.mono O7.out.size))
  refine wp_region_held_drew (S := fun w' => w'.cell? ⟨w4.heap.size + 1, 0, none⟩ = some (.int .i64 1) ∧ w'.cell? ⟨w4.heap.size + 1, 1, none⟩ = some (.int .i64 3) ∧ w'.cell? ⟨w.heap.size + 1 + 1, 0, none⟩ = some (.int .i64 8) ∧ w'.cell? ⟨w.heap.size + 1 + 1, 1, none⟩ = some (.int .i64 0) ∧ w'.cell? ⟨w.heap.size + 1 + 1, 2, none⟩ = some (.int .i64 0) ∧ w'.cell? ⟨w.heap.size + 1 + 1, 3, none⟩ = some (.string ⟨#[]⟩) ∧ w'.cell? ⟨w.heap.size + 1 + 1, 4, none⟩ = some (.int .i64 2) ∧ w'.cell? ⟨w.heap.size + 1 + 1, 5, none⟩ = some (.slice (some ⟨w.heap.size + 1, 0, none⟩) 1 1)) (by kernel_rfl) ?_ (fun hHeld => ?_)
  case refine_1 => exact ⟨R31p.out.cell 0, R31p.out.cell 1, R31q.out.cell 0, R31q.out.cell 1, R31q.out.cell 2, R31q.out.cell 3, R31q.out.cell 4, R31q.out.cell 5⟩
  obtain ⟨wd31, hwd⟩ : ∃ z9 : World, z9 = w7.drew := ⟨_, rfl⟩
  rw [← hwd] at HR31 R31p R31q R31n R31o hHeld ⊢
  clear hwd
  refine tkY 1 rfl (v := ?_) (.inl ⟨by rfl, ?_⟩) ?_
  case refine_2 => intro w9 hSw; (try dsimp only at hSw); go_simp; (try with_reducible rfl)
  try simp only [Act.put, setIfInBounds_toArray, set_cons_zero, set_cons_succ, getElem_toArray, getElem_cons_zero, getElem_cons_succ]
  refine wpAnyH_ready (rs := [0, 2]) (by kernel_rfl) (by simp) ?_
  refine (AllReadyH.cons rfl (fun K hK => ?_) (AllReadyH.cons rfl (fun K hK => ?_) AllReadyH.nil))
  · go_simp
    (with_reducible refine (read_any ⟨#[45, 120, 32, 94, 32, 50]⟩ sqE wd31 (by decide) (HR.out.belowW R31o.out) (HX.out.belowW R31o.out) aw_square).mono ?_)
    rintro e w32 ⟨v1, rfl, HVv1, HC32⟩
    have R32p := Lib.hid (R31p.out.belowW HC32.out)
    have R32q := Lib.hid (R31q.out.belowW HC32.out)
    have R32n := Lib.hid (R31n.out.belowW HC32.out)
    have R32o := Lib.hid (R31o.out.trans (HC32.out.mono R31o.out.size))
    have R32v := Lib.hid (HVv1.out)
    go_wp2_with fail
    clear hHeld
    refine hK.out _ _ ?_ (fun hHeld => ?_)
    case refine_1 => exact ⟨R32p.out.cell 0, R32p.out.cell 1, R32q.out.cell 0, R32q.out.cell 1, R32q.out.cell 2, R32q.out.cell 3, R32q.out.cell 4, R32q.out.cell 5⟩
    clear hK K
    try simp only [setIfInBounds_toArray, set_cons_zero, set_cons_succ]
    refine wpAnyH_ready (rs := [2]) (by kernel_rfl) (by simp) ?_
    refine (AllReadyH.cons rfl (fun K hK => ?_) AllReadyH.nil)
    go_simp
    obtain ⟨w33, hw⟩ : ∃ z9 : World, z9 = w32.alloc (Obj.cells #[.int .i64 8, .int .i64 0, .int .i64 0, .string ⟨#[]⟩, .int .i64 2, .slice (some ⟨w.heap.size + 1, 0, none⟩) 1 1] 29) := ⟨_, rfl⟩
    have HC33 := Lib.hid (show Below w32.heap.size w32 w33 by rw [hw]; exact below_box _ _)
    have R33p := Lib.hid (R32p.out.belowW HC33.out)
    have R33q := Lib.hid (R32q.out.belowW HC33.out)
    have R33n := Lib.hid (R32n.out.belowW HC33.out)
    have R33o := Lib.hid (R32o.out.trans (HC33.out.mono R32o.out.size))
    have R33v := Lib.hid (R32v.out.belowW HC33.out)
    have R33s := Lib.hid (show InE w33 sqE ⟨⟨7, 0, 0, ⟨#[]⟩, 0⟩, some ⟨w32.heap.size, 0, none⟩, 1, 1⟩ by rw [hw]; exact in_new1 w32 7 0 _ ⟨⟨8, 0, 0, ⟨#[]⟩, 2⟩, some ⟨w.heap.size + 1, 0, none⟩, 1, 1⟩ _ (by decide) d0 R32n.out)
    rw [← hw]
    clear hw
    clear hHeld
    refine hK.out _ _ ?_ (fun hHeld => ?_)
    case refine_1 => exact ⟨R33p.out.cell 0, R33p.out.cell 1, R33q.out.cell 0, R33q.out.cell 1, R33q.out.cell 2, R33q.out.cell 3, R33q.out.cell 4, R33q.out.cell 5⟩
    clear hK K
    try simp only [setIfInBounds_toArray, set_cons_zero, set_cons_succ]
    refine tkY 3 rfl (v := ?_) (.inl ⟨by rfl, ?_⟩) ?_
    case refine_2 => intro w9 hSw; (try dsimp only at hSw); go_simp; (try with_reducible rfl)
    try simp only [Act.put, setIfInBounds_toArray, set_cons_zero, set_cons_succ, getElem_toArray, getElem_cons_zero, getElem_cons_succ]
    refine wpAnyH_ready (rs := [4]) (by kernel_rfl) (by simp) ?_
    refine (AllReadyH.cons rfl (fun K hK => ?_) AllReadyH.nil)
    go_simp
    (with_reducible refine (show Calls Tryz.prog 17 #[v1.val, .agg #[.int .i64 7, .int .i64 0, .int .i64 0, .string ⟨#[]⟩, .int .i64 0, .slice (some ⟨w32.heap.size, 0, none⟩) 1 1]] w33 _ from same_any _ sqE (Nat.le_refl _) sqE v1 ⟨⟨7, 0, 0, ⟨#[]⟩, 0⟩, some ⟨w32.heap.size, 0, none⟩, 1, 1⟩ w33 R33v.out R33s.out).mono ?_)
    rintro e w34 ⟨r1, rfl, HE1, HC34⟩
    have R34p := Lib.hid (R33p.out.belowW HC34.out)
    have R34q := Lib.hid (R33q.out.belowW HC34.out)
    have R34n := Lib.hid (R33n.out.belowW HC34.out)
    have R34o := Lib.hid (R33o.out.trans (HC34.out.mono R33o.out.size))
    have R34v := Lib.hid (R33v.out.belowW HC34.out)
    have R34s := Lib.hid (R33s.out.belowW HC34.out)
    obtain rfl : r1 = true := HE1.out.2 rfl
    go_wp2_with fail
    clear hHeld
    refine hK.out _ _ ?_ (fun hHeld => ?_)
    case refine_1 => exact ⟨R34p.out.cell 0, R34p.out.cell 1, R34q.out.cell 0, R34q.out.cell 1, R34q.out.cell 2, R34q.out.cell 3, R34q.out.cell 4, R34q.out.cell 5⟩
    clear hK K
    try simp only [setIfInBounds_toArray, set_cons_zero, set_cons_succ]
    refine tkY 5 rfl (v := ?_) (.inl ⟨by rfl, ?_⟩) ?_
    case refine_2 => intro w9 hSw; (try dsimp only at hSw); go_simp; (try with_reducible rfl)
    try simp only [Act.put, setIfInBounds_toArray, set_cons_zero, set_cons_succ, getElem_toArray, getElem_cons_zero, getElem_cons_succ]
    refine tkY 7 rfl (v := ?_) (.inl ⟨by rfl, ?_⟩) ?_
    case refine_2 => intro w9 hSw; (try dsimp only at hSw); go_simp; (try with_reducible rfl)
    try simp only [Act.put, setIfInBounds_toArray, set_cons_zero, set_cons_succ, getElem_toArray, getElem_cons_zero, getElem_cons_succ]
    refine tkY 8 rfl (v := ?_) (.inl ⟨by rfl, ?_⟩) ?_
    case refine_2 => intro w9 hSw; (try dsimp only at hSw); go_simp; (try with_reducible rfl)
    try simp only [Act.put, setIfInBounds_toArray, set_cons_zero, set_cons_succ, getElem_toArray, getElem_cons_zero, getElem_cons_succ]
    refine wpAnyH_ready (rs := [6]) (by kernel_rfl) (by simp) ?_
    refine (AllReadyH.cons rfl (fun K hK => ?_) AllReadyH.nil)
    go_simp
    (with_reducible refine (read_any ⟨#[49, 47, 51]⟩ (numE (1, 3)) w34 (by decide) (HR.out.belowW R34o.out) (HX.out.belowW R34o.out) aw_third).mono ?_)
    rintro e w35 ⟨v2, rfl, HVv2, HC35⟩
    have R35p := Lib.hid (R34p.out.belowW HC35.out)
    have R35q := Lib.hid (R34q.out.belowW HC35.out)
    have R35n := Lib.hid (R34n.out.belowW HC35.out)
    have R35o := Lib.hid (R34o.out.trans (HC35.out.mono R34o.out.size))
    have R35v := Lib.hid (R34v.out.belowW HC35.out)
    have R35s := Lib.hid (R34s.out.belowW HC35.out)
    have R35u := Lib.hid (HVv2.out)
    go_wp2_with fail
    clear hHeld
    refine hK.out _ _ ?_ (fun hHeld => ?_)
    case refine_1 => exact ⟨R35p.out.cell 0, R35p.out.cell 1, R35q.out.cell 0, R35q.out.cell 1, R35q.out.cell 2, R35q.out.cell 3, R35q.out.cell 4, R35q.out.cell 5⟩
    clear hK K
    try simp only [setIfInBounds_toArray, set_cons_zero, set_cons_succ]
    refine wpAnyH_ready (rs := [9]) (by kernel_rfl) (by simp) ?_
    refine (AllReadyH.cons rfl (fun K hK => ?_) AllReadyH.nil)
    go_simp
    (with_reducible refine (show Calls Tryz.prog 17 #[v2.val, .agg #[.int .i64 1, .int .i64 1, .int .i64 3, .string ⟨#[]⟩, .int .i64 0, .slice none 0 0]] w35 _ from same_any _ (numE (1, 3)) (Nat.le_refl _) (numE (1, 3)) v2 ⟨⟨1, 1, 3, ⟨#[]⟩, 0⟩, none, 0, 0⟩ w35 R35u.out (in_N _ 1 3 (by decide) (by decide))).mono ?_)
    rintro e w36 ⟨r2, rfl, HE2, HC36⟩
    have R36p := Lib.hid (R35p.out.belowW HC36.out)
    have R36q := Lib.hid (R35q.out.belowW HC36.out)
    have R36n := Lib.hid (R35n.out.belowW HC36.out)
    have R36o := Lib.hid (R35o.out.trans (HC36.out.mono R35o.out.size))
    have R36v := Lib.hid (R35v.out.belowW HC36.out)
    have R36s := Lib.hid (R35s.out.belowW HC36.out)
    have R36u := Lib.hid (R35u.out.belowW HC36.out)
    obtain rfl : r2 = true := HE2.out.2 rfl
    go_wp2_with fail
    clear hHeld
    refine hK.out _ _ ?_ (fun hHeld => ?_)
    case refine_1 => exact ⟨R36p.out.cell 0, R36p.out.cell 1, R36q.out.cell 0, R36q.out.cell 1, R36q.out.cell 2, R36q.out.cell 3, R36q.out.cell 4, R36q.out.cell 5⟩
    clear hK K
    try simp only [setIfInBounds_toArray, set_cons_zero, set_cons_succ]
    refine tkY 10 rfl (v := ?_) (.inl ⟨by rfl, ?_⟩) ?_
    case refine_2 => intro w9 hSw; (try dsimp only at hSw); go_simp; (try with_reducible rfl)
    try simp only [Act.put, setIfInBounds_toArray, set_cons_zero, set_cons_succ, getElem_toArray, getElem_cons_zero, getElem_cons_succ]
    refine tkY 11 rfl (v := ?_) (.inl ⟨by rfl, ?_⟩) ?_
    case refine_2 => intro w9 hSw; (try dsimp only at hSw); go_simp; (try with_reducible rfl)
    try simp only [Act.put, setIfInBounds_toArray, set_cons_zero, set_cons_succ, getElem_toArray, getElem_cons_zero, getElem_cons_succ]
    refine tkY 12 rfl (v := ?_) (.inl ⟨by rfl, ?_⟩) ?_
    case refine_2 => intro w9 hSw; (try dsimp only at hSw); go_simp; (try with_reducible rfl)
    try simp only [Act.put, setIfInBounds_toArray, set_cons_zero, set_cons_succ, getElem_toArray, getElem_cons_zero, getElem_cons_succ]
    refine tkY 13 rfl (v := ?_) (.inl ⟨by rfl, ?_⟩) ?_
    case refine_2 => intro w9 hSw; (try dsimp only at hSw); go_simp; (try with_reducible rfl)
    try simp only [Act.put, setIfInBounds_toArray, set_cons_zero, set_cons_succ, getElem_toArray, getElem_cons_zero, getElem_cons_succ]
    refine tkY 14 rfl (v := ?_) (.inl ⟨by rfl, ?_⟩) ?_
    case refine_2 => intro w9 hSw; (try dsimp only at hSw); go_simp; (try with_reducible rfl)
    try simp only [Act.put, setIfInBounds_toArray, set_cons_zero, set_cons_succ, getElem_toArray, getElem_cons_zero, getElem_cons_succ]
    refine tkY 15 rfl (v := ?_) (.inl ⟨by rfl, ?_⟩) ?_
    case refine_2 => intro w9 hSw; (try dsimp only at hSw); go_simp; (try with_reducible rfl)
    try simp only [Act.put, setIfInBounds_toArray, set_cons_zero, set_cons_succ, getElem_toArray, getElem_cons_zero, getElem_cons_succ]
    refine tkY 16 rfl (v := ?_) (.inl ⟨by rfl, ?_⟩) ?_
    case refine_2 => intro w9 hSw; (try dsimp only at hSw); go_simp; (try with_reducible rfl)
    try simp only [Act.put, setIfInBounds_toArray, set_cons_zero, set_cons_succ, getElem_toArray, getElem_cons_zero, getElem_cons_succ]
    refine tkY 17 rfl (v := ?_) (.inl ⟨by rfl, ?_⟩) ?_
    case refine_2 => intro w9 hSw; (try dsimp only at hSw); go_simp; (try with_reducible rfl)
    try simp only [Act.put, setIfInBounds_toArray, set_cons_zero, set_cons_succ, getElem_toArray, getElem_cons_zero, getElem_cons_succ]
    refine tkY 18 rfl (v := ?_) (.inl ⟨by rfl, ?_⟩) ?_
    case refine_2 => intro w9 hSw; (try dsimp only at hSw); go_simp; (try with_reducible rfl)
    try simp only [Act.put, setIfInBounds_toArray, set_cons_zero, set_cons_succ, getElem_toArray, getElem_cons_zero, getElem_cons_succ]
    refine tkY 19 rfl (v := ?_) (.inl ⟨by rfl, ?_⟩) ?_
    case refine_2 => intro w9 hSw; (try dsimp only at hSw); go_simp; (try with_reducible rfl)
    try simp only [Act.put, setIfInBounds_toArray, set_cons_zero, set_cons_succ, getElem_toArray, getElem_cons_zero, getElem_cons_succ]
    refine tkY 20 rfl (v := ?_) (.inl ⟨by rfl, ?_⟩) ?_
    case refine_2 => intro w9 hSw; (try dsimp only at hSw); go_simp; (try with_reducible rfl)
    try simp only [Act.put, setIfInBounds_toArray, set_cons_zero, set_cons_succ, getElem_toArray, getElem_cons_zero, getElem_cons_succ]
    refine tkY 21 rfl (v := ?_) (.inl ⟨by rfl, ?_⟩) ?_
    case refine_2 => intro w9 hSw; (try dsimp only at hSw); go_simp; (try with_reducible rfl)
    try simp only [Act.put, setIfInBounds_toArray, set_cons_zero, set_cons_succ, getElem_toArray, getElem_cons_zero, getElem_cons_succ]
    refine tkY 22 rfl (v := ?_) (.inl ⟨by rfl, ?_⟩) ?_
    case refine_2 => intro w9 hSw; (try dsimp only at hSw); go_simp; (try with_reducible rfl)
    try simp only [Act.put, setIfInBounds_toArray, set_cons_zero, set_cons_succ, getElem_toArray, getElem_cons_zero, getElem_cons_succ]
    refine tkY 23 rfl (v := ?_) (.inl ⟨by rfl, ?_⟩) ?_
    case refine_2 => intro w9 hSw; (try dsimp only at hSw); go_simp; (try with_reducible rfl)
    try simp only [Act.put, setIfInBounds_toArray, set_cons_zero, set_cons_succ, getElem_toArray, getElem_cons_zero, getElem_cons_succ]
    refine tkY 24 rfl (v := ?_) (.inl ⟨by rfl, ?_⟩) ?_
    case refine_2 => intro w9 hSw; (try dsimp only at hSw); go_simp; (try with_reducible rfl)
    try simp only [Act.put, setIfInBounds_toArray, set_cons_zero, getElem_toArray, getElem_cons_zero, getElem_cons_succ]
    refine wpAnyH_done (by kernel_rfl) ?_ _
    go_wp2_with fail
    go_ret
    exact ⟨ret_bool (by simp), R36o⟩
  · go_simp
    obtain ⟨w32, hw⟩ : ∃ z9 : World, z9 = wd31.alloc (Obj.cells #[.int .i64 8, .int .i64 0, .int .i64 0, .string ⟨#[]⟩, .int .i64 2, .slice (some ⟨w.heap.size + 1, 0, none⟩) 1 1] 29) := ⟨_, rfl⟩
    have HC32 := Lib.hid (show Below wd31.heap.size wd31 w32 by rw [hw]; exact below_box _ _)
    have R32p := Lib.hid (R31p.out.belowW HC32.out)
    have R32q := Lib.hid (R31q.out.belowW HC32.out)
    have R32n := Lib.hid (R31n.out.belowW HC32.out)
    have R32o := Lib.hid (R31o.out.trans (HC32.out.mono R31o.out.size))
    have R32s := Lib.hid (show InE w32 sqE ⟨⟨7, 0, 0, ⟨#[]⟩, 0⟩, some ⟨wd31.heap.size, 0, none⟩, 1, 1⟩ by rw [hw]; exact in_new1 wd31 7 0 _ ⟨⟨8, 0, 0, ⟨#[]⟩, 2⟩, some ⟨w.heap.size + 1, 0, none⟩, 1, 1⟩ _ (by decide) d0 R31n.out)
    rw [← hw]
    clear hw
    clear hHeld
    refine hK.out _ _ ?_ (fun hHeld => ?_)
    case refine_1 => exact ⟨R32p.out.cell 0, R32p.out.cell 1, R32q.out.cell 0, R32q.out.cell 1, R32q.out.cell 2, R32q.out.cell 3, R32q.out.cell 4, R32q.out.cell 5⟩
    clear hK K
    try simp only [setIfInBounds_toArray, set_cons_zero, set_cons_succ]
    refine tkY 3 rfl (v := ?_) (.inl ⟨by rfl, ?_⟩) ?_
    case refine_2 => intro w9 hSw; (try dsimp only at hSw); go_simp; (try with_reducible rfl)
    try simp only [Act.put, setIfInBounds_toArray, set_cons_zero, set_cons_succ, getElem_toArray, getElem_cons_zero, getElem_cons_succ]
    refine wpAnyH_ready (rs := [0]) (by kernel_rfl) (by simp) ?_
    refine (AllReadyH.cons rfl (fun K hK => ?_) AllReadyH.nil)
    go_simp
    (with_reducible refine (read_any ⟨#[45, 120, 32, 94, 32, 50]⟩ sqE w32 (by decide) (HR.out.belowW R32o.out) (HX.out.belowW R32o.out) aw_square).mono ?_)
    rintro e w33 ⟨v1, rfl, HVv1, HC33⟩
    have R33p := Lib.hid (R32p.out.belowW HC33.out)
    have R33q := Lib.hid (R32q.out.belowW HC33.out)
    have R33n := Lib.hid (R32n.out.belowW HC33.out)
    have R33o := Lib.hid (R32o.out.trans (HC33.out.mono R32o.out.size))
    have R33s := Lib.hid (R32s.out.belowW HC33.out)
    have R33v := Lib.hid (HVv1.out)
    go_wp2_with fail
    clear hHeld
    refine hK.out _ _ ?_ (fun hHeld => ?_)
    case refine_1 => exact ⟨R33p.out.cell 0, R33p.out.cell 1, R33q.out.cell 0, R33q.out.cell 1, R33q.out.cell 2, R33q.out.cell 3, R33q.out.cell 4, R33q.out.cell 5⟩
    clear hK K
    try simp only [setIfInBounds_toArray, set_cons_zero, set_cons_succ]
    refine wpAnyH_ready (rs := [4]) (by kernel_rfl) (by simp) ?_
    refine (AllReadyH.cons rfl (fun K hK => ?_) AllReadyH.nil)
    go_simp
    (with_reducible refine (show Calls Tryz.prog 17 #[v1.val, .agg #[.int .i64 7, .int .i64 0, .int .i64 0, .string ⟨#[]⟩, .int .i64 0, .slice (some ⟨wd31.heap.size, 0, none⟩) 1 1]] w33 _ from same_any _ sqE (Nat.le_refl _) sqE v1 ⟨⟨7, 0, 0, ⟨#[]⟩, 0⟩, some ⟨wd31.heap.size, 0, none⟩, 1, 1⟩ w33 R33v.out R33s.out).mono ?_)
    rintro e w34 ⟨r1, rfl, HE1, HC34⟩
    have R34p := Lib.hid (R33p.out.belowW HC34.out)
    have R34q := Lib.hid (R33q.out.belowW HC34.out)
    have R34n := Lib.hid (R33n.out.belowW HC34.out)
    have R34o := Lib.hid (R33o.out.trans (HC34.out.mono R33o.out.size))
    have R34s := Lib.hid (R33s.out.belowW HC34.out)
    have R34v := Lib.hid (R33v.out.belowW HC34.out)
    obtain rfl : r1 = true := HE1.out.2 rfl
    go_wp2_with fail
    clear hHeld
    refine hK.out _ _ ?_ (fun hHeld => ?_)
    case refine_1 => exact ⟨R34p.out.cell 0, R34p.out.cell 1, R34q.out.cell 0, R34q.out.cell 1, R34q.out.cell 2, R34q.out.cell 3, R34q.out.cell 4, R34q.out.cell 5⟩
    clear hK K
    try simp only [setIfInBounds_toArray, set_cons_zero, set_cons_succ]
    refine tkY 5 rfl (v := ?_) (.inl ⟨by rfl, ?_⟩) ?_
    case refine_2 => intro w9 hSw; (try dsimp only at hSw); go_simp; (try with_reducible rfl)
    try simp only [Act.put, setIfInBounds_toArray, set_cons_zero, set_cons_succ, getElem_toArray, getElem_cons_zero, getElem_cons_succ]
    refine tkY 7 rfl (v := ?_) (.inl ⟨by rfl, ?_⟩) ?_
    case refine_2 => intro w9 hSw; (try dsimp only at hSw); go_simp; (try with_reducible rfl)
    try simp only [Act.put, setIfInBounds_toArray, set_cons_zero, set_cons_succ, getElem_toArray, getElem_cons_zero, getElem_cons_succ]
    refine tkY 8 rfl (v := ?_) (.inl ⟨by rfl, ?_⟩) ?_
    case refine_2 => intro w9 hSw; (try dsimp only at hSw); go_simp; (try with_reducible rfl)
    try simp only [Act.put, setIfInBounds_toArray, set_cons_zero, set_cons_succ, getElem_toArray, getElem_cons_zero, getElem_cons_succ]
    refine wpAnyH_ready (rs := [6]) (by kernel_rfl) (by simp) ?_
    refine (AllReadyH.cons rfl (fun K hK => ?_) AllReadyH.nil)
    go_simp
    (with_reducible refine (read_any ⟨#[49, 47, 51]⟩ (numE (1, 3)) w34 (by decide) (HR.out.belowW R34o.out) (HX.out.belowW R34o.out) aw_third).mono ?_)
    rintro e w35 ⟨v2, rfl, HVv2, HC35⟩
    have R35p := Lib.hid (R34p.out.belowW HC35.out)
    have R35q := Lib.hid (R34q.out.belowW HC35.out)
    have R35n := Lib.hid (R34n.out.belowW HC35.out)
    have R35o := Lib.hid (R34o.out.trans (HC35.out.mono R34o.out.size))
    have R35s := Lib.hid (R34s.out.belowW HC35.out)
    have R35v := Lib.hid (R34v.out.belowW HC35.out)
    have R35u := Lib.hid (HVv2.out)
    go_wp2_with fail
    clear hHeld
    refine hK.out _ _ ?_ (fun hHeld => ?_)
    case refine_1 => exact ⟨R35p.out.cell 0, R35p.out.cell 1, R35q.out.cell 0, R35q.out.cell 1, R35q.out.cell 2, R35q.out.cell 3, R35q.out.cell 4, R35q.out.cell 5⟩
    clear hK K
    try simp only [setIfInBounds_toArray, set_cons_zero, set_cons_succ]
    refine wpAnyH_ready (rs := [9]) (by kernel_rfl) (by simp) ?_
    refine (AllReadyH.cons rfl (fun K hK => ?_) AllReadyH.nil)
    go_simp
    (with_reducible refine (show Calls Tryz.prog 17 #[v2.val, .agg #[.int .i64 1, .int .i64 1, .int .i64 3, .string ⟨#[]⟩, .int .i64 0, .slice none 0 0]] w35 _ from same_any _ (numE (1, 3)) (Nat.le_refl _) (numE (1, 3)) v2 ⟨⟨1, 1, 3, ⟨#[]⟩, 0⟩, none, 0, 0⟩ w35 R35u.out (in_N _ 1 3 (by decide) (by decide))).mono ?_)
    rintro e w36 ⟨r2, rfl, HE2, HC36⟩
    have R36p := Lib.hid (R35p.out.belowW HC36.out)
    have R36q := Lib.hid (R35q.out.belowW HC36.out)
    have R36n := Lib.hid (R35n.out.belowW HC36.out)
    have R36o := Lib.hid (R35o.out.trans (HC36.out.mono R35o.out.size))
    have R36s := Lib.hid (R35s.out.belowW HC36.out)
    have R36v := Lib.hid (R35v.out.belowW HC36.out)
    have R36u := Lib.hid (R35u.out.belowW HC36.out)
    obtain rfl : r2 = true := HE2.out.2 rfl
    go_wp2_with fail
    clear hHeld
    refine hK.out _ _ ?_ (fun hHeld => ?_)
    case refine_1 => exact ⟨R36p.out.cell 0, R36p.out.cell 1, R36q.out.cell 0, R36q.out.cell 1, R36q.out.cell 2, R36q.out.cell 3, R36q.out.cell 4, R36q.out.cell 5⟩
    clear hK K
    try simp only [setIfInBounds_toArray, set_cons_zero, set_cons_succ]
    refine tkY 10 rfl (v := ?_) (.inl ⟨by rfl, ?_⟩) ?_
    case refine_2 => intro w9 hSw; (try dsimp only at hSw); go_simp; (try with_reducible rfl)
    try simp only [Act.put, setIfInBounds_toArray, set_cons_zero, set_cons_succ, getElem_toArray, getElem_cons_zero, getElem_cons_succ]
    refine tkY 11 rfl (v := ?_) (.inl ⟨by rfl, ?_⟩) ?_
    case refine_2 => intro w9 hSw; (try dsimp only at hSw); go_simp; (try with_reducible rfl)
    try simp only [Act.put, setIfInBounds_toArray, set_cons_zero, set_cons_succ, getElem_toArray, getElem_cons_zero, getElem_cons_succ]
    refine tkY 12 rfl (v := ?_) (.inl ⟨by rfl, ?_⟩) ?_
    case refine_2 => intro w9 hSw; (try dsimp only at hSw); go_simp; (try with_reducible rfl)
    try simp only [Act.put, setIfInBounds_toArray, set_cons_zero, set_cons_succ, getElem_toArray, getElem_cons_zero, getElem_cons_succ]
    refine tkY 13 rfl (v := ?_) (.inl ⟨by rfl, ?_⟩) ?_
    case refine_2 => intro w9 hSw; (try dsimp only at hSw); go_simp; (try with_reducible rfl)
    try simp only [Act.put, setIfInBounds_toArray, set_cons_zero, set_cons_succ, getElem_toArray, getElem_cons_zero, getElem_cons_succ]
    refine tkY 14 rfl (v := ?_) (.inl ⟨by rfl, ?_⟩) ?_
    case refine_2 => intro w9 hSw; (try dsimp only at hSw); go_simp; (try with_reducible rfl)
    try simp only [Act.put, setIfInBounds_toArray, set_cons_zero, set_cons_succ, getElem_toArray, getElem_cons_zero, getElem_cons_succ]
    refine tkY 15 rfl (v := ?_) (.inl ⟨by rfl, ?_⟩) ?_
    case refine_2 => intro w9 hSw; (try dsimp only at hSw); go_simp; (try with_reducible rfl)
    try simp only [Act.put, setIfInBounds_toArray, set_cons_zero, set_cons_succ, getElem_toArray, getElem_cons_zero, getElem_cons_succ]
    refine tkY 16 rfl (v := ?_) (.inl ⟨by rfl, ?_⟩) ?_
    case refine_2 => intro w9 hSw; (try dsimp only at hSw); go_simp; (try with_reducible rfl)
    try simp only [Act.put, setIfInBounds_toArray, set_cons_zero, set_cons_succ, getElem_toArray, getElem_cons_zero, getElem_cons_succ]
    refine tkY 17 rfl (v := ?_) (.inl ⟨by rfl, ?_⟩) ?_
    case refine_2 => intro w9 hSw; (try dsimp only at hSw); go_simp; (try with_reducible rfl)
    try simp only [Act.put, setIfInBounds_toArray, set_cons_zero, set_cons_succ, getElem_toArray, getElem_cons_zero, getElem_cons_succ]
    refine tkY 18 rfl (v := ?_) (.inl ⟨by rfl, ?_⟩) ?_
    case refine_2 => intro w9 hSw; (try dsimp only at hSw); go_simp; (try with_reducible rfl)
    try simp only [Act.put, setIfInBounds_toArray, set_cons_zero, set_cons_succ, getElem_toArray, getElem_cons_zero, getElem_cons_succ]
    refine tkY 19 rfl (v := ?_) (.inl ⟨by rfl, ?_⟩) ?_
    case refine_2 => intro w9 hSw; (try dsimp only at hSw); go_simp; (try with_reducible rfl)
    try simp only [Act.put, setIfInBounds_toArray, set_cons_zero, set_cons_succ, getElem_toArray, getElem_cons_zero, getElem_cons_succ]
    refine tkY 20 rfl (v := ?_) (.inl ⟨by rfl, ?_⟩) ?_
    case refine_2 => intro w9 hSw; (try dsimp only at hSw); go_simp; (try with_reducible rfl)
    try simp only [Act.put, setIfInBounds_toArray, set_cons_zero, set_cons_succ, getElem_toArray, getElem_cons_zero, getElem_cons_succ]
    refine tkY 21 rfl (v := ?_) (.inl ⟨by rfl, ?_⟩) ?_
    case refine_2 => intro w9 hSw; (try dsimp only at hSw); go_simp; (try with_reducible rfl)
    try simp only [Act.put, setIfInBounds_toArray, set_cons_zero, set_cons_succ, getElem_toArray, getElem_cons_zero, getElem_cons_succ]
    refine tkY 22 rfl (v := ?_) (.inl ⟨by rfl, ?_⟩) ?_
    case refine_2 => intro w9 hSw; (try dsimp only at hSw); go_simp; (try with_reducible rfl)
    try simp only [Act.put, setIfInBounds_toArray, set_cons_zero, set_cons_succ, getElem_toArray, getElem_cons_zero, getElem_cons_succ]
    refine tkY 23 rfl (v := ?_) (.inl ⟨by rfl, ?_⟩) ?_
    case refine_2 => intro w9 hSw; (try dsimp only at hSw); go_simp; (try with_reducible rfl)
    try simp only [Act.put, setIfInBounds_toArray, set_cons_zero, set_cons_succ, getElem_toArray, getElem_cons_zero, getElem_cons_succ]
    refine tkY 24 rfl (v := ?_) (.inl ⟨by rfl, ?_⟩) ?_
    case refine_2 => intro w9 hSw; (try dsimp only at hSw); go_simp; (try with_reducible rfl)
    try simp only [Act.put, setIfInBounds_toArray, set_cons_zero, getElem_toArray, getElem_cons_zero, getElem_cons_succ]
    refine wpAnyH_done (by kernel_rfl) ?_ _
    go_wp2_with fail
    go_ret
    exact ⟨ret_bool (by simp), R36o⟩
end Go.Proofs.YtkjoohnndobjeaaGreatDoor
