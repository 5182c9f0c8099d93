/-
 The walk of ParseParts.
-/
import Derived.Test.YtkjoohnndobjeaaGreatDoorPgC
import Derived.Test.YtkjoohnndobjeaaGreatDoorPgI
import Derived.Test.YtkjoohnndobjeaaGreatDoorPbH
import Derived.Test.YtkjoohnndobjeaaGreatDoorPbI
import Derived.Test.YtkjoohnndobjeaaGreatDoorPbF
import Derived.Test.YtkjoohnndobjeaaGreatDoorQY
import Derived.Test.YtkjoohnndobjeaaGreatDoorQZ
import Derived.Test.YtkjoohnndobjeaaGreatDoorTkD
set_option linter.unusedVariables false
set_option maxHeartbeats 40000000
set_option maxRecDepth 100000
namespace Go.Proofs.YtkjoohnndobjeaaGreatDoor
open Go.RowKit Go.Lib Go.Fl Go.Fl.Lx Go.Fl.Nm Go.Fl.Fm Go.Fl.Rt Go.Fl.Pa
open List (setIfInBounds_toArray set_cons_zero set_cons_succ getElem_toArray getElem_cons_zero getElem_cons_succ)
theorem lsz (x : ByteArray) : x.data.toList.length = x.size := by simp
theorem no35 {a b c : ByteArray} (h : decide (0 ≤ Lib.indexByte (a ++ b ++ c).data.toList 35) = false) : (35 : UInt8) ∉ a.data.toList ∧ (35 : UInt8) ∉ b.data.toList ∧ (35 : UInt8) ∉ c.data.toList := by
 rw [decide_eq_false_iff_not, indexByte_nonneg] at h
 simp only [ByteArray.data_append, Array.toList_append, List.mem_append, not_or] at h
 exact ⟨h.1.1, h.1.2, h.2⟩
theorem run_eq_dcl1 (w : World) (s : ByteArray) (a b c d : Int) :
  (binOp .eql 76 (.agg #[.string s, .int .i64 a, .int .i64 b, .int .i64 c, .int .i64 d]) (.agg #[.string s, .int .i64 a, .int .i64 b, .int .i64 c, .int .i64 d])).run Tryz.prog w = .ok (.bool true) w := by
 simp [go_sem]

theorem parseParts_any (a0 a1 a2 : ByteArray) (w : World) (w0 : a0.size ≤ maxLen) (w1 : a1.size ≤ maxLen) (w2 : a2.size ≤ maxLen) (hR : RX w) (hX : FX w) : Calls Tryz.prog 8 #[.string a0, .string a1, .string a2] w (RetB (.bool true) w) := by
  have HR := hI hR
  have HX := hI hX
  clear hR hX
  have ja := run_eq_rat
  have ds := hI (Below.refl w.heap.size w)
  go_enter Tryz.func8, Tryz.ntmps8
  go_wp2_with fail
  refine (awake14_any w HR.out HX.out).mono ?_
  rintro e ww1 ⟨rfl, cl⟩
  have U := hI (ds.out.trans (cl.out.mono ds.out.size))
  have V := hI (HR.out.belowW cl.out)
  have W := hI (HX.out.belowW cl.out)
  by_cases h0 : a0.size ≤ 300
  case neg =>
    have d0 : decide ((300 : Int) < (a0.size : Int)) = true := decide_eq_true (by omega)
    have e0 : decide (300 < a0.size) = true := decide_eq_true (by omega)
    go_wp2_with fail
    refine (awake14_any ww1 V.out W.out).mono ?_
    rintro e ww2 ⟨rfl, cm⟩
    have fk := hI (U.out.trans (cm.out.mono U.out.size))
    have jb := hI (V.out.belowW cm.out)
    have jc := hI (W.out.belowW cm.out)
    go_wp2_with fail
    go_ret
    exact ⟨rfl, fk⟩
  have d0 : decide ((300 : Int) < (a0.size : Int)) = false := decide_eq_false (by omega)
  have e0 : decide (300 < a0.size) = false := decide_eq_false (by omega)
  by_cases h1 : a1.size ≤ 300
  case neg =>
    have d1 : decide ((300 : Int) < (a1.size : Int)) = true := decide_eq_true (by omega)
    have e1 : decide (300 < a1.size) = true := decide_eq_true (by omega)
    go_wp2_with fail
    refine (awake14_any ww1 V.out W.out).mono ?_
    rintro e ww3 ⟨rfl, cn⟩
    have fl := hI (U.out.trans (cn.out.mono U.out.size))
    have jd := hI (V.out.belowW cn.out)
    have je := hI (W.out.belowW cn.out)
    go_wp2_with fail
    go_ret
    exact ⟨rfl, fl⟩
  have d1 : decide ((300 : Int) < (a1.size : Int)) = false := decide_eq_false (by omega)
  have e1 : decide (300 < a1.size) = false := decide_eq_false (by omega)
  by_cases h2 : a2.size ≤ 300
  case neg =>
    have d2 : decide ((300 : Int) < (a2.size : Int)) = true := decide_eq_true (by omega)
    have e2 : decide (300 < a2.size) = true := decide_eq_true (by omega)
    go_wp2_with fail
    refine (awake14_any ww1 V.out W.out).mono ?_
    rintro e ww4 ⟨rfl, co⟩
    have fm := hI (U.out.trans (co.out.mono U.out.size))
    have jf := hI (V.out.belowW co.out)
    have jg := hI (W.out.belowW co.out)
    go_wp2_with fail
    go_ret
    exact ⟨rfl, fm⟩
  have d2 : decide ((300 : Int) < (a2.size : Int)) = false := decide_eq_false (by omega)
  have e2 : decide (300 < a2.size) = false := decide_eq_false (by omega)
  go_wp2_with fail
  refine (Tryz.strings_Contains_one (a0 ++ a1 ++ a2) 35 _).mono ?_
  obtain ⟨c, hc⟩ : ∃ c, decide (0 ≤ Lib.indexByte (a0 ++ a1 ++ a2).data.toList 35) = c := ⟨_, rfl⟩
  rw [hc]
  rintro e w' ⟨rfl, dw⟩
  rw [dw]
  clear dw
  cases c with
  | true =>
    clear hc
    go_wp2_with fail
    refine (awake14_any ww1 V.out W.out).mono ?_
    rintro e ww5 ⟨rfl, cp⟩
    have fn := hI (U.out.trans (cp.out.mono U.out.size))
    have jh := hI (V.out.belowW cp.out)
    have ji := hI (W.out.belowW cp.out)
    go_wp2_with fail
    go_ret
    exact ⟨rfl, fn⟩
  | false =>
    obtain ⟨n0, n1, n2⟩ := no35 hc
    have N0 := hI n0
    have N1 := hI n1
    have N2 := hI n2
    clear hc n0 n1 n2 d0 d1 d2 e0 e1 e2
    have b2 := hI (fun h => range_inv (l := a0.data.toList) h)
    go_wp2_with fail
    refine (pRangeX a0 ww1 w0 V.out W.out).mono ?_
    rintro e ww6 ⟨i, rfl, cq, d6⟩
    have d7 := hI (U.out.trans (cq.out.mono U.out.size))
    have fo := hI (V.out.belowW cq.out)
    have fp := hI (W.out.belowW cq.out)
    have b3 := hI d6
    clear d6
    obtain ⟨fq, d8⟩ := eX (rangeR a0.data.toList)
    rw [← d8] at b3 b2 ⊢
    clear d8
    obtain ⟨⟨cr, cs, ct⟩, o0⟩ := fq
    simp only at b3 b2 ⊢
    go_upto_region 4 with (fail)
    obtain ⟨b4, j⟩ := eX (((ww6.alloc (Obj.cells #[.int .i64 i.lo.1, .int .i64 i.lo.2, .int .i64 i.hi.1, .int .i64 i.hi.2] 62)).alloc (Obj.cells #[.int .i64 (cr : Nat), .int .i64 (cs : Nat)] 40)))
    have cu := hI (show Below ww6.heap.size ww6 b4 by rw [j]; exact (below_box _ _).trans ((below_box _ _).mono (by simp)))
    have fr := hI (show Blk b4 (ww6.heap.size) 62 #[.int .i64 i.lo.1, .int .i64 i.lo.2, .int .i64 i.hi.1, .int .i64 i.hi.2] by rw [j]; exact Blk.belowW (Blk.new ww6 62 #[.int .i64 i.lo.1, .int .i64 i.lo.2, .int .i64 i.hi.1, .int .i64 i.hi.2]) (below_box _ _))
    have fs := hI (show Blk b4 (ww6.heap.size + 1) 40 #[.int .i64 (cr : Nat), .int .i64 (cs : Nat)] by rw [j]; exact (by have := Blk.new (ww6.alloc (Obj.cells #[.int .i64 i.lo.1, .int .i64 i.lo.2, .int .i64 i.hi.1, .int .i64 i.hi.2] 62)) 40 #[.int .i64 (cr : Nat), .int .i64 (cs : Nat)]; simpa using this))
    rw [← j]
    clear j
    have d9 := hI (d7.out.trans (cu.out.mono d7.out.size))
    have ea := hI (fo.out.belowW cu.out)
    have eb := hI (fp.out.belowW cu.out)
    have ft : ct = 0 ∨ (((ct : Nat) : Int) != 0) = true := by
      by_cases h : ct = 0
      · exact .inl h
      · exact .inr (by rw [bne_iff_ne]; omega)
    have b5 := hI (fun h => expr_inv (l := a1.data.toList) h)
    go_wp2_with fail
    refine (pExpr a1 b4 w1 ea.out eb.out).mono ?_
    rintro e ww8 ⟨a, rfl, bh, ec⟩
    have ed := hI (d9.out.trans (bh.out.mono d9.out.size))
    have fu := hI (ea.out.belowW bh.out)
    have fv := hI (eb.out.belowW bh.out)
    have fw := hI (fr.out.belowW bh.out)
    have fx := hI (fs.out.belowW bh.out)
    have b6 := hI ec
    clear ec
    obtain ⟨fy, ef⟩ := eX (exprR a1.data.toList)
    rw [← ef] at b6 b5 ⊢
    clear ef
    obtain ⟨⟨cv, cw, cx⟩, o1⟩ := fy
    simp only at b6 b5 ⊢
    have eg := hI (Below.refl ww8.heap.size ww8)
    go_upto_region 5 with (fail)
    obtain ⟨b7, j⟩ := eX (((ww8.alloc (Obj.cells #[.int .i64 a.h.kind, .int .i64 a.h.n, .int .i64 a.h.d, .string a.h.name, .int .i64 a.h.k, .slice a.A a.len a.cap] 29)).alloc (Obj.cells #[.int .i64 (cv : Nat), .int .i64 (cw : Nat)] 40)))
    have a7 := hI (show Below ww8.heap.size ww8 b7 by rw [j]; exact (below_box _ _).trans ((below_box _ _).mono (by simp)))
    have fz := hI (show Blk b7 (ww8.heap.size) 29 #[.int .i64 a.h.kind, .int .i64 a.h.n, .int .i64 a.h.d, .string a.h.name, .int .i64 a.h.k, .slice a.A a.len a.cap] by rw [j]; exact Blk.belowW (Blk.new ww8 29 #[.int .i64 a.h.kind, .int .i64 a.h.n, .int .i64 a.h.d, .string a.h.name, .int .i64 a.h.k, .slice a.A a.len a.cap]) (below_box _ _))
    have f0 := hI (show Blk b7 (ww8.heap.size + 1) 40 #[.int .i64 (cv : Nat), .int .i64 (cw : Nat)] by rw [j]; exact (by have := Blk.new (ww8.alloc (Obj.cells #[.int .i64 a.h.kind, .int .i64 a.h.n, .int .i64 a.h.d, .string a.h.name, .int .i64 a.h.k, .slice a.A a.len a.cap] 29)) 40 #[.int .i64 (cv : Nat), .int .i64 (cw : Nat)]; simpa using this))
    rw [← j]
    clear j
    have eh := hI (ed.out.trans (a7.out.mono ed.out.size))
    have ei := hI (fu.out.belowW a7.out)
    have ej := hI (fv.out.belowW a7.out)
    have f1 := hI (fw.out.belowW a7.out)
    have f2 := hI (fx.out.belowW a7.out)
    have ek := hI (eg.out.trans (a7.out.mono eg.out.size))
    have f3 : cx = 0 ∨ (((cx : Nat) : Int) != 0) = true := by
      by_cases h : cx = 0
      · exact .inl h
      · exact .inr (by rw [bne_iff_ne]; omega)
    have b8 := hI (fun h => expr_inv (l := a2.data.toList) h)
    go_wp2_with fail
    refine (pExpr a2 b7 w2 ei.out ej.out).mono ?_
    rintro e ww10 ⟨b, rfl, aj, el⟩
    have em := hI (eh.out.trans (aj.out.mono eh.out.size))
    have f4 := hI (ei.out.belowW aj.out)
    have f5 := hI (ej.out.belowW aj.out)
    have f6 := hI (f1.out.belowW aj.out)
    have f7 := hI (f2.out.belowW aj.out)
    have en := hI (ek.out.trans (aj.out.mono ek.out.size))
    have f8 := hI (fz.out.belowW aj.out)
    have f9 := hI (f0.out.belowW aj.out)
    have b9 := hI el
    clear el
    obtain ⟨ga, eo⟩ := eX (exprR a2.data.toList)
    rw [← eo] at b9 b8 ⊢
    clear eo
    obtain ⟨⟨cy, cz, c0⟩, o2⟩ := ga
    simp only at b9 b8 ⊢
    have ep := hI (Below.refl ww10.heap.size ww10)
    go_upto_region 6 with (fail)
    obtain ⟨ca, j⟩ := eX (((ww10.alloc (Obj.cells #[.int .i64 b.h.kind, .int .i64 b.h.n, .int .i64 b.h.d, .string b.h.name, .int .i64 b.h.k, .slice b.A b.len b.cap] 29)).alloc (Obj.cells #[.int .i64 (cy : Nat), .int .i64 (cz : Nat)] 40)))
    have ae := hI (show Below ww10.heap.size ww10 ca by rw [j]; exact (below_box _ _).trans ((below_box _ _).mono (by simp)))
    have gb := hI (show Blk ca (ww10.heap.size) 29 #[.int .i64 b.h.kind, .int .i64 b.h.n, .int .i64 b.h.d, .string b.h.name, .int .i64 b.h.k, .slice b.A b.len b.cap] by rw [j]; exact Blk.belowW (Blk.new ww10 29 #[.int .i64 b.h.kind, .int .i64 b.h.n, .int .i64 b.h.d, .string b.h.name, .int .i64 b.h.k, .slice b.A b.len b.cap]) (below_box _ _))
    have gc := hI (show Blk ca (ww10.heap.size + 1) 40 #[.int .i64 (cy : Nat), .int .i64 (cz : Nat)] by rw [j]; exact (by have := Blk.new (ww10.alloc (Obj.cells #[.int .i64 b.h.kind, .int .i64 b.h.n, .int .i64 b.h.d, .string b.h.name, .int .i64 b.h.k, .slice b.A b.len b.cap] 29)) 40 #[.int .i64 (cy : Nat), .int .i64 (cz : Nat)]; simpa using this))
    rw [← j]
    clear j
    have bi := hI (em.out.trans (ae.out.mono em.out.size))
    have eq := hI (f4.out.belowW ae.out)
    have er := hI (f5.out.belowW ae.out)
    have gd := hI (f6.out.belowW ae.out)
    have ge := hI (f7.out.belowW ae.out)
    have gf := hI (en.out.trans (ae.out.mono en.out.size))
    have gg := hI (f8.out.belowW ae.out)
    have gh := hI (f9.out.belowW ae.out)
    have gi := hI (ep.out.trans (ae.out.mono ep.out.size))
    have gj : c0 = 0 ∨ (((c0 : Nat) : Int) != 0) = true := by
      by_cases h : c0 = 0
      · exact .inl h
      · exact .inr (by rw [bne_iff_ne]; omega)
    rcases ft with hz0 | hz0
    case inr =>
      go_wp2_with fail
      go_ret
      exact ⟨rfl, bi⟩
    subst hz0
    rcases f3 with hz1 | hz1
    case inr =>
      go_wp2_with fail
      go_ret
      exact ⟨rfl, bi⟩
    subst hz1
    rcases gj with hz2 | hz2
    case inr =>
      go_wp2_with fail
      go_ret
      exact ⟨rfl, bi⟩
    subst hz2
    obtain ⟨ss, r, i1, i2, i3⟩ := b2.out rfl
    obtain ⟨es, X, i4, i5, i6⟩ := b5.out rfl
    obtain ⟨gs, G, i7, i8, i9⟩ := b8.out rfl
    subst i3 i6 i9
    obtain ⟨T0, t0, z0⟩ := b3.out.2 rfl
    obtain ⟨T1, t1, z1⟩ := b6.out.2 rfl
    obtain ⟨T2, t2, z2⟩ := b9.out.2 rfl
    injection t0 with t0
    injection t1 with t1
    injection t2 with t2
    subst t0 t1 t2
    obtain rfl := z0.pl
    have gn := hI (z1.toE.go gf.out)
    have gp := hI (z2.toE.go gi.out)
    clear z1 z2
    obtain ⟨L, cd⟩ : ∃ L : ByteArray, L = ((((((((((⟨#[112, 97, 114, 97, 109, 32, 97, 32, 105, 110, 32]⟩ ++ a0) ++ ⟨#[59, 32, 115, 116, 97, 116, 101, 32, 120, 32, 105, 110, 32]⟩) ++ a0) ++ ⟨#[59, 32, 109, 111, 100, 101, 32, 109, 32, 123, 32, 119, 104, 101, 110, 32]⟩) ++ a2) ++ ⟨#[32, 102, 97, 108, 108, 115, 32, 103, 111, 116, 111, 32, 110, 32, 119, 105, 116, 104, 32, 120, 32, 61, 32]⟩) ++ a1) ++ ⟨#[59, 32, 120, 39, 32, 61, 32]⟩) ++ a1) ++ ⟨#[59, 32, 125, 32, 109, 111, 100, 101, 32, 110, 32, 123, 32, 120, 39, 32, 61, 32, 48, 59, 32, 125, 32, 116, 105, 109, 101, 32, 51, 47, 50, 59]⟩) := ⟨_, rfl⟩
    have hL : L.data.toList = joinX a0.data.toList a1.data.toList a2.data.toList := by
      rw [cd]
      simp only [ByteArray.data_append, Array.toList_append, List.append_assoc]
      rfl
    have z0 : (⟨#[112, 97, 114, 97, 109, 32, 97, 32, 105, 110, 32]⟩ : ByteArray).size = 11 := rfl
    have z1 : (⟨#[59, 32, 115, 116, 97, 116, 101, 32, 120, 32, 105, 110, 32]⟩ : ByteArray).size = 13 := rfl
    have z2 : (⟨#[59, 32, 109, 111, 100, 101, 32, 109, 32, 123, 32, 119, 104, 101, 110, 32]⟩ : ByteArray).size = 16 := rfl
    have z3 : (⟨#[32, 102, 97, 108, 108, 115, 32, 103, 111, 116, 111, 32, 110, 32, 119, 105, 116, 104, 32, 120, 32, 61, 32]⟩ : ByteArray).size = 23 := rfl
    have z4 : (⟨#[59, 32, 120, 39, 32, 61, 32]⟩ : ByteArray).size = 7 := rfl
    have z5 : (⟨#[59, 32, 125, 32, 109, 111, 100, 101, 32, 110, 32, 123, 32, 120, 39, 32, 61, 32, 48, 59, 32, 125, 32, 116, 105, 109, 101, 32, 51, 47, 50, 59]⟩ : ByteArray).size = 32 := rfl
    have ez : L.size ≤ 1700 := by
      rw [cd]
      simp only [ByteArray.size_append, z0, z1, z2, z3, z4, z5]
      omega
    have HP := hI (show probR L.data.toList = ((0, 0, 0), some (joinP i X G)) by
      have gq : (joinX a0.data.toList a1.data.toList a2.data.toList).length ≤ 65536 := by
        rw [← hL, lsz]
        omega
      obtain ⟨ts, e1, e2⟩ := join_text i1 i4 i7 N0.out N1.out N2.out gq i2 i5 i8
      rw [hL]
      exact run_ok9 e1 e2 (join_ok i2 i5.o i8.o))
    have gr : L.size ≤ maxLen := Nat.le_trans ez (by decide)
    clear hL ez i1 i2 i4 i5 i7 i8 b2 b5 b8 b3 b6 b9 N0 N1 N2 z0 z1 z2 z3 z4 z5
    have e4 := hI cd
    clear cd
    go_wp2_with fail
    rw [← e4.out]
    clear e4
    refine (pProblemX L ca gr eq.out er.out).mono ?_
    rintro e ww12 ⟨vp, rfl, R, da⟩
    have e5 := hI (bi.out.trans (R.out.mono bi.out.size))
    have gt := hI (eq.out.belowW R.out)
    have gu := hI (er.out.belowW R.out)
    have gw := hI (gd.out.belowW R.out)
    have gx := hI (ge.out.belowW R.out)
    have gy := hI (gg.out.belowW R.out)
    have gz := hI (gh.out.belowW R.out)
    have g0 := hI (gb.out.belowW R.out)
    have g1 := hI (gc.out.belowW R.out)
    have g2 := hI (gn.out.belowW R.out)
    have g3 := hI (gp.out.belowW R.out)
    rw [HP.out] at da
    rw [HP.out]
    obtain ⟨TP, tp, zp⟩ := da.2 rfl
    injection tp with tp
    subst tp
    obtain ⟨Y, Z, bp, op, bm, om, P, Q, M, N, br, or, cc, dd, ee, c1, d1, c2, jv, B, C, D, J⟩ := jo_of zp.z.toP zp.pl
    obtain rfl := J.v
    have Js := hI J.s
    have Jp := hI J.p
    have g7 := hI J.m
    have Jf := hI J.f
    have Je := hI J.e
    have Jo := hI J.r
    have Jq := hI J.q
    have Jg := hI J.g
    have Jz := hI J.x
    clear J da zp
    go_upto_region 9 with (fail)
    obtain ⟨O, j⟩ := eX (((ww12.alloc (Obj.cells #[.slice (some ⟨Y, Z, none⟩) 1 cc, .slice (some ⟨bp, op, none⟩) 1 dd, .slice (some ⟨bm, om, none⟩) 2 ee, .int .i64 3, .int .i64 2] 68)).alloc (Obj.cells #[.int .i64 0, .int .i64 0] 40)))
    have y := hI (show Below ww12.heap.size ww12 O by rw [j]; exact (below_box _ _).trans ((below_box _ _).mono (by simp)))
    have de := hI (show Blk O (ww12.heap.size) 68 #[.slice (some ⟨Y, Z, none⟩) 1 cc, .slice (some ⟨bp, op, none⟩) 1 dd, .slice (some ⟨bm, om, none⟩) 2 ee, .int .i64 3, .int .i64 2] by rw [j]; exact Blk.belowW (Blk.new ww12 68 #[.slice (some ⟨Y, Z, none⟩) 1 cc, .slice (some ⟨bp, op, none⟩) 1 dd, .slice (some ⟨bm, om, none⟩) 2 ee, .int .i64 3, .int .i64 2]) (below_box _ _))
    have e6 := hI (show Blk O (ww12.heap.size + 1) 40 #[.int .i64 0, .int .i64 0] by rw [j]; exact (by have := Blk.new (ww12.alloc (Obj.cells #[.slice (some ⟨Y, Z, none⟩) 1 cc, .slice (some ⟨bp, op, none⟩) 1 dd, .slice (some ⟨bm, om, none⟩) 2 ee, .int .i64 3, .int .i64 2] 68)) 40 #[.int .i64 0, .int .i64 0]; simpa using this))
    rw [← j]
    clear j
    have e7 := hI (e5.out.trans (y.out.mono e5.out.size))
    have hf := hI (gt.out.belowW y.out)
    have hg := hI (gu.out.belowW y.out)
    have hh := hI (gw.out.belowW y.out)
    have hj := hI (gx.out.belowW y.out)
    have hk := hI (gy.out.belowW y.out)
    have hl := hI (gz.out.belowW y.out)
    have hm := hI (g0.out.belowW y.out)
    have hn := hI (g1.out.belowW y.out)
    have ho := hI (g2.out.belowW y.out)
    have hp := hI (g3.out.belowW y.out)
    have hq := hI (Js.out.belowW y.out)
    have hr := hI (Jp.out.belowW y.out)
    have ce := hI (g7.out.belowW y.out)
    have hs := hI (Jf.out.belowW y.out)
    have ht := hI (Je.out.belowW y.out)
    have hu := hI (Jo.out.belowW y.out)
    have hv := hI (Jq.out.belowW y.out)
    have hw := hI (Jg.out.belowW y.out)
    have hx := hI (Jz.out.belowW y.out)
    obtain ⟨df, _, dg, _, dh, _, di, _, dj, _⟩ := de.out.all5
    obtain ⟨hy, _, hz, _⟩ := e6.out.all2
    go_upto_region 11 with (fail)
    clear df dg dh di dj hy hz
    obtain ⟨df, _, dg, _, dh, _, di, _, dj, _⟩ := de.out.all5
    have h3 : O.cell? ⟨bm, om, none⟩ = some (.string ⟨#[109]⟩) := ce.out.c 0 _ rfl
    have h4 : O.cell? ⟨bm, om + 1, none⟩ = some (.slice (some ⟨P, Q, none⟩) 1 c1) := ce.out.c 1 _ rfl
    have h5 : O.cell? ⟨bm, om + 2, none⟩ = some (.slice (some ⟨M, N, none⟩) 1 d1) := ce.out.c 2 _ rfl
    go_upto_region 12 with (fail)
    obtain ⟨cf, j⟩ := eX ((O.alloc (Obj.cells #[.string ⟨#[109]⟩, .slice (some ⟨P, Q, none⟩) 1 c1, .slice (some ⟨M, N, none⟩) 1 d1] 74)))
    have u := hI (show Below O.heap.size O cf by rw [j]; exact below_box _ _)
    have h6 := hI (show Blk cf (O.heap.size) 74 #[.string ⟨#[109]⟩, .slice (some ⟨P, Q, none⟩) 1 c1, .slice (some ⟨M, N, none⟩) 1 d1] by rw [j]; exact Blk.new O 74 #[.string ⟨#[109]⟩, .slice (some ⟨P, Q, none⟩) 1 c1, .slice (some ⟨M, N, none⟩) 1 d1])
    rw [← j]
    clear j
    have e8 := hI (e7.out.trans (u.out.mono e7.out.size))
    have jw := hI (hf.out.belowW u.out)
    have jx := hI (hg.out.belowW u.out)
    have h7 := hI (hh.out.belowW u.out)
    have jy := hI (hj.out.belowW u.out)
    have h8 := hI (hk.out.belowW u.out)
    have jz := hI (hl.out.belowW u.out)
    have h9 := hI (hm.out.belowW u.out)
    have j0 := hI (hn.out.belowW u.out)
    have ia := hI (ho.out.belowW u.out)
    have ib := hI (hp.out.belowW u.out)
    have ic := hI (hq.out.belowW u.out)
    have id := hI (hr.out.belowW u.out)
    have j1 := hI (ce.out.belowW u.out)
    have ie := hI (hs.out.belowW u.out)
    have ig := hI (ht.out.belowW u.out)
    have ii := hI (hu.out.belowW u.out)
    have ij := hI (hv.out.belowW u.out)
    have ik := hI (hw.out.belowW u.out)
    have il := hI (hx.out.belowW u.out)
    have im := hI (de.out.belowW u.out)
    have j2 := hI (e6.out.belowW u.out)
    clear df dg dh di dj h3 h4 h5
    have j3 := run_eq_dcl1
    have E := hI (below_dr cf)
    have dk := hI (e8.out.trans (E.out.mono e8.out.size))
    have bt := hI (im.out.belowW E.out)
    have a8 := hI (h7.out.belowW E.out)
    have ao := hI (h8.out.belowW E.out)
    have ap := hI (h9.out.belowW E.out)
    have bu := hI (h6.out.belowW E.out)
    have aw := hI (ic.out.belowW E.out)
    have ax := hI (id.out.belowW E.out)
    have af := hI (ie.out.belowW E.out)
    have T := hI (ig.out.belowW E.out)
    have ag := hI (ii.out.belowW E.out)
    have dl := hI (ij.out.belowW E.out)
    have e9 := hI (ik.out.belowW E.out)
    have fa := hI (il.out.belowW E.out)
    have dm := hI (ia.out.belowW E.out)
    have fb := hI (ib.out.belowW E.out)
    refine wp_region_held_drew (S := fun w' => w'.cell? ⟨ww12.heap.size, 0, none⟩ = some (.slice (some ⟨Y, Z, none⟩) 1 cc) ∧ w'.cell? ⟨ww12.heap.size, 1, none⟩ = some (.slice (some ⟨bp, op, none⟩) 1 dd) ∧ w'.cell? ⟨ww12.heap.size, 2, none⟩ = some (.slice (some ⟨bm, om, none⟩) 2 ee) ∧ w'.cell? ⟨ww6.heap.size, 0, none⟩ = some (.int .i64 i.lo.1) ∧ w'.cell? ⟨ww6.heap.size, 1, none⟩ = some (.int .i64 i.lo.2) ∧ w'.cell? ⟨ww6.heap.size, 2, none⟩ = some (.int .i64 i.hi.1) ∧ w'.cell? ⟨ww6.heap.size, 3, none⟩ = some (.int .i64 i.hi.2) ∧ w'.cell? ⟨ww8.heap.size, 0, none⟩ = some (.int .i64 a.h.kind) ∧ w'.cell? ⟨ww8.heap.size, 1, none⟩ = some (.int .i64 a.h.n) ∧ w'.cell? ⟨ww8.heap.size, 2, none⟩ = some (.int .i64 a.h.d) ∧ w'.cell? ⟨ww8.heap.size, 3, none⟩ = some (.string a.h.name) ∧ w'.cell? ⟨ww8.heap.size, 4, none⟩ = some (.int .i64 a.h.k) ∧ w'.cell? ⟨ww8.heap.size, 5, none⟩ = some (.slice a.A a.len a.cap) ∧ w'.cell? ⟨ww10.heap.size, 0, none⟩ = some (.int .i64 b.h.kind) ∧ w'.cell? ⟨ww10.heap.size, 1, none⟩ = some (.int .i64 b.h.n) ∧ w'.cell? ⟨ww10.heap.size, 2, none⟩ = some (.int .i64 b.h.d) ∧ w'.cell? ⟨ww10.heap.size, 3, none⟩ = some (.string b.h.name) ∧ w'.cell? ⟨ww10.heap.size, 4, none⟩ = some (.int .i64 b.h.k) ∧ w'.cell? ⟨ww10.heap.size, 5, none⟩ = some (.slice b.A b.len b.cap) ∧ w'.cell? ⟨O.heap.size, 0, none⟩ = some (.string ⟨#[109]⟩) ∧ w'.cell? ⟨O.heap.size, 1, none⟩ = some (.slice (some ⟨P, Q, none⟩) 1 c1) ∧ w'.cell? ⟨O.heap.size, 2, none⟩ = some (.slice (some ⟨M, N, none⟩) 1 d1) ∧ w'.cell? ⟨Y, Z, none⟩ = some (.string ⟨#[120]⟩) ∧ w'.cell? ⟨Y, Z + 1, none⟩ = some (.int .i64 i.lo.1) ∧ w'.cell? ⟨Y, Z + 2, none⟩ = some (.int .i64 i.lo.2) ∧ w'.cell? ⟨Y, Z + 3, none⟩ = some (.int .i64 i.hi.1) ∧ w'.cell? ⟨Y, Z + 4, none⟩ = some (.int .i64 i.hi.2) ∧ w'.cell? ⟨bp, op, none⟩ = some (.string ⟨#[97]⟩) ∧ w'.cell? ⟨bp, op + 1, none⟩ = some (.int .i64 i.lo.1) ∧ w'.cell? ⟨bp, op + 2, none⟩ = some (.int .i64 i.lo.2) ∧ w'.cell? ⟨bp, op + 3, none⟩ = some (.int .i64 i.hi.1) ∧ w'.cell? ⟨bp, op + 4, none⟩ = some (.int .i64 i.hi.2) ∧ w'.cell? ⟨P, Q, none⟩ = some (.string ⟨#[120]⟩) ∧ w'.cell? ⟨P, Q + 1, none⟩ = some (.int .i64 B.h.kind) ∧ w'.cell? ⟨P, Q + 2, none⟩ = some (.int .i64 B.h.n) ∧ w'.cell? ⟨P, Q + 3, none⟩ = some (.int .i64 B.h.d) ∧ w'.cell? ⟨P, Q + 4, none⟩ = some (.string B.h.name) ∧ w'.cell? ⟨P, Q + 5, none⟩ = some (.int .i64 B.h.k) ∧ w'.cell? ⟨P, Q + 6, none⟩ = some (.slice B.A B.len B.cap) ∧ w'.cell? ⟨M, N, none⟩ = some (.int .i64 C.h.kind) ∧ w'.cell? ⟨M, N + 1, none⟩ = some (.int .i64 C.h.n) ∧ w'.cell? ⟨M, N + 2, none⟩ = some (.int .i64 C.h.d) ∧ w'.cell? ⟨M, N + 3, none⟩ = some (.string C.h.name) ∧ w'.cell? ⟨M, N + 4, none⟩ = some (.int .i64 C.h.k) ∧ w'.cell? ⟨M, N + 5, none⟩ = some (.slice C.A C.len C.cap) ∧ w'.cell? ⟨M, N + 6, none⟩ = some (.int .i64 2) ∧ w'.cell? ⟨M, N + 7, none⟩ = some (.string ⟨#[110]⟩) ∧ w'.cell? ⟨M, N + 8, none⟩ = some (.slice (some ⟨br, or, none⟩) 1 c2) ∧ w'.cell? ⟨br, or, none⟩ = some (.string ⟨#[120]⟩) ∧ w'.cell? ⟨br, or + 1, none⟩ = some (.int .i64 D.h.kind) ∧ w'.cell? ⟨br, or + 2, none⟩ = some (.int .i64 D.h.n) ∧ w'.cell? ⟨br, or + 3, none⟩ = some (.int .i64 D.h.d) ∧ w'.cell? ⟨br, or + 4, none⟩ = some (.string D.h.name) ∧ w'.cell? ⟨br, or + 5, none⟩ = some (.int .i64 D.h.k) ∧ w'.cell? ⟨br, or + 6, none⟩ = some (.slice D.A D.len D.cap)) (by kernel_rfl) ?_ (fun hHeld => ?_)
    case refine_1 => exact ⟨bt.out.cell 0, bt.out.cell 1, bt.out.cell 2, a8.out.cell 0, a8.out.cell 1, a8.out.cell 2, a8.out.cell 3, ao.out.cell 0, ao.out.cell 1, ao.out.cell 2, ao.out.cell 3, ao.out.cell 4, ao.out.cell 5, ap.out.cell 0, ap.out.cell 1, ap.out.cell 2, ap.out.cell 3, ap.out.cell 4, ap.out.cell 5, bu.out.cell 0, bu.out.cell 1, bu.out.cell 2, aw.out.c 0 _ rfl, aw.out.c 1 _ rfl, aw.out.c 2 _ rfl, aw.out.c 3 _ rfl, aw.out.c 4 _ rfl, ax.out.c 0 _ rfl, ax.out.c 1 _ rfl, ax.out.c 2 _ rfl, ax.out.c 3 _ rfl, ax.out.c 4 _ rfl, af.out.c 0 _ rfl, af.out.c 1 _ rfl, af.out.c 2 _ rfl, af.out.c 3 _ rfl, af.out.c 4 _ rfl, af.out.c 5 _ rfl, af.out.c 6 _ rfl, T.out.c 0 _ rfl, T.out.c 1 _ rfl, T.out.c 2 _ rfl, T.out.c 3 _ rfl, T.out.c 4 _ rfl, T.out.c 5 _ rfl, T.out.c 6 _ rfl, T.out.c 7 _ rfl, T.out.c 8 _ rfl, ag.out.c 0 _ rfl, ag.out.c 1 _ rfl, ag.out.c 2 _ rfl, ag.out.c 3 _ rfl, ag.out.c 4 _ rfl, ag.out.c 5 _ rfl, ag.out.c 6 _ rfl⟩
    obtain ⟨fc, fd⟩ := eX (cf.drew)
    rw [← fd] at E dk bt a8 ao ap bu aw ax af T ag dl e9 fa dm fb hHeld ⊢
    clear fd
    refine nmS 97 (fun HBR => ?_)
    refine tkD 0 129 1 HBR ?_
    refine tkD 1 130 3 HBR ?_
    refine tkD 2 131 7 HBR ?_
    refine tkD 3 132 15 HBR ?_
    refine tkD 4 133 31 HBR ?_
    refine tkD 5 134 63 HBR ?_
    refine tkD 6 135 127 HBR ?_
    refine tkD 7 136 255 HBR ?_
    refine tkD 8 137 511 HBR ?_
    refine tkD 9 138 1023 HBR ?_
    refine tkD 10 139 2047 HBR ?_
    refine tkD 11 140 4095 HBR ?_
    refine tkD 12 141 8191 HBR ?_
    refine tkD 13 142 16383 HBR ?_
    refine tkD 14 143 32767 HBR ?_
    refine tkD 15 144 65535 HBR ?_
    refine tkD 16 145 131071 HBR ?_
    refine tkD 17 146 262143 HBR ?_
    refine tkD 18 147 524287 HBR ?_
    refine tkD 19 148 1048575 HBR ?_
    refine tkD 20 149 2097151 HBR ?_
    refine tkD 21 150 4194303 HBR ?_
    refine tkD 22 151 8388607 HBR ?_
    refine tkD 23 152 16777215 HBR ?_
    refine tkD 24 153 33554431 HBR ?_
    refine tkD 25 154 67108863 HBR ?_
    refine tkD 26 155 134217727 HBR ?_
    refine tkD 27 156 268435455 HBR ?_
    refine tkD 28 157 536870911 HBR ?_
    refine tkD 29 158 1073741823 HBR ?_
    refine tkD 30 159 2147483647 HBR ?_
    refine tkD 31 160 4294967295 HBR ?_
    refine tkD 32 161 8589934591 HBR ?_
    refine tkD 33 162 17179869183 HBR ?_
    refine tkD 34 163 34359738367 HBR ?_
    refine tkD 35 164 68719476735 HBR ?_
    refine tkD 36 165 137438953471 HBR ?_
    refine tkD 37 166 274877906943 HBR ?_
    refine tkD 38 167 549755813887 HBR ?_
    refine tkD 39 168 1099511627775 HBR ?_
    refine tkD 40 169 2199023255551 HBR ?_
    refine tkD 41 170 4398046511103 HBR ?_
    refine rdD (rs := [42]) HBR ?_
    refine (AllReadyH.cons rfl (fun K hK => ?_) AllReadyH.nil)
    go_simp
    (with_reducible refine (show Calls Tryz.prog 17 #[.agg #[.int .i64 B.h.kind, .int .i64 B.h.n, .int .i64 B.h.d, .string B.h.name, .int .i64 B.h.k, .slice B.A B.len B.cap], .agg #[.int .i64 a.h.kind, .int .i64 a.h.n, .int .i64 a.h.d, .string a.h.name, .int .i64 a.h.k, .slice a.A a.len a.cap]] fc _ from same_any _ X (Nat.le_refl _) X B a fc dl.out dm.out).mono ?_)
    rintro e w302 ⟨r1, rfl, ip, F⟩
    have fe := hI (dk.out.trans (F.out.mono dk.out.size))
    have cg := hI (bt.out.belowW F.out)
    have bv := hI (a8.out.belowW F.out)
    have ay := hI (ao.out.belowW F.out)
    have az := hI (ap.out.belowW F.out)
    have ch := hI (bu.out.belowW F.out)
    have a9 := hI (aw.out.belowW F.out)
    have ba := hI (ax.out.belowW F.out)
    have aq := hI (af.out.belowW F.out)
    have ac := hI (T.out.belowW F.out)
    have ar := hI (ag.out.belowW F.out)
    have iq := hI (dl.out.belowW F.out)
    have ff := hI (e9.out.belowW F.out)
    have ir := hI (fa.out.belowW F.out)
    have is := hI (dm.out.belowW F.out)
    have fg := hI (fb.out.belowW F.out)
    obtain rfl : r1 = true := ip.out.2 rfl
    go_wp2_with fail
    clear hHeld
    refine hK.out _ _ ?_ (fun hHeld => ?_)
    case refine_1 => exact ⟨cg.out.cell 0, cg.out.cell 1, cg.out.cell 2, bv.out.cell 0, bv.out.cell 1, bv.out.cell 2, bv.out.cell 3, ay.out.cell 0, ay.out.cell 1, ay.out.cell 2, ay.out.cell 3, ay.out.cell 4, ay.out.cell 5, az.out.cell 0, az.out.cell 1, az.out.cell 2, az.out.cell 3, az.out.cell 4, az.out.cell 5, ch.out.cell 0, ch.out.cell 1, ch.out.cell 2, a9.out.c 0 _ rfl, a9.out.c 1 _ rfl, a9.out.c 2 _ rfl, a9.out.c 3 _ rfl, a9.out.c 4 _ rfl, ba.out.c 0 _ rfl, ba.out.c 1 _ rfl, ba.out.c 2 _ rfl, ba.out.c 3 _ rfl, ba.out.c 4 _ rfl, aq.out.c 0 _ rfl, aq.out.c 1 _ rfl, aq.out.c 2 _ rfl, aq.out.c 3 _ rfl, aq.out.c 4 _ rfl, aq.out.c 5 _ rfl, aq.out.c 6 _ rfl, ac.out.c 0 _ rfl, ac.out.c 1 _ rfl, ac.out.c 2 _ rfl, ac.out.c 3 _ rfl, ac.out.c 4 _ rfl, ac.out.c 5 _ rfl, ac.out.c 6 _ rfl, ac.out.c 7 _ rfl, ac.out.c 8 _ rfl, ar.out.c 0 _ rfl, ar.out.c 1 _ rfl, ar.out.c 2 _ rfl, ar.out.c 3 _ rfl, ar.out.c 4 _ rfl, ar.out.c 5 _ rfl, ar.out.c 6 _ rfl⟩
    clear hK K
    refine nmL 42 8796093022207 ?_
    refine tkD 43 172 17592186044415 HBR ?_
    refine tkD 44 173 35184372088831 HBR ?_
    refine tkD 45 174 70368744177663 HBR ?_
    refine tkD 46 175 140737488355327 HBR ?_
    refine tkD 47 176 281474976710655 HBR ?_
    refine tkD 48 177 562949953421311 HBR ?_
    refine tkD 49 178 1125899906842623 HBR ?_
    refine tkD 50 179 2251799813685247 HBR ?_
    refine tkD 51 180 4503599627370495 HBR ?_
    refine tkD 52 181 9007199254740991 HBR ?_
    refine tkD 53 182 18014398509481983 HBR ?_
    refine tkD 54 183 36028797018963967 HBR ?_
    refine tkD 55 184 72057594037927935 HBR ?_
    refine tkD 56 185 144115188075855871 HBR ?_
    refine rdD (rs := [57]) HBR ?_
    refine (AllReadyH.cons rfl (fun K hK => ?_) AllReadyH.nil)
    go_simp
    (with_reducible refine (show Calls Tryz.prog 17 #[.agg #[.int .i64 C.h.kind, .int .i64 C.h.n, .int .i64 C.h.d, .string C.h.name, .int .i64 C.h.k, .slice C.A C.len C.cap], .agg #[.int .i64 b.h.kind, .int .i64 b.h.n, .int .i64 b.h.d, .string b.h.name, .int .i64 b.h.k, .slice b.A b.len b.cap]] w302 _ from same_any _ G (Nat.le_refl _) G C b w302 ff.out fg.out).mono ?_)
    rintro e w303 ⟨r2, rfl, iu, H⟩
    have fh := hI (fe.out.trans (H.out.mono fe.out.size))
    have ci := hI (cg.out.belowW H.out)
    have bw := hI (bv.out.belowW H.out)
    have a3 := hI (ay.out.belowW H.out)
    have a4 := hI (az.out.belowW H.out)
    have cj := hI (ch.out.belowW H.out)
    have bb := hI (a9.out.belowW H.out)
    have bc := hI (ba.out.belowW H.out)
    have au := hI (aq.out.belowW H.out)
    have ad := hI (ac.out.belowW H.out)
    have av := hI (ar.out.belowW H.out)
    have iv := hI (iq.out.belowW H.out)
    have iw := hI (ff.out.belowW H.out)
    have fi := hI (ir.out.belowW H.out)
    have fj := hI (is.out.belowW H.out)
    have ix := hI (fg.out.belowW H.out)
    obtain rfl : r2 = true := iu.out.2 rfl
    go_wp2_with fail
    clear hHeld
    refine hK.out _ _ ?_ (fun hHeld => ?_)
    case refine_1 => exact ⟨ci.out.cell 0, ci.out.cell 1, ci.out.cell 2, bw.out.cell 0, bw.out.cell 1, bw.out.cell 2, bw.out.cell 3, a3.out.cell 0, a3.out.cell 1, a3.out.cell 2, a3.out.cell 3, a3.out.cell 4, a3.out.cell 5, a4.out.cell 0, a4.out.cell 1, a4.out.cell 2, a4.out.cell 3, a4.out.cell 4, a4.out.cell 5, cj.out.cell 0, cj.out.cell 1, cj.out.cell 2, bb.out.c 0 _ rfl, bb.out.c 1 _ rfl, bb.out.c 2 _ rfl, bb.out.c 3 _ rfl, bb.out.c 4 _ rfl, bc.out.c 0 _ rfl, bc.out.c 1 _ rfl, bc.out.c 2 _ rfl, bc.out.c 3 _ rfl, bc.out.c 4 _ rfl, au.out.c 0 _ rfl, au.out.c 1 _ rfl, au.out.c 2 _ rfl, au.out.c 3 _ rfl, au.out.c 4 _ rfl, au.out.c 5 _ rfl, au.out.c 6 _ rfl, ad.out.c 0 _ rfl, ad.out.c 1 _ rfl, ad.out.c 2 _ rfl, ad.out.c 3 _ rfl, ad.out.c 4 _ rfl, ad.out.c 5 _ rfl, ad.out.c 6 _ rfl, ad.out.c 7 _ rfl, ad.out.c 8 _ rfl, av.out.c 0 _ rfl, av.out.c 1 _ rfl, av.out.c 2 _ rfl, av.out.c 3 _ rfl, av.out.c 4 _ rfl, av.out.c 5 _ rfl, av.out.c 6 _ rfl⟩
    clear hK K
    refine nmL 57 288230376151711743 ?_
    refine tkD 58 187 576460752303423487 HBR ?_
    refine tkD 59 188 1152921504606846975 HBR ?_
    refine tkD 60 189 2305843009213693951 HBR ?_
    refine tkD 61 190 4611686018427387903 HBR ?_
    refine tkD 62 191 9223372036854775807 HBR ?_
    refine tkD 63 192 18446744073709551615 HBR ?_
    refine tkD 64 193 36893488147419103231 HBR ?_
    refine tkD 65 194 73786976294838206463 HBR ?_
    refine tkD 66 195 147573952589676412927 HBR ?_
    refine tkD 67 196 295147905179352825855 HBR ?_
    refine tkD 68 197 590295810358705651711 HBR ?_
    refine tkD 69 198 1180591620717411303423 HBR ?_
    refine tkD 70 199 2361183241434822606847 HBR ?_
    refine tkD 71 200 4722366482869645213695 HBR ?_
    refine tkD 72 201 9444732965739290427391 HBR ?_
    refine tkD 73 202 18889465931478580854783 HBR ?_
    refine tkD 74 203 37778931862957161709567 HBR ?_
    refine tkD 75 204 75557863725914323419135 HBR ?_
    refine tkD 76 205 151115727451828646838271 HBR ?_
    refine tkD 77 206 302231454903657293676543 HBR ?_
    refine tkD 78 207 604462909807314587353087 HBR ?_
    refine tkD 79 208 1208925819614629174706175 HBR ?_
    refine tkD 80 209 2417851639229258349412351 HBR ?_
    refine tkD 81 210 4835703278458516698824703 HBR ?_
    refine tkD 82 211 9671406556917033397649407 HBR ?_
    refine tkD 83 212 19342813113834066795298815 HBR ?_
    refine tkD 84 213 38685626227668133590597631 HBR ?_
    refine tkD 85 214 77371252455336267181195263 HBR ?_
    refine tkD 86 215 154742504910672534362390527 HBR ?_
    refine tkD 87 216 309485009821345068724781055 HBR ?_
    refine tkD 88 217 618970019642690137449562111 HBR ?_
    refine tkD 89 218 1237940039285380274899124223 HBR ?_
    refine tkD 90 219 2475880078570760549798248447 HBR ?_
    refine tkD 91 220 4951760157141521099596496895 HBR ?_
    refine tkD 92 221 9903520314283042199192993791 HBR ?_
    refine tkD 93 222 19807040628566084398385987583 HBR ?_
    refine rdD (rs := [94]) HBR ?_
    refine (AllReadyH.cons rfl (fun K hK => ?_) AllReadyH.nil)
    go_simp
    (with_reducible refine (show Calls Tryz.prog 17 #[.agg #[.int .i64 D.h.kind, .int .i64 D.h.n, .int .i64 D.h.d, .string D.h.name, .int .i64 D.h.k, .slice D.A D.len D.cap], .agg #[.int .i64 a.h.kind, .int .i64 a.h.n, .int .i64 a.h.d, .string a.h.name, .int .i64 a.h.k, .slice a.A a.len a.cap]] w303 _ from same_any _ X (Nat.le_refl _) X D a w303 fi.out fj.out).mono ?_)
    rintro e w304 ⟨r3, rfl, iz, I⟩
    have i0 := hI (fh.out.trans (I.out.mono fh.out.size))
    have dn := hI (ci.out.belowW I.out)
    have ck := hI (bw.out.belowW I.out)
    have bd := hI (a3.out.belowW I.out)
    have bg := hI (a4.out.belowW I.out)
    have dp := hI (cj.out.belowW I.out)
    have bx := hI (bb.out.belowW I.out)
    have bz := hI (bc.out.belowW I.out)
    have a5 := hI (au.out.belowW I.out)
    have ah := hI (ad.out.belowW I.out)
    have a6 := hI (av.out.belowW I.out)
    have j4 := hI (iv.out.belowW I.out)
    have j5 := hI (iw.out.belowW I.out)
    have j6 := hI (fi.out.belowW I.out)
    have j7 := hI (fj.out.belowW I.out)
    have j8 := hI (ix.out.belowW I.out)
    obtain rfl : r3 = true := iz.out.2 rfl
    go_wp2_with fail
    clear hHeld
    refine hK.out _ _ ?_ (fun hHeld => ?_)
    case refine_1 => exact ⟨dn.out.cell 0, dn.out.cell 1, dn.out.cell 2, ck.out.cell 0, ck.out.cell 1, ck.out.cell 2, ck.out.cell 3, bd.out.cell 0, bd.out.cell 1, bd.out.cell 2, bd.out.cell 3, bd.out.cell 4, bd.out.cell 5, bg.out.cell 0, bg.out.cell 1, bg.out.cell 2, bg.out.cell 3, bg.out.cell 4, bg.out.cell 5, dp.out.cell 0, dp.out.cell 1, dp.out.cell 2, bx.out.c 0 _ rfl, bx.out.c 1 _ rfl, bx.out.c 2 _ rfl, bx.out.c 3 _ rfl, bx.out.c 4 _ rfl, bz.out.c 0 _ rfl, bz.out.c 1 _ rfl, bz.out.c 2 _ rfl, bz.out.c 3 _ rfl, bz.out.c 4 _ rfl, a5.out.c 0 _ rfl, a5.out.c 1 _ rfl, a5.out.c 2 _ rfl, a5.out.c 3 _ rfl, a5.out.c 4 _ rfl, a5.out.c 5 _ rfl, a5.out.c 6 _ rfl, ah.out.c 0 _ rfl, ah.out.c 1 _ rfl, ah.out.c 2 _ rfl, ah.out.c 3 _ rfl, ah.out.c 4 _ rfl, ah.out.c 5 _ rfl, ah.out.c 6 _ rfl, ah.out.c 7 _ rfl, ah.out.c 8 _ rfl, a6.out.c 0 _ rfl, a6.out.c 1 _ rfl, a6.out.c 2 _ rfl, a6.out.c 3 _ rfl, a6.out.c 4 _ rfl, a6.out.c 5 _ rfl, a6.out.c 6 _ rfl⟩
    clear hK K
    refine nmL 94 39614081257132168796771975167 ?_
    refine tkD 95 224 79228162514264337593543950335 HBR ?_
    refine tkD 96 6 158456325028528675187087900671 HBR ?_
    refine dnD HBR ?_
    go_wp2_with fail
    go_ret
    exact ⟨ret_bool (by simp), i0⟩
end Go.Proofs.YtkjoohnndobjeaaGreatDoor
