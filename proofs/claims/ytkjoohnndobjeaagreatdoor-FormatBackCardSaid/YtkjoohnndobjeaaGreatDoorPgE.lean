/-
  The walk of FormatBack.
-/
import Derived.Test.YtkjoohnndobjeaaGreatDoorPgA
import Derived.Test.YtkjoohnndobjeaaGreatDoorPgB
import Derived.Test.YtkjoohnndobjeaaGreatDoorPgI
set_option linter.unusedVariables false
set_option maxHeartbeats 4000000
set_option maxRecDepth 100000
namespace Go.Proofs.YtkjoohnndobjeaaGreatDoor
open Go.RowKit Go.Fl Go.Fl.Lx Go.Fl.Nm Go.Fl.Fm Go.Fl.Rt Go.Fl.Pa
open List (setIfInBounds_toArray set_cons_zero set_cons_succ getElem_toArray getElem_cons_zero getElem_cons_succ)

theorem formatBack_any (a0 : ByteArray) (w : World) (w0 : a0.size ≤ maxLen) (hR : RX w) (hX : FX w) : Calls Tryz.prog 11 #[.string a0] w (RetB (.bool true) w) := by
 have HR := hI hR
 have HX := hI hX
 clear hR hX
 have c0 := hI (Below.refl w.heap.size w)
 go_enter Tryz.func11, Tryz.ntmps11
 go_wp2_with fail
 refine (fAwake_any w HR.out.1).mono ?_
 rintro e ww1 ⟨rfl, a1⟩
 have b2 := c0.out.t a1
 have b3 := HR.out.b9 a1
 have b4 := HX.out.b9 a1
 by_cases h0 : a0.size ≤ 4000
 case neg =>
  have d0 : decide ((4000 : Int) < (a0.size : Int)) = true := decide_eq_true (by omega); have e0 : decide (4000 < a0.size) = true := decide_eq_true (by omega)
  go_wp2_with fail
  go_ret
  exact ⟨rfl, b2⟩
 have d0 : decide ((4000 : Int) < (a0.size : Int)) = false := decide_eq_false (by omega)
 have e0 : decide (4000 < a0.size) = false := decide_eq_false (by omega)
 have IV := hI (fun h => expr_inv (l := a0.data.toList) h)
 have s := hI (fun h => prob_inv (l := a0.data.toList) h)
 have b5 : a0.data.toList.length = a0.size := by simp
 go_wp2_with fail
 refine (pExpr a0 ww1 w0 b3.out b4.out).mono ?_
 rintro e ww2 ⟨v, rfl, a2, Q⟩
 have c3 := b2.out.t a2
 have HQ := hI Q
 clear Q
 obtain ⟨RR, b6⟩ := eX (exprR a0.data.toList)
 rw [← b6] at HQ IV ⊢
 clear b6
 obtain ⟨⟨ln, co, er⟩, o⟩ := RR
 simp only at HQ IV ⊢
 have HM := hI (Below.refl ww2.heap.size ww2)
 go_upto_region 6 with (fail)
 obtain ⟨U, g⟩ := eX (((ww2.alloc (Obj.cells #[.int .i64 v.h.kind, .int .i64 v.h.n, .int .i64 v.h.d, .string v.h.name, .int .i64 v.h.k, .slice v.A v.len v.cap] 29)).alloc (Obj.cells #[.int .i64 (ln : Nat), .int .i64 (co : Nat)] 40)))
 have al := hI (show Below ww2.heap.size ww2 U by rw [g]; exact (below_box _ _).trans ((below_box _ _).mono (by simp)))
 have b8 := hI (show Blk U (ww2.heap.size) 29 #[.int .i64 v.h.kind, .int .i64 v.h.n, .int .i64 v.h.d, .string v.h.name, .int .i64 v.h.k, .slice v.A v.len v.cap] by rw [g]; exact Blk.belowW (Blk.new ww2 29 #[.int .i64 v.h.kind, .int .i64 v.h.n, .int .i64 v.h.d, .string v.h.name, .int .i64 v.h.k, .slice v.A v.len v.cap]) (below_box _ _))
 rw [← g]
 clear g
 have ca := c3.out.t al
 have am := hI ((b3.out.belowW a2.out).belowW al.out)
 have a4 := hI ((b4.out.belowW a2.out).belowW al.out)
 by_cases hz : er = 0
 case neg =>
  have d1 : (((er : Nat) : Int) == 0) = false := (by rw [beq_eq_false_iff_ne]; omega); have d2 : (er == 0) = false := (by rw [beq_eq_false_iff_ne]; exact hz)
  go_upto_region 11 with (fail)
  go_wp2_with fail
  refine (pProblemX a0 U w0 am.out a4.out).mono ?_
  rintro e ww4 ⟨a, rfl, a5, V⟩; have c7 := ca.out.t a5; have i := hI V; clear V; obtain ⟨RP, W⟩ := eX (probR a0.data.toList); rw [← W] at i s ⊢; clear W; obtain ⟨⟨a7, a8, X⟩, op⟩ := RP; simp only at i s ⊢; have Y := hI (Below.refl ww4.heap.size ww4)
  go_upto_region 12 with (fail)
  obtain ⟨an, g⟩ := eX (((ww4.alloc (Obj.cells #[.slice a.A a.n a.c, .slice a.B a.m a.d, .slice a.C a.k a.e, .int .i64 a.t, .int .i64 a.u] 68)).alloc (Obj.cells #[.int .i64 (a7 : Nat), .int .i64 (a8 : Nat)] 40))); have ao := hI (show Below ww4.heap.size ww4 an by rw [g]; exact (below_box _ _).trans ((below_box _ _).mono (by simp))); have cb := hI (show Blk an (ww4.heap.size) 68 #[.slice a.A a.n a.c, .slice a.B a.m a.d, .slice a.C a.k a.e, .int .i64 a.t, .int .i64 a.u] by rw [g]; exact Blk.belowW (Blk.new ww4 68 #[.slice a.A a.n a.c, .slice a.B a.m a.d, .slice a.C a.k a.e, .int .i64 a.t, .int .i64 a.u]) (below_box _ _)); rw [← g]; clear g; have cc := c7.out.t ao; have cd := hI ((am.out.belowW a5.out).belowW ao.out)
  by_cases hzp : X = 0
  case neg =>
   have d3 : (((X : Nat) : Int) != 0) = true := by rw [bne_iff_ne]; omega
   go_wp2_with fail
   go_ret
   exact ⟨rfl, cc⟩
  subst hzp; obtain ⟨tp, p, Z, j2, x, j3⟩ := s.out rfl; subst j3; obtain ⟨T2, D, E⟩ := i.out.2 rfl; injection D with D; subst D; have F := hI E.pl; have HZ := hI (InP.belowW E.z.toP (Y.out.trans (ao.out.mono Y.out.size))); have ba := hI (back_len Z j2 x); have ac := hI x; clear E Z j2 x s i; obtain ⟨G, _, H, _, I, _, J, _, L, _⟩ := cb.out.all5
  go_wp2_with fail
  refine (show Calls Tryz.prog 42 #[.agg #[.slice a.A a.n a.c, .slice a.B a.m a.d, .slice a.C a.k a.e, .int .i64 a.t, .int .i64 a.u]] an _ from fproblem_p a an HZ.out cd.out.1).mono ?_
  rintro e ww6 ⟨j, rfl, q, ad⟩; have ce := cc.out.t ad; have cf := HZ.out.b9 ad; clear G H I J L; have r := hI (show a.ok = true by rw [PbN.ok_pl cf.out, F.out]; exact ac.out)
  by_cases hbig : 65536 < a.txt.length
  case pos =>
   have M := hI (show a.ans = ([], 5) by unfold PbN.ans; rw [r.out, if_pos rfl, if_pos hbig]); rw [M.out] at q ⊢
   have bb : 1000 < a0.size := by
    have h := ba.out; rw [← F.out, ← PbN.txt_pl, b5] at h
    omega
   have d5 : decide ((1000 : Int) < (a0.size : Int)) = true := decide_eq_true (by omega); have e5 : decide (1000 < a0.size) = true := decide_eq_true bb
   go_wp2_with fail
   go_ret
   exact ⟨ret_bool (by simp), ce⟩
  have M := hI (show a.ans = (a.txt, 0) by unfold PbN.ans; rw [r.out, if_pos rfl, if_neg hbig]); rw [M.out] at q ⊢; have bc : j.size ≤ maxLen := Nat.le_trans (show j.data.toList.length ≤ 65536 by rw [q.out]; exact Nat.le_of_not_lt hbig) (by decide)
  have HE := hI (show probR j.data.toList = ((0, 0, 0), some a.pl) by
   have h := q.out; rw [show ((a.txt, (0 : Int)).1 : List UInt8) = a.txt from rfl, PbN.txt_pl] at h; rw [h]
   exact prob_txt (by rw [F.out]; exact ac.out) (by rw [← PbN.txt_pl]; omega))
  clear hbig
  go_wp2_with fail
  refine (pProblemX j ww6 bc (cd.out.belowW ad.out) (((a4.out.belowW a5.out).belowW ao.out).belowW ad.out)).mono ?_
  rintro e ww7 ⟨b, rfl, bd, N⟩; have de := ce.out.t bd; rw [HE.out] at N; rw [HE.out]; obtain ⟨T3, O, P⟩ := N.2 rfl; injection O with O; subst O; have af := hI P.pl; have be := hI P.z.toP; clear N P
  go_upto_region 18 with (fail)
  obtain ⟨ap, g⟩ := eX (((ww7.alloc (Obj.cells #[.slice b.A b.n b.c, .slice b.B b.m b.d, .slice b.C b.k b.e, .int .i64 b.t, .int .i64 b.u] 68)).alloc (Obj.cells #[.int .i64 0, .int .i64 0] 40))); have aq := hI (show Below ww7.heap.size ww7 ap by rw [g]; exact (below_box _ _).trans ((below_box _ _).mono (by simp))); have dg := hI (show Blk ap (ww7.heap.size) 68 #[.slice b.A b.n b.c, .slice b.B b.m b.d, .slice b.C b.k b.e, .int .i64 b.t, .int .i64 b.u] by rw [g]; exact Blk.belowW (Blk.new ww7 68 #[.slice b.A b.n b.c, .slice b.B b.m b.d, .slice b.C b.k b.e, .int .i64 b.t, .int .i64 b.u]) (below_box _ _)); rw [← g]; clear g; have dh := de.out.t aq; have cg := hI ((cf.out.belowW bd.out).belowW aq.out); have ch := be.out.b9 aq; obtain ⟨G, _, H, _, I, _, J, _, L, _⟩ := (((cb.out.belowW ad.out).belowW bd.out).belowW aq.out).all5; obtain ⟨bf, _, bg, _, bh, _, bi, _, bj, _⟩ := dg.out.all5
  go_wp2_with fail
  refine (show Calls Tryz.prog 43 #[.agg #[.slice a.A a.n a.c, .slice a.B a.m a.d, .slice a.C a.k a.e, .int .i64 a.t, .int .i64 a.u], .agg #[.slice b.A b.n b.c, .slice b.B b.m b.d, .slice b.C b.k b.e, .int .i64 b.t, .int .i64 b.u]] ap _ from tsame_any a b ap cg.out ch.out).mono ?_
  rintro e ww9 ⟨rq, rfl, bl, bm⟩; clear G H I J L bf bg bh bi bj; obtain rfl : rq = true := bl.out.2 ⟨r.out, (PbN.ok_pl (ch.out.belowW bm.out)).trans ((congrArg PbP.ok af.out).trans ((PbN.ok_pl (cg.out.belowW bm.out)).symm.trans r.out)), af.out.symm⟩
  go_wp2_with fail
  go_ret
  exact ⟨ret_bool (by simp), (dh.out.t bm)⟩
 subst hz
 obtain ⟨ts, T, i1, i2, i3⟩ := IV.out rfl
 subst i3
 obtain ⟨T0, t0, z0⟩ := HQ.out.2 rfl
 injection t0 with t0
 subst t0
 have HN := hI (z0.toE.go (HM.out.trans (al.out.mono HM.out.size)))
 have au := hI i2.o
 have ck := hI (expr_txt i2.o)
 have dk := hI (txt20 i2.o).2
 clear z0 i1 i2 IV HQ
 obtain ⟨bo, _, bp, _, bq, _, br, _, bs, _, bt, _⟩ := b8.out.all6
 go_wp2_with fail
 refine (show Calls Tryz.prog 27 #[.agg #[.int .i64 v.h.kind, .int .i64 v.h.n, .int .i64 v.h.d, .string v.h.name, .int .i64 v.h.k, .slice v.A v.len v.cap]] U _ from fexpr_any T v U HN.out am.out.1).mono ?_
 rintro e ww10 ⟨S, rfl, HS, ag⟩
 have dl := ca.out.t ag
 have cm := am.out.b9 ag
 have cn := a4.out.b9 ag
 clear bo bp bq br bs bt
 have bu := hI (show S.data.toList = txt 20 T by have h := HS.out; rw [au.out, if_pos rfl] at h; exact h)
 have dm : S.size ≤ maxLen := Nat.le_trans (show S.data.toList.length ≤ 10000 by rw [bu.out]; exact dk.out) (by decide)
 rw [au.out]
 clear HS
 go_wp2_with fail
 refine (pExpr S ww10 dm cm.out cn.out).mono ?_
 rintro e ww11 ⟨y, rfl, ah, Q⟩
 have dn := dl.out.t ah
 rw [bu.out, ck.out] at Q
 rw [bu.out, ck.out]
 obtain ⟨T1, bv, cp⟩ := Q.2 rfl
 injection bv with bv
 subst bv
 have HY := hI cp.toE
 clear Q cp
 go_upto_region 9 with (fail)
 obtain ⟨av, g⟩ := eX (((ww11.alloc (Obj.cells #[.int .i64 y.h.kind, .int .i64 y.h.n, .int .i64 y.h.d, .string y.h.name, .int .i64 y.h.k, .slice y.A y.len y.cap] 29)).alloc (Obj.cells #[.int .i64 0, .int .i64 0] 40)))
 have R := hI (show Below ww11.heap.size ww11 av by rw [g]; exact (below_box _ _).trans ((below_box _ _).mono (by simp)))
 have dq := hI (show Blk av (ww11.heap.size) 29 #[.int .i64 y.h.kind, .int .i64 y.h.n, .int .i64 y.h.d, .string y.h.name, .int .i64 y.h.k, .slice y.A y.len y.cap] by rw [g]; exact Blk.belowW (Blk.new ww11 29 #[.int .i64 y.h.kind, .int .i64 y.h.n, .int .i64 y.h.d, .string y.h.name, .int .i64 y.h.k, .slice y.A y.len y.cap]) (below_box _ _))
 rw [← g]
 clear g
 have dr := dn.out.t R
 obtain ⟨bo, _, bp, _, bq, _, br, _, bs, _, bt, _⟩ := (((b8.out.belowW ag.out).belowW ah.out).belowW R.out).all6
 obtain ⟨ds, _, dt, _, du, _, dv, _, dw, _, dx, _⟩ := dq.out.all6
 go_wp2_with fail
 refine (show Calls Tryz.prog 28 #[.agg #[.int .i64 v.h.kind, .int .i64 v.h.n, .int .i64 v.h.d, .string v.h.name, .int .i64 v.h.k, .slice v.A v.len v.cap], .agg #[.int .i64 y.h.kind, .int .i64 y.h.n, .int .i64 y.h.d, .string y.h.name, .int .i64 y.h.k, .slice y.A y.len y.cap]] av _ from treeEqual_any T T v y av (((HN.out.belowW ag.out).belowW ah.out).go R.out) (HY.out.go R.out)).mono ?_
 rintro e ww13 ⟨rs, rfl, dz, bw⟩
 have d4 := dr.out.t bw
 have cq := hI (((cm.out.belowW ah.out).belowW R.out).belowW bw.out)
 have cr := hI (((cn.out.belowW ah.out).belowW R.out).belowW bw.out)
 clear bo bp bq br bs bt ds dt du dv dw dx
 obtain rfl : rs = true := dz.out.2 ⟨au.out, au.out, rfl⟩
 go_upto_region 11 with (fail)
 go_wp2_with fail
 refine (pProblemX a0 ww13 w0 cq.out cr.out).mono ?_
 rintro e ww14 ⟨a, rfl, bx, V⟩
 have d6 := d4.out.t bx
 have i := hI V
 clear V
 obtain ⟨RP, W⟩ := eX (probR a0.data.toList)
 rw [← W] at i s ⊢
 clear W
 obtain ⟨⟨a7, a8, X⟩, op⟩ := RP
 simp only at i s ⊢
 have Y := hI (Below.refl ww14.heap.size ww14)
 go_upto_region 12 with (fail)
 obtain ⟨aw, g⟩ := eX (((ww14.alloc (Obj.cells #[.slice a.A a.n a.c, .slice a.B a.m a.d, .slice a.C a.k a.e, .int .i64 a.t, .int .i64 a.u] 68)).alloc (Obj.cells #[.int .i64 (a7 : Nat), .int .i64 (a8 : Nat)] 40)))
 have ax := hI (show Below ww14.heap.size ww14 aw by rw [g]; exact (below_box _ _).trans ((below_box _ _).mono (by simp)))
 have cs := hI (show Blk aw (ww14.heap.size) 68 #[.slice a.A a.n a.c, .slice a.B a.m a.d, .slice a.C a.k a.e, .int .i64 a.t, .int .i64 a.u] by rw [g]; exact Blk.belowW (Blk.new ww14 68 #[.slice a.A a.n a.c, .slice a.B a.m a.d, .slice a.C a.k a.e, .int .i64 a.t, .int .i64 a.u]) (below_box _ _))
 rw [← g]
 clear g
 have ct := d6.out.t ax
 have cu := hI ((cq.out.belowW bx.out).belowW ax.out)
 by_cases hzp : X = 0
 case neg =>
  have d3 : (((X : Nat) : Int) != 0) = true := by rw [bne_iff_ne]; omega
  go_wp2_with fail
  go_ret
  exact ⟨rfl, ct⟩
 subst hzp
 obtain ⟨tp, p, Z, j2, x, j3⟩ := s.out rfl
 subst j3
 obtain ⟨T2, D, E⟩ := i.out.2 rfl
 injection D with D
 subst D
 have F := hI E.pl
 have HZ := hI (InP.belowW E.z.toP (Y.out.trans (ax.out.mono Y.out.size)))
 have ba := hI (back_len Z j2 x)
 have ac := hI x
 clear E Z j2 x s i
 obtain ⟨G, _, H, _, I, _, J, _, L, _⟩ := cs.out.all5
 go_wp2_with fail
 refine (show Calls Tryz.prog 42 #[.agg #[.slice a.A a.n a.c, .slice a.B a.m a.d, .slice a.C a.k a.e, .int .i64 a.t, .int .i64 a.u]] aw _ from fproblem_p a aw HZ.out cu.out.1).mono ?_
 rintro e ww16 ⟨j, rfl, q, ai⟩
 have cv := ct.out.t ai
 have cw := HZ.out.b9 ai
 clear G H I J L
 have r := hI (show a.ok = true by rw [PbN.ok_pl cw.out, F.out]; exact ac.out)
 by_cases hbig : 65536 < a.txt.length
 case pos =>
  have M := hI (show a.ans = ([], 5) by unfold PbN.ans; rw [r.out, if_pos rfl, if_pos hbig]); rw [M.out] at q ⊢
  have bb : 1000 < a0.size := by
   have h := ba.out; rw [← F.out, ← PbN.txt_pl, b5] at h
   omega
  have d5 : decide ((1000 : Int) < (a0.size : Int)) = true := decide_eq_true (by omega); have e5 : decide (1000 < a0.size) = true := decide_eq_true bb
  go_wp2_with fail
  go_ret
  exact ⟨ret_bool (by simp), cv⟩
 have M := hI (show a.ans = (a.txt, 0) by unfold PbN.ans; rw [r.out, if_pos rfl, if_neg hbig])
 rw [M.out] at q ⊢
 have bc : j.size ≤ maxLen := Nat.le_trans (show j.data.toList.length ≤ 65536 by rw [q.out]; exact Nat.le_of_not_lt hbig) (by decide)
 have HE := hI (show probR j.data.toList = ((0, 0, 0), some a.pl) by
  have h := q.out; rw [show ((a.txt, (0 : Int)).1 : List UInt8) = a.txt from rfl, PbN.txt_pl] at h; rw [h]
  exact prob_txt (by rw [F.out]; exact ac.out) (by rw [← PbN.txt_pl]; omega))
 clear hbig
 go_wp2_with fail
 refine (pProblemX j ww16 bc (cu.out.belowW ai.out) (((cr.out.belowW bx.out).belowW ax.out).belowW ai.out)).mono ?_
 rintro e ww17 ⟨b, rfl, bz, N⟩
 have d7 := cv.out.t bz
 rw [HE.out] at N
 rw [HE.out]
 obtain ⟨T3, O, P⟩ := N.2 rfl
 injection O with O
 subst O
 have af := hI P.pl
 have be := hI P.z.toP
 clear N P
 go_upto_region 18 with (fail)
 obtain ⟨ay, g⟩ := eX (((ww17.alloc (Obj.cells #[.slice b.A b.n b.c, .slice b.B b.m b.d, .slice b.C b.k b.e, .int .i64 b.t, .int .i64 b.u] 68)).alloc (Obj.cells #[.int .i64 0, .int .i64 0] 40)))
 have az := hI (show Below ww17.heap.size ww17 ay by rw [g]; exact (below_box _ _).trans ((below_box _ _).mono (by simp)))
 have d8 := hI (show Blk ay (ww17.heap.size) 68 #[.slice b.A b.n b.c, .slice b.B b.m b.d, .slice b.C b.k b.e, .int .i64 b.t, .int .i64 b.u] by rw [g]; exact Blk.belowW (Blk.new ww17 68 #[.slice b.A b.n b.c, .slice b.B b.m b.d, .slice b.C b.k b.e, .int .i64 b.t, .int .i64 b.u]) (below_box _ _))
 rw [← g]
 clear g
 have d9 := d7.out.t az
 have cx := hI ((cw.out.belowW bz.out).belowW az.out)
 have cy := be.out.b9 az
 obtain ⟨G, _, H, _, I, _, J, _, L, _⟩ := (((cs.out.belowW ai.out).belowW bz.out).belowW az.out).all5
 obtain ⟨bf, _, bg, _, bh, _, bi, _, bj, _⟩ := d8.out.all5
 go_wp2_with fail
 refine (show Calls Tryz.prog 43 #[.agg #[.slice a.A a.n a.c, .slice a.B a.m a.d, .slice a.C a.k a.e, .int .i64 a.t, .int .i64 a.u], .agg #[.slice b.A b.n b.c, .slice b.B b.m b.d, .slice b.C b.k b.e, .int .i64 b.t, .int .i64 b.u]] ay _ from tsame_any a b ay cx.out cy.out).mono ?_
 rintro e ww19 ⟨rq, rfl, bl, b0⟩
 clear G H I J L bf bg bh bi bj
 obtain rfl : rq = true := bl.out.2 ⟨r.out, (PbN.ok_pl (cy.out.belowW b0.out)).trans ((congrArg PbP.ok af.out).trans ((PbN.ok_pl (cx.out.belowW b0.out)).symm.trans r.out)), af.out.symm⟩
 go_wp2_with fail
 go_ret
 exact ⟨ret_bool (by simp), (d9.out.t b0)⟩
end Go.Proofs.YtkjoohnndobjeaaGreatDoor
