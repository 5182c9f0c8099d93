/-
  The walk of format.Problem.
-/
import Derived.Test.YtoogeihbhhcpaaaGreatDoorFpC
import Derived.Test.YtoogeihbhhcpaaaGreatDoorFpE
import Derived.Test.YtoogeihbhhcpaaaGreatDoorFpF
import Derived.Test.YtoogeihbhhcpaaaGreatDoorFrP
set_option linter.unusedVariables false
namespace Go.Proofs.YtoogeihbhhcpaaaGreatDoor
open Go.RowKit Go.Fl Go.Fl.Nm Go.Fl.Dy Go.Fl.Rt Go.Fl.Fm
open List (setIfInBounds_toArray set_cons_zero set_cons_succ getElem_toArray getElem_cons_zero getElem_cons_succ)
def Lw (a w : World) : Prop := Below a.heap.size a w
theorem Lw.belowW {a w w' : World} (h : Lw a w) (hb : Below w.heap.size w w') : Lw a w' := Below.trans h (hb.mono (Below.size h))
theorem Lw.go {a w w' : World} {b : Nat} (h : Lw a w) (hk : Kept a.heap.size b w w') : Lw a w' := Below.trans h hk.below
theorem Lw.under {a c w : World} (h : Below a.heap.size a c) (k : Lw c w) : Below a.heap.size a w := h.trans (Below.mono k h.size)
theorem Lw.size {a w : World} (h : Lw a w) : a.heap.size ≤ w.heap.size := Below.size h
theorem Bd.lt {B b : Nat} {l : List UInt8} {w : World} (h : Bd B b l w) : b < w.heap.size := by
  rcases h with h | h <;> exact h.lt
theorem fl_len {w : World} {A : Option Addr} {len cap : Nat} {zs : List MdN} (h : InL 3 MdN.cells InM w A len cap zs) (hok : zs.all MdN.ok = true) (j : Nat) (h8 : len ≤ 8) : ((zs.take j).flatMap MdN.txt).length ≤ 1926096 := by
  have h1 := flat_len MdN.txt (zs.take j) 240762 (fun y hy => MdN.txt_len (h.hi y (List.mem_of_mem_take hy)) (List.all_eq_true.1 hok y (List.mem_of_mem_take hy)))
  have h2 := take_le zs j
  have := h.hl
  omega
theorem ft_len {w : World} {A : Option Addr} {len cap : Nat} {zs : List EqN} (h : InL 7 EqN.cells InQ w A len cap zs) (hok : zs.all EqN.ok = true) (j : Nat) (h8 : len ≤ 4) : ((zs.take j).flatMap EqN.ft).length ≤ 40108 := by
  have h1 := flat_len EqN.ft (zs.take j) 10027 (fun y hy => EqN.ft_len (List.all_eq_true.1 hok y (List.mem_of_mem_take hy)))
  have h2 := take_le zs j
  have := h.hl
  omega
theorem et_len {w : World} {A : Option Addr} {len cap : Nat} {zs : List EdN} (h : InL 9 EdN.cells InG w A len cap zs) (hok : zs.all EdN.ok = true) (j : Nat) (h8 : len ≤ 4) : ((zs.take j).flatMap EdN.txt).length ≤ 200624 := by
  have h1 := flat_len EdN.txt (zs.take j) 50156 (fun y hy => EdN.txt_len (h.hi y (List.mem_of_mem_take hy)) (List.all_eq_true.1 hok y (List.mem_of_mem_take hy)))
  have h2 := take_le zs j
  have := h.hl
  omega
theorem sz1 (n : UInt8) : (⟨#[n]⟩ : ByteArray).size = 1 := rfl
theorem sz2 (n m : UInt8) : (⟨#[n, m]⟩ : ByteArray).size = 2 := rfl
theorem sz3 (n m a : UInt8) : (⟨#[n, m, a]⟩ : ByteArray).size = 3 := rfl
theorem sz4 (n m a b : UInt8) : (⟨#[n, m, a, b]⟩ : ByteArray).size = 4 := rfl
theorem sz5 (n m a b c : UInt8) : (⟨#[n, m, a, b, c]⟩ : ByteArray).size = 5 := rfl
theorem sz6 (n m a b c d : UInt8) : (⟨#[n, m, a, b, c, d]⟩ : ByteArray).size = 6 := rfl
/-- The text of a problem, cut as it is written. -/
def preT (st pa : List DcN) : List UInt8 := [] ++ st.flatMap (dclT (⟨#[115, 116, 97, 116, 101]⟩ : ByteArray).data.toList) ++ pa.flatMap (dclT (⟨#[112, 97, 114, 97, 109]⟩ : ByteArray).data.toList)
theorem PbN.txt_eq (x : PbN) : x.txt = preT x.st x.pa ++ x.ms.flatMap MdN.txt ++ ([116, 105, 109, 101, 32] ++ textR x.t x.u ++ [59, 10]) := by
  unfold PbN.txt preT
  rw [show stT = dclT (⟨#[115, 116, 97, 116, 101]⟩ : ByteArray).data.toList from rfl, show paT = dclT (⟨#[112, 97, 114, 97, 109]⟩ : ByteArray).data.toList from rfl]
  simp only [List.nil_append, List.append_assoc]
theorem pre1_len {st : List DcN} (h1 : st.all DcN.ok = true) (h3 : st.length ≤ 4) : ([] ++ st.flatMap (dclT (⟨#[115, 116, 97, 116, 101]⟩ : ByteArray).data.toList)).length ≤ 1000 := by
  have a1 := dcl_len (word := (⟨#[115, 116, 97, 116, 101]⟩ : ByteArray).data.toList) (by decide) st h1
  rw [List.length_append, List.length_nil]
  omega
theorem preT_len {st pa : List DcN} (h1 : st.all DcN.ok = true) (h2 : pa.all DcN.ok = true) (h3 : st.length ≤ 4) (h4 : pa.length ≤ 4) : (preT st pa).length ≤ 2000 := by
  have a1 := dcl_len (word := (⟨#[115, 116, 97, 116, 101]⟩ : ByteArray).data.toList) (by decide) st h1
  have a2 := dcl_len (word := (⟨#[112, 97, 114, 97, 109]⟩ : ByteArray).data.toList) (by decide) pa h2
  unfold preT
  rw [List.length_append, List.length_append, List.length_nil]
  omega

set_option maxHeartbeats 16000000 in
set_option maxRecDepth 100000 in
theorem fproblem_p (x0 : PbN) (w : World) (hx : InP w x0) (hT : RB w) : Calls Tryz.prog 7 #[x0.val] w (StrE x0.ans.1 x0.ans.2 w) := by
  have TYM : 61 ≠ 5 := by decide
  have TYQ : 75 ≠ 5 := by decide
  have HX := Lib.hid hx
  have HT := Lib.hid hT
  obtain ⟨A0, n0, c0, st0, B0, m0, d0, pa0, C0, k0, e0, ms0, t0, u0⟩ := x0
  have HS0 := Lib.hid (show InL 5 DcN.cells InD w A0 n0 c0 st0 from hx.hs)
  have HP0 := Lib.hid (show InL 5 DcN.cells InD w B0 m0 d0 pa0 from hx.hp)
  have HM0 := Lib.hid (show InL 3 MdN.cells InM w C0 k0 e0 ms0 from hx.hm)
  have tL : -9223372036854775808 ≤ t0 := hx.t1
  have tH : t0 ≤ 9223372036854775807 := hx.t2
  have uL : -9223372036854775808 ≤ u0 := hx.u1
  have uH : u0 ≤ 9223372036854775807 := hx.u2
  have HLNM := Lib.hid (show ms0.length = k0 from hx.hm.hl)
  have hlst : st0.length = n0 := hx.hs.hl
  have hlpa : pa0.length = m0 := hx.hp.hl
  obtain ⟨ok, hok⟩ : ∃ n, PbN.ok ⟨A0, n0, c0, st0, B0, m0, d0, pa0, C0, k0, e0, ms0, t0, u0⟩ = n := ⟨_, rfl⟩
  have HOK := Lib.hid hok
  clear hx hT
  simp only [PbN.val]
  go_enter Tryz.func7, Tryz.ntmps7
  go_upto_region 1 with (fail)
  obtain ⟨w1, hw1⟩ : ∃ z9 : World, z9 = w.alloc (Obj.cells #[.slice A0 n0 c0, .slice B0 m0 d0, .slice C0 k0 e0, .int .i64 t0, .int .i64 u0] 27) := ⟨_, rfl⟩
  have HW1 := Lib.hid (show Below w.heap.size w w1 by rw [hw1]; exact below_box _ _)
  have F1 := Lib.hid (show Blk w1 w.heap.size 27 #[.slice A0 n0 c0, .slice B0 m0 d0, .slice C0 k0 e0, .int .i64 t0, .int .i64 u0] by rw [hw1]; exact Blk.new _ _ _)
  rw [← hw1]
  clear hw1
  obtain ⟨pr0, pr1, pr2, pr3, pr4⟩ := F1.out.cs5
  go_wp2_with fail
  refine (tproblem_p ⟨A0, n0, c0, st0, B0, m0, d0, pa0, C0, k0, e0, ms0, t0, u0⟩ w1 (HX.out.belowW HW1.out)).mono ?_
  rw [HOK.out]
  rintro e w2 ⟨rfl, HB2⟩
  have O0 := Lib.hid (show Below w.heap.size w w2 from HW1.out.trans (HB2.out.mono HW1.out.size))
  cases ok with
  | false =>
    have HE := Lib.hid (show PbN.ans ⟨A0, n0, c0, st0, B0, m0, d0, pa0, C0, k0, e0, ms0, t0, u0⟩ = ([], 1) by unfold PbN.ans; rw [hok]; rfl)
    go_wp2_with fail
    refine bodyPost_ret (v := .tuple #[.string ⟨#[]⟩, .int .i64 1]) (by simp [results, Tryz.results7, go_sem]) rfl ?_
    rw [HE.out]
    exact ⟨_, rfl, Lib.hid rfl, O0⟩
  | true =>
    obtain ⟨⟨hs1, hs2, hs3, hs4, hk8⟩, ha, hb, hc, hv⟩ := PbN.ok_iff.1 hok
    simp only at hs1 hs2 hs3 hs4 hk8 ha hb hc hv
    have zT := textR_len (vB_iff.1 hv)
    have HVT := Lib.hid hv
    have HMOKS := Lib.hid hc
    have HAS := Lib.hid ha
    have HAP := Lib.hid hb
    have hpl := preT_len ha hb (by omega) (by omega)
    have hp1 := pre1_len ha (by omega)
    clear hok ha hb hc hv
    have F2 := Lib.hid (F1.out.belowW HB2.out)
    have HT2 := Lib.hid (HT.out.belowW O0.out)
    have FA := Lib.hid (F2.out.belowW (below_box w2 (Obj.cells #[.pointer none, .slice none 0 0] 68)))
    clear pr0 pr1 pr2 pr3 pr4
    obtain ⟨pr0, pr1, pr2, pr3, pr4⟩ := FA.out.cs5
    go_wp2_with fail
    clear FA pr0 pr1 pr2 pr3 pr4
    obtain ⟨w3, hw3⟩ : ∃ z9 : World, z9 = w2.alloc (Obj.cells #[.pointer none, .slice none 0 0] 68) := ⟨_, rfl⟩
    have HB3 := Lib.hid (show Below w2.heap.size w2 w3 by rw [hw3]; exact below_box _ _)
    have HBD3 := Lib.hid (show Bd w2.heap.size w2.heap.size [] w3 by rw [hw3]; exact Bd.fresh w2)
    rw [← hw3]
    clear hw3
    refine (fdecls_p w2.heap.size w2.heap.size [] ⟨#[115, 116, 97, 116, 101]⟩ A0 n0 c0 st0 w2 w3 (InD.list HS0.out O0.out) HB3.out rfl HBD3.out HT2.out HAS.out hs2 (by decide) (by decide)).mono ?_
    rintro e w4 ⟨rfl, HBD4, HK4⟩
    have O4 := Lib.hid (show Lw w2 w4 from HB3.out.trans HK4.out.below)
    have F4 := Lib.hid (F2.out.belowW O4.out)
    obtain ⟨pr0, pr1, pr2, pr3, pr4⟩ := F4.out.cs5
    go_wp2_with fail
    refine (fdecls_p w2.heap.size w2.heap.size _ ⟨#[112, 97, 114, 97, 109]⟩ B0 m0 d0 pa0 w2 w4 (InD.list HP0.out O0.out) O4.out rfl HBD4.out HT2.out HAP.out hs3 (by decide) (Nat.le_trans hp1 (by decide))).mono ?_
    rintro e w5 ⟨rfl, HBD5, HK5⟩
    have O5 := Lib.hid (O4.out.go HK5.out)
    have F5 := Lib.hid (F2.out.belowW O5.out)
    obtain ⟨pre, hpre⟩ : ∃ p, p = preT st0 pa0 := ⟨_, rfl⟩
    rw [← hpre] at hpl
    have HPRE := Lib.hid hpre
    have HBD5 := Lib.hid (show Bd w2.heap.size w2.heap.size pre w5 by rw [hpre]; exact HBD5.out)
    clear HBD3 HBD4 hpre
    clear pr0 pr1 pr2 pr3 pr4
    obtain ⟨pr0, pr1, pr2, pr3, pr4⟩ := F5.out.cs5
    go_wp2_with fail
    go_loopg [23] k0 (fun k iv wr => ∃ j : Nat, iv = .int .i64 j ∧ j ≤ k0 ∧ k = k0 - j ∧ Hid (Bd w2.heap.size w2.heap.size (pre ++ (ms0.take j).flatMap MdN.txt) wr) ∧ Hid (Lw w2 wr))
    case atStart => exact ⟨0, rfl, by omega, by omega, by unfold Hid; simpa using HBD5.out, O5.out⟩
    case round =>
      obtain ⟨j, rfl, hj, rfl, HBR, HLR⟩ := hrel
      obtain ⟨wo, rfl⟩ : ∃ z : World, z = wr := ⟨_, rfl⟩
      by_cases hlt : j < k0
      · obtain ⟨bb, o, x, hA, ht, hin, h7⟩ := InM.len (InM.list HM0.out (Lw.under O0.out HLR.out)) j hlt
        subst hA
        obtain ⟨hbl, x0, x1, x2⟩ := MdN.cells_at h7
        have hokm := ok_of_all HMOKS.out ht
        have HMS := Lib.hid (flat_snoc MdN.txt ms0 j x ht)
        have hcl := fl_len HM0.out HMOKS.out j hk8
        have hiw := (HM0.out.hi x (mem_takeA ht))
        obtain ⟨sM, AM, nM, cM, flM, BM, mM, dM, edM⟩ := x
        have HMOK := Lib.hid hokm
        have HMX := Lib.hid hiw
        have hok5 := MdN.ok_iff.1 hokm
        have hsM : sM.size ≤ 20 := name_len hok5.1
        have hn4 : nM ≤ 4 := hok5.2.1
        have hm4 : mM ≤ 4 := hok5.2.2.1
        have HFOK := Lib.hid (show flM.all EqN.ok = true from hok5.2.2.2.1)
        have HEOK := Lib.hid (show edM.all EdN.ok = true from hok5.2.2.2.2)
        have HXF := Lib.hid (show InL 7 EqN.cells InQ w AM nM cM flM from hiw.hf)
        have HXE := Lib.hid (show InL 9 EdN.cells InG w BM mM dM edM from hiw.he)
        have HLNF := Lib.hid (show flM.length = nM from hiw.hf.hl)
        have HLNE := Lib.hid (show edM.length = mM from hiw.he.hl)
        obtain ⟨cur, hcu⟩ : ∃ c, c = pre ++ (ms0.take j).flatMap MdN.txt := ⟨_, rfl⟩
        have hcur : cur.length ≤ 2000000 := by rw [hcu, List.length_append]; omega
        rw [← hcu] at HBR
        have HCU := Lib.hid hcu
        have dd0 : decide ((j : Int) < (k0 : Int)) = true := decide_eq_true (by omega)
        have r1 : ¬ 9223372036854775807 < 5 + sM.size := by omega
        have r2 : ¬ 9223372036854775807 < 5 + sM.size + 3 := by omega
        clear ht hin h7 hokm hcl hiw hok5 hcu
        go_wp2_with fail
        obtain ⟨w6, hw9⟩ : ∃ z9 : World, z9 = wo.alloc (Obj.cells #[.string sM, .slice AM nM cM, .slice BM mM dM] 61) := ⟨_, rfl⟩
        have HB6 := Lib.hid (show Below wo.heap.size wo w6 by rw [hw9]; exact below_box _ _)
        have F6 := Lib.hid (show Blk w6 wo.heap.size 61 #[.string sM, .slice AM nM cM, .slice BM mM dM] by rw [hw9]; exact Blk.new _ _ _)
        rw [← hw9]
        clear hw9
        clear x0 x1 x2 dd0
        have NEM := Lib.hid (show wo.heap.size ≠ w2.heap.size from Nat.ne_of_gt HBR.out.lt)
        have pm0 : w6.cell? ⟨wo.heap.size, 0, none⟩ = some (.string sM) := F6.out.cell 0
        have pm1 : w6.cell? ⟨wo.heap.size, 1, none⟩ = some (.slice AM nM cM) := F6.out.cell 1
        have pm2 : w6.cell? ⟨wo.heap.size, 2, none⟩ = some (.slice BM mM dM) := F6.out.cell 2
        go_wp2_with fail
        refine (ws_any w2.heap.size w2.heap.size cur _ w6 (HBR.out.belowW HB6.out) (by simp only [ByteArray.size_append, sz5, sz3]; omega) (HLR.out.belowW HB6.out).size).mono ?_
        rintro e w7 ⟨rfl, hb7, HK7⟩
        have FM7 := Lib.hid (Blk.kept F6.out HK7.out NEM.out TYM)
        have O7 := Lib.hid ((HLR.out.belowW HB6.out).go HK7.out)
        obtain ⟨cur2, hc2⟩ : ∃ c, c = cur ++ (⟨#[109, 111, 100, 101, 32]⟩ ++ sM ++ ⟨#[32, 123, 10]⟩ : ByteArray).data.toList := ⟨_, rfl⟩
        have HBD7 := Lib.hid (show Bd w2.heap.size w2.heap.size cur2 w7 by rw [hc2]; exact hb7.out)
        have HC2 := Lib.hid (show cur2 = cur ++ ([109, 111, 100, 101, 32] ++ sM.data.toList ++ [32, 123, 10]) by rw [hc2, data_app, data_app])
        have hcur2 : cur2.length ≤ 2000028 := by
          rw [HC2.out]
          simp only [List.length_append, List.length_cons, List.length_nil, length_data]
          omega
        clear hb7 hc2 r1 r2
        clear pm0 pm1 pm2
        have pm0 : w7.cell? ⟨wo.heap.size, 0, none⟩ = some (.string sM) := FM7.out.cell 0
        have pm1 : w7.cell? ⟨wo.heap.size, 1, none⟩ = some (.slice AM nM cM) := FM7.out.cell 1
        have pm2 : w7.cell? ⟨wo.heap.size, 2, none⟩ = some (.slice BM mM dM) := FM7.out.cell 2
        go_wp2_with fail
        go_loopg [35] nM (fun k iv wr => ∃ i : Nat, iv = .int .i64 i ∧ i ≤ nM ∧ k = nM - i ∧ Hid (Bd w2.heap.size w2.heap.size (cur2 ++ (flM.take i).flatMap EqN.ft) wr) ∧ Hid (Blk wr wo.heap.size 61 #[.string sM, .slice AM nM cM, .slice BM mM dM]) ∧ Hid (Lw w2 wr))
        case atStart => exact ⟨0, rfl, by omega, by omega, by unfold Hid; simpa using HBD7.out, FM7.out, O7.out⟩
        case round =>
          obtain ⟨i, rfl, hi, rfl, HBI, HMI, HLI⟩ := hrel
          by_cases hlt2 : i < nM
          · obtain ⟨bb2, o2, y, hA2, ht2, hin2, h72⟩ := InQ.len (InQ.list HXF.out (Lw.under O0.out HLI.out)) i hlt2
            subst hA2
            obtain ⟨hbl2, y0, y1, y2, y3, y4, y5, y6⟩ := EqN.cells_at h72
            have HIY := Lib.hid hin2
            have hoky := EqN.ok_iff.1 (ok_of_all HFOK.out ht2)
            have HVY := Lib.hid hoky.2
            have hsy : y.s.size ≤ 20 := name_len hoky.1
            have zY := (txt20 hoky.2).2
            have HFS := Lib.hid (flat_snoc EqN.ft flM i y ht2)
            have hcl := ft_len HXF.out HFOK.out i hn4
            obtain ⟨cur3, hc3⟩ : ∃ c, c = cur2 ++ (flM.take i).flatMap EqN.ft := ⟨_, rfl⟩
            have hcur3 : cur3.length ≤ 2100000 := by rw [hc3, List.length_append]; omega
            rw [← hc3] at HBI
            have HC3 := Lib.hid hc3
            have dd1 : decide ((i : Int) < (nM : Int)) = true := decide_eq_true (by omega)
            have q1 : ¬ 9223372036854775807 < 1 + y.s.size := by omega
            have q2 : ¬ 9223372036854775807 < 1 + y.s.size + 4 := by omega
            obtain ⟨wq, hwq⟩ : ∃ z : World, z = wr := ⟨_, rfl⟩
            rw [← hwq] at HBI HMI HLI y0 y1 y2 y3 y4 y5 y6 HIY ⊢
            clear ht2 hin2 h72 hoky hc3 hcl hwq
            go_wp2_with fail
            obtain ⟨wf, hw9⟩ : ∃ z9 : World, z9 = wq.alloc (Obj.cells #[.string y.s, .int .i64 y.v.h.kind, .int .i64 y.v.h.n, .int .i64 y.v.h.d, .string y.v.h.name, .int .i64 y.v.h.k, .slice y.v.A y.v.len y.v.cap] 75) := ⟨_, rfl⟩
            have HBq := Lib.hid (show Below wq.heap.size wq wf by rw [hw9]; exact below_box _ _)
            have FQf := Lib.hid (show Blk wf wq.heap.size 75 #[.string y.s, .int .i64 y.v.h.kind, .int .i64 y.v.h.n, .int .i64 y.v.h.d, .string y.v.h.name, .int .i64 y.v.h.k, .slice y.v.A y.v.len y.v.cap] by rw [hw9]; exact Blk.new _ _ _)
            rw [← hw9]
            clear hw9
            clear y0 y1 y2 y3 y4 y5 y6 dd1
            have FBf := Lib.hid (HBI.out.belowW HBq.out)
            have FMf := Lib.hid (HMI.out.belowW HBq.out)
            have FOf := Lib.hid (HLI.out.belowW HBq.out)
            have FTf := Lib.hid (HT2.out.belowW FOf.out)
            have FXf := Lib.hid (HIY.out.belowW HBq.out)
            have NEQ := Lib.hid (show wq.heap.size ≠ w2.heap.size from Nat.ne_of_gt HBI.out.lt)
            clear HBq
            have HR51 := Lib.hid (below_dr wf)
            have R51b := Lib.hid (FBf.out.belowW HR51.out)
            have R51m := Lib.hid (FMf.out.belowW HR51.out)
            have R51o := Lib.hid (FOf.out.belowW HR51.out)
            have R51t := Lib.hid (FTf.out.belowW HR51.out)
            have R51x := Lib.hid (FXf.out.belowW HR51.out)
            have R51q := Lib.hid (FQf.out.belowW HR51.out)
            refine wp_region_held_drew (S := fun w' => w'.cell? ⟨wq.heap.size, 0, none⟩ = some (.string y.s) ∧ w'.cell? ⟨wq.heap.size, 1, none⟩ = some (.int .i64 y.v.h.kind) ∧ w'.cell? ⟨wq.heap.size, 2, none⟩ = some (.int .i64 y.v.h.n) ∧ w'.cell? ⟨wq.heap.size, 3, none⟩ = some (.int .i64 y.v.h.d) ∧ w'.cell? ⟨wq.heap.size, 4, none⟩ = some (.string y.v.h.name) ∧ w'.cell? ⟨wq.heap.size, 5, none⟩ = some (.int .i64 y.v.h.k) ∧ w'.cell? ⟨wq.heap.size, 6, none⟩ = some (.slice y.v.A y.v.len y.v.cap)) (by kernel_rfl) ?_ (fun hHeld => ?_)
            case refine_1 => exact ⟨R51q.out.cell 0, R51q.out.cell 1, R51q.out.cell 2, R51q.out.cell 3, R51q.out.cell 4, R51q.out.cell 5, R51q.out.cell 6⟩
            refine tkW 0 ?_
            refine tkW 1 ?_
            refine tkW 2 ?_
            refine tkW 3 ?_
            refine tkW 4 ?_
            refine tkW 5 ?_
            refine wpAnyH_ready (rs := [6]) (by kernel_rfl) (by simp) ?_
            refine AllReadyH.cons rfl (fun K hK => ?_) AllReadyH.nil
            go_simp
            (with_reducible refine (expr20 y.T y.v _ R51x.out.e HVY.out R51t.out).mono ?_)
            rintro e w52 ⟨X, rfl, HX, HC52⟩
            have R52b := Lib.hid (R51b.out.belowW HC52.out)
            have R52m := Lib.hid (R51m.out.belowW HC52.out)
            have R52o := Lib.hid (R51o.out.belowW HC52.out)
            have R52t := Lib.hid (R51t.out.belowW HC52.out)
            have R52x := Lib.hid (R51x.out.belowW HC52.out)
            have R52q := Lib.hid (R51q.out.belowW HC52.out)
            have hX : X.size ≤ 10000 := by rw [strp_size HX.out]; exact zY
            have q3 : ¬ 9223372036854775807 < 1 + y.s.size + 4 + X.size := by omega
            have q4 : ¬ 9223372036854775807 < 1 + y.s.size + 4 + X.size + 2 := by omega
            have HSZ : cur3.length + (⟨#[9]⟩ ++ y.s ++ ⟨#[39, 32, 61, 32]⟩ ++ X ++ ⟨#[59, 10]⟩ : ByteArray).size ≤ 140737488355328 := by
              simp only [ByteArray.size_append, sz1, sz2, sz4]
              omega
            have HSO := R52o.out.size
            go_wp2_with fail
            clear hHeld
            refine hK.out _ _ ?_ (fun hHeld => ?_)
            case refine_1 => exact ⟨R52q.out.cell 0, R52q.out.cell 1, R52q.out.cell 2, R52q.out.cell 3, R52q.out.cell 4, R52q.out.cell 5, R52q.out.cell 6⟩
            clear hK K
            try simp only [setIfInBounds_toArray, set_cons_zero, set_cons_succ]
            refine tkW 7 ?_
            refine tkW 8 ?_
            refine wpAnyH_ready (rs := [9]) (by kernel_rfl) (by simp) ?_
            refine AllReadyH.cons rfl (fun K hK => ?_) AllReadyH.nil
            go_simp
            (with_reducible refine (ws_any w2.heap.size w2.heap.size cur3 _ _ R52b.out HSZ HSO).mono ?_)
            rintro e w53 ⟨rfl, KBw, KKw⟩
            have R53b := Lib.hid (KBw.out)
            have R53m := Lib.hid (Blk.kept R52m.out KKw.out NEM.out TYM)
            have R53q := Lib.hid (Blk.kept R52q.out KKw.out NEQ.out TYQ)
            have R53o := Lib.hid (R52o.out.go KKw.out)
            go_wp2_with fail
            clear hHeld
            refine hK.out _ _ ?_ (fun hHeld => ?_)
            case refine_1 => exact ⟨R53q.out.cell 0, R53q.out.cell 1, R53q.out.cell 2, R53q.out.cell 3, R53q.out.cell 4, R53q.out.cell 5, R53q.out.cell 6⟩
            clear hK K
            try simp only [setIfInBounds_toArray, set_cons_zero, set_cons_succ]
            refine wpAnyH_done (by kernel_rfl) ?_ _
            go_wp2_with fail
            go_roundg (nM - (i + 1))
            case measure => omega
            case rel =>
              refine ⟨i + 1, by go_num, by omega, rfl, ?_, R53m, R53o⟩
              have h := R53b.out
              simp only [data_app, HX.out] at h
              unfold Hid
              rw [HFS.out, ← List.append_assoc, ← HC3.out]
              simpa only [EqN.ft, List.append_assoc] using h
          · have hie : i = nM := by omega
            have HBE := Lib.hid (show Bd w2.heap.size w2.heap.size (cur2 ++ flM.flatMap EqN.ft) wr by have := HBI.out; rwa [hie, ← HLNF.out, List.take_length] at this)
            have HME := HMI
            have HLE := HLI
            have dd1 : decide ((i : Int) < (nM : Int)) = false := decide_eq_false (by omega)
            have hfl : (flM.flatMap EqN.ft).length ≤ 40108 := MdN.fl_len HMX.out HMOK.out
            obtain ⟨cur4, hc4⟩ : ∃ c, c = cur2 ++ flM.flatMap EqN.ft := ⟨_, rfl⟩
            have hcur4 : cur4.length ≤ 2150000 := by
              rw [hc4, List.length_append]; omega
            rw [← hc4] at HBE
            have HC4 := Lib.hid hc4
            obtain ⟨wp, hwp⟩ : ∃ z : World, z = wr := ⟨_, rfl⟩
            rw [← hwp] at HBE HME HLE ⊢
            have dd2 : decide (i < nM) = false := decide_eq_false hlt2
            clear hc4 HBI HMI HLI hie hlt2 hfl hwp
            clear pm0 pm1 pm2
            have pm0 : wp.cell? ⟨wo.heap.size, 0, none⟩ = some (.string sM) := HME.out.cell 0
            have pm1 : wp.cell? ⟨wo.heap.size, 1, none⟩ = some (.slice AM nM cM) := HME.out.cell 1
            have pm2 : wp.cell? ⟨wo.heap.size, 2, none⟩ = some (.slice BM mM dM) := HME.out.cell 2
            go_wp2_with fail
            clear dd1 dd2
            go_loopg [53] mM (fun k iv wr => ∃ i : Nat, iv = .int .i64 i ∧ i ≤ mM ∧ k = mM - i ∧ Hid (Bd w2.heap.size w2.heap.size (cur4 ++ (edM.take i).flatMap EdN.txt) wr) ∧ Hid (Blk wr wo.heap.size 61 #[.string sM, .slice AM nM cM, .slice BM mM dM]) ∧ Hid (Lw w2 wr))
            case atStart => exact ⟨0, rfl, by omega, by omega, by unfold Hid; simpa using HBE.out, HME.out, HLE.out⟩
            case round =>
              obtain ⟨i, rfl, hi, rfl, HBI, HMI, HLI⟩ := hrel
              by_cases hlt2 : i < mM
              · obtain ⟨bb2, o2, y, hA2, ht2, hin2, h72⟩ := InG.len (InG.list HXE.out (Lw.under O0.out HLI.out)) i hlt2
                subst hA2
                obtain ⟨hbl2, y0, y1, y2, y3, y4, y5, y6, y7, y8⟩ := EdN.cells_at h72
                have HIY := Lib.hid hin2
                have HOKY := Lib.hid (ok_of_all HEOK.out ht2)
                have zY := EdN.txt_len hin2 HOKY.out
                have HFS := Lib.hid (flat_snoc EdN.txt edM i y ht2)
                have hcl := et_len HXE.out HEOK.out i hm4
                obtain ⟨cur5, hc5⟩ : ∃ c, c = cur4 ++ (edM.take i).flatMap EdN.txt := ⟨_, rfl⟩
                have hcur5 : cur5.length ≤ 2400000 := by rw [hc5, List.length_append]; omega
                rw [← hc5] at HBI
                have HC5 := Lib.hid hc5
                have dd1 : decide ((i : Int) < (mM : Int)) = true := decide_eq_true (by omega)
                obtain ⟨wq, hwq⟩ : ∃ z : World, z = wr := ⟨_, rfl⟩
                rw [← hwq] at HBI HMI HLI y0 y1 y2 y3 y4 y5 y6 y7 y8 HIY ⊢
                clear ht2 hin2 h72 hc5 hcl hwq
                obtain ⟨TY, hTY⟩ : ∃ t, t = y.txt := ⟨_, rfl⟩
                rw [← hTY] at zY
                go_wp2_with fail
                obtain ⟨wf, hw9⟩ : ∃ z9 : World, z9 = wq.alloc (Obj.cells #[.int .i64 y.v.h.kind, .int .i64 y.v.h.n, .int .i64 y.v.h.d, .string y.v.h.name, .int .i64 y.v.h.k, .slice y.v.A y.v.len y.v.cap, .int .i64 y.dir, .string y.tn, .slice y.A y.len y.cap] 64) := ⟨_, rfl⟩
                have HBq := Lib.hid (show Below wq.heap.size wq wf by rw [hw9]; exact below_box _ _)
                have FQf := Lib.hid (show Blk wf wq.heap.size 64 #[.int .i64 y.v.h.kind, .int .i64 y.v.h.n, .int .i64 y.v.h.d, .string y.v.h.name, .int .i64 y.v.h.k, .slice y.v.A y.v.len y.v.cap, .int .i64 y.dir, .string y.tn, .slice y.A y.len y.cap] by rw [hw9]; exact Blk.new _ _ _)
                rw [← hw9]
                clear hw9
                clear y0 y1 y2 y3 y4 y5 y6 y7 y8 dd1
                have FOf := Lib.hid (HLI.out.belowW HBq.out)
                obtain ⟨y0, y1, y2, y3, y4, y5, y6, y7, y8⟩ := FQf.out.cs9
                go_wp2_with fail
                refine (fedge_p y wf (HIY.out.belowW HBq.out) HOKY.out (HT2.out.belowW FOf.out)).mono ?_
                rw [← hTY]
                rintro e wg ⟨X, rfl, HX, HBg⟩
                have hX : X.size ≤ 50156 := by rw [strp_size HX.out]; exact zY
                have FBg := Lib.hid ((HBI.out.belowW HBq.out).belowW HBg.out)
                have FMg := Lib.hid ((HMI.out.belowW HBq.out).belowW HBg.out)
                have FOg := Lib.hid (FOf.out.belowW HBg.out)
                go_wp2_with fail
                refine (ws_any w2.heap.size w2.heap.size cur5 X wg FBg.out (by omega) FOg.out.size).mono ?_
                rintro e wh ⟨rfl, HBw, HKw⟩
                have FMh := Lib.hid (Blk.kept FMg.out HKw.out NEM.out TYM)
                have FOh := Lib.hid (FOg.out.go HKw.out)
                go_wp2_with fail
                go_roundg (mM - (i + 1))
                case measure => omega
                case rel =>
                  refine ⟨i + 1, by go_num, by omega, rfl, ?_, FMh, FOh⟩
                  have h := HBw.out
                  rw [HX.out] at h
                  unfold Hid
                  rw [HFS.out, ← List.append_assoc, ← HC5.out, ← hTY]
                  exact h
              · have hie : i = mM := by omega
                have HBX := Lib.hid (show Bd w2.heap.size w2.heap.size (cur4 ++ edM.flatMap EdN.txt) wr by have := HBI.out; rwa [hie, ← HLNE.out, List.take_length] at this)
                have dd1 : decide ((i : Int) < (mM : Int)) = false := decide_eq_false (by omega)
                have hel : (edM.flatMap EdN.txt).length ≤ 200624 := MdN.ed_len HMX.out HMOK.out
                go_wp2_with fail
                refine (ws_any w2.heap.size w2.heap.size (cur4 ++ edM.flatMap EdN.txt) ⟨#[125, 10]⟩ wr HBX.out (by
                  rw [List.length_append, sz2]
                  omega) HLI.out.size).mono ?_
                rintro e wz ⟨rfl, HBw, HKw⟩
                have FOz := Lib.hid (HLI.out.go HKw.out)
                go_wp2_with fail
                go_roundg (k0 - (j + 1))
                case measure => omega
                case rel =>
                  refine ⟨j + 1, by go_num, by omega, rfl, ?_, FOz⟩
                  have h := HBw.out
                  unfold Hid
                  rw [HMS.out, ← List.append_assoc, ← HCU.out]
                  rw [HC4.out, HC2.out] at h
                  simpa only [MdN.txt, MdN.hd, List.append_assoc] using h
      · have hjn : j = k0 := by omega
        have HBZ := Lib.hid (show Bd w2.heap.size w2.heap.size (pre ++ ms0.flatMap MdN.txt) wo by have := HBR.out; rwa [hjn, ← HLNM.out, List.take_length] at this)
        have dd0 : decide ((j : Int) < (k0 : Int)) = false := decide_eq_false (by omega)
        have hcl := fl_len HM0.out HMOKS.out k0 hk8
        rw [← HLNM.out, List.take_length] at hcl
        obtain ⟨cur, hcu⟩ : ∃ c, c = pre ++ ms0.flatMap MdN.txt := ⟨_, rfl⟩
        have hcur : cur.length ≤ 2000000 := by rw [hcu, List.length_append]; omega
        rw [← hcu] at HBZ
        have HCU := Lib.hid hcu
        have FZ := Lib.hid (F2.out.belowW HLR.out)
        clear hcl hcu HBR
        obtain ⟨pz0, pz1, pz2, pz3, pz4⟩ := FZ.out.cs5
        go_wp2_with fail
        refine (textq_at t0 u0 (textR t0 u0) wo (HT2.out.belowW HLR.out) HVT.out rfl tL tH uL uH).mono ?_
        rintro e w6 ⟨X, rfl, HX, HB6⟩
        have hX : X.size ≤ 43 := by rw [strp_size HX.out]; exact zT
        have r1 : ¬ 9223372036854775807 < 5 + X.size := by omega
        have r2 : ¬ 9223372036854775807 < 5 + X.size + 2 := by omega
        have O6 := Lib.hid (HLR.out.belowW HB6.out)
        go_wp2_with fail
        refine (ws_any w2.heap.size w2.heap.size cur _ w6 (HBZ.out.belowW HB6.out) (by simp only [ByteArray.size_append, sz5, sz2]; omega) O6.out.size).mono ?_
        rintro e w7 ⟨rfl, hb7, HK7⟩
        have O7 := Lib.hid (O6.out.go HK7.out)
        obtain ⟨fin, hf⟩ : ∃ c, c = cur ++ (⟨#[116, 105, 109, 101, 32]⟩ ++ X ++ ⟨#[59, 10]⟩ : ByteArray).data.toList := ⟨_, rfl⟩
        have HBF := Lib.hid (show Bd w2.heap.size w2.heap.size fin w7 by rw [hf]; exact hb7.out)
        have HF := Lib.hid (show PbN.txt ⟨A0, n0, c0, st0, B0, m0, d0, pa0, C0, k0, e0, ms0, t0, u0⟩ = fin by
          rw [hf, PbN.txt_eq, data_app, data_app, HX.out, HCU.out, HPRE.out])
        clear hb7 hf r1 r2
        go_wp2_with fail
        refine (blen_any w2.heap.size w2.heap.size fin w7 HBF.out).mono ?_
        rintro e w8 ⟨rfl, hw8⟩
        rw [hw8]
        clear hw8 w8
        have HWL := Lib.hid (Lw.under O0.out O7.out)
        by_cases hbig : 65536 < fin.length
        · have d9 : decide ((65536 : Int) < (fin.length : Int)) = true := decide_eq_true (by omega)
          have HE := Lib.hid (show PbN.ans ⟨A0, n0, c0, st0, B0, m0, d0, pa0, C0, k0, e0, ms0, t0, u0⟩ = ([], 5) by unfold PbN.ans; rw [if_pos HOK.out, HF.out, if_pos hbig])
          go_wp2_with fail
          refine bodyPost_ret (v := .tuple #[.string ⟨#[]⟩, .int .i64 5]) (by simp [results, Tryz.results7, go_sem]) rfl ?_
          rw [HE.out]
          exact ⟨_, rfl, Lib.hid rfl, HWL⟩
        · have d9 : decide ((65536 : Int) < (fin.length : Int)) = false := decide_eq_false (by omega)
          have HE := Lib.hid (show PbN.ans ⟨A0, n0, c0, st0, B0, m0, d0, pa0, C0, k0, e0, ms0, t0, u0⟩ = (fin, 0) by unfold PbN.ans; rw [if_pos HOK.out, HF.out, if_neg hbig])
          go_wp2_with fail
          refine (bstr_any w2.heap.size w2.heap.size fin w7 HBF.out O7.out.size).mono ?_
          rintro e w9 ⟨rfl, HK9⟩
          go_wp2_with fail
          refine bodyPost_ret (v := .tuple #[.string ⟨fin.toArray⟩, .int .i64 0]) (by simp [results, Tryz.results7, go_sem]) rfl ?_
          rw [HE.out]
          exact ⟨_, rfl, Lib.hid rfl, Lib.hid (Lw.under O0.out (O7.out.go HK9.out))⟩
end Go.Proofs.YtoogeihbhhcpaaaGreatDoor
