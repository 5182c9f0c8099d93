/-
  The walk of the reference's text of problems.
-/
import Derived.Test.YtoogeihbhhcpaaaGreatDoorFpH
import Derived.Test.YtoogeihbhhcpaaaGreatDoorFpG
import Derived.Test.YtoogeihbhhcpaaaGreatDoorFmW
import Derived.Test.YtoogeihbhhcpaaaGreatDoorFrP
set_option linter.unusedVariables false
namespace Go.Proofs.YtoogeihbhhcpaaaGreatDoor
open Go.RowKit Go.Fl Go.Fl.Nm Go.Fl.Dy Go.Fl.Rt Go.Fl.Fm
open List (setIfInBounds_toArray set_cons_zero set_cons_succ getElem_toArray getElem_cons_zero getElem_cons_succ)
theorem text20 (T : TE) (v : Nd) (w : World) (hin : InE w T v) (hok : okE T = true) : Calls Tryz.prog 27 #[v.val] w (StrP (txt 20 T) w) :=
  text_at 20 T v w hin (txt20 hok).1 (by have := (txt20 hok).2; omega)
set_option maxHeartbeats 16000000 in
set_option maxRecDepth 100000 in
theorem rproblem15 (x0 : PbN) (w : World) (hx : InP w x0) : Calls Tryz.prog 8 #[x0.val] w (StrE x0.ans.1 x0.ans.2 w) := by
  have HX := Lib.hid hx
  obtain ⟨A0, n0, c0, st0, B0, m0, d0, pa0, C0, k0, e0, ms0, t0, u0⟩ := x0
  have HS0 := Lib.hid (show InL 5 DcN.cells InD w A0 n0 c0 st0 from hx.hs)
  have HP0 := Lib.hid (show InL 5 DcN.cells InD w B0 m0 d0 pa0 from hx.hp)
  have HM0 := Lib.hid (show InL 3 MdN.cells InM w C0 k0 e0 ms0 from hx.hm)
  have tL : -9223372036854775808 ≤ t0 := hx.t1
  have tH : t0 ≤ 9223372036854775807 := hx.t2
  have uL : -9223372036854775808 ≤ u0 := hx.u1
  have uH : u0 ≤ 9223372036854775807 := hx.u2
  have HLNM := Lib.hid (show ms0.length = k0 from hx.hm.hl)
  have hlst : st0.length = n0 := hx.hs.hl
  have hlpa : pa0.length = m0 := hx.hp.hl
  obtain ⟨ok, hok⟩ : ∃ n, PbN.ok ⟨A0, n0, c0, st0, B0, m0, d0, pa0, C0, k0, e0, ms0, t0, u0⟩ = n := ⟨_, rfl⟩
  have HOK := Lib.hid hok
  clear hx
  simp only [PbN.val]
  go_enter Tryz.func8, Tryz.ntmps8
  go_upto_region 1 with (fail)
  obtain ⟨w1, hw1⟩ : ∃ z9 : World, z9 = w.alloc (Obj.cells #[.slice A0 n0 c0, .slice B0 m0 d0, .slice C0 k0 e0, .int .i64 t0, .int .i64 u0] 27) := ⟨_, rfl⟩
  have HW1 := Lib.hid (show Below w.heap.size w w1 by rw [hw1]; exact below_box _ _)
  have F1 := Lib.hid (show Blk w1 w.heap.size 27 #[.slice A0 n0 c0, .slice B0 m0 d0, .slice C0 k0 e0, .int .i64 t0, .int .i64 u0] by rw [hw1]; exact Blk.new _ _ _)
  rw [← hw1]
  clear hw1
  obtain ⟨pr0, pr1, pr2, pr3, pr4⟩ := F1.out.cs5
  go_wp2_with fail
  refine (rproblem_r ⟨A0, n0, c0, st0, B0, m0, d0, pa0, C0, k0, e0, ms0, t0, u0⟩ w1 (HX.out.belowW HW1.out)).mono ?_
  rw [HOK.out]
  rintro e w2 ⟨rfl, HB2⟩
  have O0 := Lib.hid (show Below w.heap.size w w2 from HW1.out.trans (HB2.out.mono HW1.out.size))
  cases ok with
  | false =>
    have HE := Lib.hid (show PbN.ans ⟨A0, n0, c0, st0, B0, m0, d0, pa0, C0, k0, e0, ms0, t0, u0⟩ = ([], 1) by unfold PbN.ans; rw [hok]; rfl)
    go_wp2_with fail
    refine bodyPost_ret (v := .tuple #[.string ⟨#[]⟩, .int .i64 1]) (by simp [results, Tryz.results8, go_sem]) rfl ?_
    rw [HE.out]
    exact ⟨_, rfl, Lib.hid rfl, O0⟩
  | true =>
    obtain ⟨⟨hs1, hs2, hs3, hs4, hk8⟩, ha, hb, hc, hv⟩ := PbN.ok_iff.1 hok
    simp only at hs1 hs2 hs3 hs4 hk8 ha hb hc hv
    have zT := textR_len (vB_iff.1 hv)
    have HVT := Lib.hid hv
    have HMOKS := Lib.hid hc
    have HAS := Lib.hid ha
    have HAP := Lib.hid hb
    have hpl := preT_len ha hb (by omega) (by omega)
    clear hok ha hb hc hv
    obtain ⟨pre, hpre⟩ : ∃ p, p = preT st0 pa0 := ⟨_, rfl⟩
    rw [← hpre] at hpl
    have HPRE := Lib.hid hpre
    have F2 := Lib.hid (F1.out.belowW HB2.out)
    have HS9 := Lib.hid (show (⟨#[]⟩ : ByteArray).data.toList = [] from rfl)
    have HL9 := Lib.hid (show Lw w2 w2 from Below.refl _ _)
    clear hpre pr0 pr1 pr2 pr3 pr4
    go_wp2_with fail
    go_loopg [4, 5] n0 (fun k sv iv wr' => ∃ (i : Nat) (S : ByteArray), sv = .string S ∧ iv = .int .i64 i ∧ i ≤ n0 ∧ k = n0 - i ∧ Hid (S.data.toList = [] ++ (st0.take i).flatMap stT) ∧ Hid (Lw w2 wr'))
    case atStart => exact ⟨0, _, rfl, rfl, by omega, by omega, by unfold Hid; simp, HL9.out⟩
    case round =>
      obtain ⟨i, S, rfl, rfl, hi, rfl, HS, HL⟩ := hrel
      have FP := Lib.hid (F2.out.belowW HL.out)
      obtain ⟨pz0, pz1, pz2, pz3, pz4⟩ := FP.out.cs5
      by_cases hlt : i < n0
      · obtain ⟨bb, o, x, hA, ht, hin, h7⟩ := InD.len (InD.list HS0.out (Lw.under O0.out HL.out)) i hlt
        subst hA
        have HE7 := Lib.hid h7
        have HIN := Lib.hid hin
        have hok := ok_of_all HAS.out ht
        have HV := Lib.hid (DcN.ok_iff.1 hok).2
        have hs20 : x.s.size ≤ 20 := name_len (DcN.ok_iff.1 hok).1
        have hr90 := range_len (DcN.ok_iff.1 hok).2
        have HFL := Lib.hid (flat_snoc stT st0 i x ht)
        have hSz : S.size ≤ 10000 := by
          have h1 := flat_len stT (st0.take i) 127 (fun y hy => by
            have := DcN.txt_len (List.all_eq_true.1 (all_take HAS.out i) y hy)
            unfold stT
            simp only [List.length_append, List.length_cons, List.length_nil]; omega)
          have h2 := take_le st0 i
          rw [strp_size HS.out]
          simp only [List.length_append, List.length_nil]
          omega
        have d1 : decide ((i : Int) < (n0 : Int)) = true := decide_eq_true (by omega)
        have s1 : ¬ 9223372036854775807 < S.size + 6 := by omega
        have s2 : ¬ 9223372036854775807 < S.size + 6 + x.s.size := by omega
        have s3 : ¬ 9223372036854775807 < S.size + 6 + x.s.size + 4 := by omega
        clear ht hin h7 hok
        go_wp2_with fail
        clear d1 pz0 pz1 pz2 pz3 pz4
        have HR106 := Lib.hid (below_dr wr)
        have R106p := Lib.hid (FP.out.belowW HR106.out)
        have R106e := Lib.hid (HE7.out.belowW HR106.out)
        have R106o := Lib.hid (HL.out.belowW HR106.out)
        refine wp_region_held_drew (S := fun w' => w'.cell? ⟨w.heap.size, 0, none⟩ = some (.slice (some ⟨bb, o, none⟩) n0 c0) ∧ w'.cell? ⟨w.heap.size, 1, none⟩ = some (.slice B0 m0 d0) ∧ w'.cell? ⟨w.heap.size, 2, none⟩ = some (.slice C0 k0 e0) ∧ w'.cell? ⟨w.heap.size, 3, none⟩ = some (.int .i64 t0) ∧ w'.cell? ⟨w.heap.size, 4, none⟩ = some (.int .i64 u0) ∧ w'.cell? ⟨bb, o + i * 5, none⟩ = some (.string x.s) ∧ w'.cell? ⟨bb, o + i * 5 + 1, none⟩ = some (.int .i64 x.a) ∧ w'.cell? ⟨bb, o + i * 5 + 2, none⟩ = some (.int .i64 x.b) ∧ w'.cell? ⟨bb, o + i * 5 + 3, none⟩ = some (.int .i64 x.c) ∧ w'.cell? ⟨bb, o + i * 5 + 4, none⟩ = some (.int .i64 x.d)) (by kernel_rfl) ?_ (fun hHeld => ?_)
        case refine_1 => exact ⟨R106p.out.cell 0, R106p.out.cell 1, R106p.out.cell 2, R106p.out.cell 3, R106p.out.cell 4, R106e.out.c 0 _ rfl, R106e.out.c 1 _ rfl, R106e.out.c 2 _ rfl, R106e.out.c 3 _ rfl, R106e.out.c 4 _ rfl⟩
        refine tkW 0 ?_
        refine tkW 1 ?_
        refine tkW 2 ?_
        refine tkW 3 ?_
        refine tkW 4 ?_
        refine tkW 5 ?_
        refine tkW 6 ?_
        refine tkW 7 ?_
        refine tkW 8 ?_
        refine tkW 9 ?_
        refine tkW 10 ?_
        refine tkW 11 ?_
        refine tkW 12 ?_
        refine tkW 13 ?_
        refine tkW 14 ?_
        refine tkW 15 ?_
        refine wpAnyH_ready (rs := [16]) (by kernel_rfl) (by simp) ?_
        refine AllReadyH.cons rfl (fun K hK => ?_) AllReadyH.nil
        go_simp
        (with_reducible refine (range_r x.a x.b x.c x.d _ HIN.out.r HV.out).mono ?_)
        rintro e w107 ⟨X, rfl, HX, HC107⟩
        have R107p := Lib.hid (R106p.out.belowW HC107.out)
        have R107e := Lib.hid (R106e.out.belowW HC107.out)
        have R107o := Lib.hid (R106o.out.belowW HC107.out)
        have hX : X.size ≤ 90 := by rw [strp_size HX.out]; exact hr90
        have s4 : ¬ 9223372036854775807 < S.size + 6 + x.s.size + 4 + X.size := by omega
        have s5 : ¬ 9223372036854775807 < S.size + 6 + x.s.size + 4 + X.size + 2 := by omega
        go_wp2_with fail
        clear hHeld
        refine hK.out _ _ ?_ (fun hHeld => ?_)
        case refine_1 => exact ⟨R107p.out.cell 0, R107p.out.cell 1, R107p.out.cell 2, R107p.out.cell 3, R107p.out.cell 4, R107e.out.c 0 _ rfl, R107e.out.c 1 _ rfl, R107e.out.c 2 _ rfl, R107e.out.c 3 _ rfl, R107e.out.c 4 _ rfl⟩
        clear hK K
        try simp only [setIfInBounds_toArray, set_cons_zero, set_cons_succ]
        refine tkW 17 ?_
        refine tkW 18 ?_
        refine tkW 19 ?_
        refine wpAnyH_done (by kernel_rfl) ?_ _
        go_wp2_with fail
        go_roundg (n0 - (i + 1))
        case measure => omega
        case rel =>
          refine ⟨i + 1, _, rfl, by go_num, by omega, rfl, ?_, R107o⟩
          unfold Hid
          rw [HFL.out]
          simp only [data_app, HS.out, HX.out, stT, DcN.txt, List.append_assoc]
          try rfl
      · have hin : i = n0 := by omega
        have HS8 := Lib.hid (show S.data.toList = [] ++ st0.flatMap stT by have := HS.out; rwa [hin, ← hlst, List.take_length] at this)
        have d1 : decide ((i : Int) < (n0 : Int)) = false := decide_eq_false (by omega)
        have hSz : S.size ≤ 10000 := by
          have h1 := flat_len stT st0 127 (fun y hy => by
            have := DcN.txt_len (List.all_eq_true.1 HAS.out y hy)
            unfold stT
            simp only [List.length_append, List.length_cons, List.length_nil]; omega)
          rw [strp_size HS8.out]
          simp only [List.length_append, List.length_nil]
          omega
        have d2 : decide (i < n0) = false := decide_eq_false hlt
        clear hin hlt
        go_wp2_with fail
        clear d1 d2 pz0 pz1 pz2 pz3 pz4
        obtain ⟨pre2, hpre2⟩ : ∃ p, p = [] ++ st0.flatMap stT := ⟨_, rfl⟩
        have HPR2 := Lib.hid hpre2
        rw [← hpre2] at HS8
        have hpre2l : pre2.length ≤ 600 := by
          rw [hpre2]
          have h1 := flat_len stT st0 127 (fun y hy => by
            have := DcN.txt_len (List.all_eq_true.1 HAS.out y hy)
            unfold stT
            simp only [List.length_append, List.length_cons, List.length_nil]; omega)
          rw [List.length_append, List.length_nil]
          omega
        have HS9 := HS8
        have HL9 := HL
        clear hpre2 HS HS8 HL FP hSz
        go_loopg [4, 6] m0 (fun k sv iv wr' => ∃ (i : Nat) (S : ByteArray), sv = .string S ∧ iv = .int .i64 i ∧ i ≤ m0 ∧ k = m0 - i ∧ Hid (S.data.toList = pre2 ++ (pa0.take i).flatMap paT) ∧ Hid (Lw w2 wr'))
        case atStart => exact ⟨0, _, rfl, rfl, by omega, by omega, by unfold Hid; simpa using HS9.out, HL9.out⟩
        case round =>
          obtain ⟨i, S, rfl, rfl, hi, rfl, HS, HL⟩ := hrel
          have FP := Lib.hid (F2.out.belowW HL.out)
          obtain ⟨pz0, pz1, pz2, pz3, pz4⟩ := FP.out.cs5
          by_cases hlt : i < m0
          · obtain ⟨bb, o, x, hA, ht, hin, h7⟩ := InD.len (InD.list HP0.out (Lw.under O0.out HL.out)) i hlt
            subst hA
            have HE7 := Lib.hid h7
            have HIN := Lib.hid hin
            have hok := ok_of_all HAP.out ht
            have HV := Lib.hid (DcN.ok_iff.1 hok).2
            have hs20 : x.s.size ≤ 20 := name_len (DcN.ok_iff.1 hok).1
            have hr90 := range_len (DcN.ok_iff.1 hok).2
            have HFL := Lib.hid (flat_snoc paT pa0 i x ht)
            have hSz : S.size ≤ 10000 := by
              have h1 := flat_len paT (pa0.take i) 127 (fun y hy => by
                have := DcN.txt_len (List.all_eq_true.1 (all_take HAP.out i) y hy)
                unfold paT
                simp only [List.length_append, List.length_cons, List.length_nil]; omega)
              have h2 := take_le pa0 i
              rw [strp_size HS.out]
              simp only [List.length_append]
              omega
            have d1 : decide ((i : Int) < (m0 : Int)) = true := decide_eq_true (by omega)
            have s1 : ¬ 9223372036854775807 < S.size + 6 := by omega
            have s2 : ¬ 9223372036854775807 < S.size + 6 + x.s.size := by omega
            have s3 : ¬ 9223372036854775807 < S.size + 6 + x.s.size + 4 := by omega
            clear ht hin h7 hok
            go_wp2_with fail
            clear d1 pz0 pz1 pz2 pz3 pz4
            have HR107 := Lib.hid (below_dr wr)
            have R107p := Lib.hid (FP.out.belowW HR107.out)
            have R107e := Lib.hid (HE7.out.belowW HR107.out)
            have R107o := Lib.hid (HL.out.belowW HR107.out)
            refine wp_region_held_drew (S := fun w' => w'.cell? ⟨w.heap.size, 0, none⟩ = some (.slice A0 n0 c0) ∧ w'.cell? ⟨w.heap.size, 1, none⟩ = some (.slice (some ⟨bb, o, none⟩) m0 d0) ∧ w'.cell? ⟨w.heap.size, 2, none⟩ = some (.slice C0 k0 e0) ∧ w'.cell? ⟨w.heap.size, 3, none⟩ = some (.int .i64 t0) ∧ w'.cell? ⟨w.heap.size, 4, none⟩ = some (.int .i64 u0) ∧ w'.cell? ⟨bb, o + i * 5, none⟩ = some (.string x.s) ∧ w'.cell? ⟨bb, o + i * 5 + 1, none⟩ = some (.int .i64 x.a) ∧ w'.cell? ⟨bb, o + i * 5 + 2, none⟩ = some (.int .i64 x.b) ∧ w'.cell? ⟨bb, o + i * 5 + 3, none⟩ = some (.int .i64 x.c) ∧ w'.cell? ⟨bb, o + i * 5 + 4, none⟩ = some (.int .i64 x.d)) (by kernel_rfl) ?_ (fun hHeld => ?_)
            case refine_1 => exact ⟨R107p.out.cell 0, R107p.out.cell 1, R107p.out.cell 2, R107p.out.cell 3, R107p.out.cell 4, R107e.out.c 0 _ rfl, R107e.out.c 1 _ rfl, R107e.out.c 2 _ rfl, R107e.out.c 3 _ rfl, R107e.out.c 4 _ rfl⟩
            refine tkW 0 ?_
            refine tkW 1 ?_
            refine tkW 2 ?_
            refine tkW 3 ?_
            refine tkW 4 ?_
            refine tkW 5 ?_
            refine tkW 6 ?_
            refine tkW 7 ?_
            refine tkW 8 ?_
            refine tkW 9 ?_
            refine tkW 10 ?_
            refine tkW 11 ?_
            refine tkW 12 ?_
            refine tkW 13 ?_
            refine tkW 14 ?_
            refine tkW 15 ?_
            refine wpAnyH_ready (rs := [16]) (by kernel_rfl) (by simp) ?_
            refine AllReadyH.cons rfl (fun K hK => ?_) AllReadyH.nil
            go_simp
            (with_reducible refine (range_r x.a x.b x.c x.d _ HIN.out.r HV.out).mono ?_)
            rintro e w108 ⟨X, rfl, HX, HC108⟩
            have R108p := Lib.hid (R107p.out.belowW HC108.out)
            have R108e := Lib.hid (R107e.out.belowW HC108.out)
            have R108o := Lib.hid (R107o.out.belowW HC108.out)
            have hX : X.size ≤ 90 := by rw [strp_size HX.out]; exact hr90
            have s4 : ¬ 9223372036854775807 < S.size + 6 + x.s.size + 4 + X.size := by omega
            have s5 : ¬ 9223372036854775807 < S.size + 6 + x.s.size + 4 + X.size + 2 := by omega
            go_wp2_with fail
            clear hHeld
            refine hK.out _ _ ?_ (fun hHeld => ?_)
            case refine_1 => exact ⟨R108p.out.cell 0, R108p.out.cell 1, R108p.out.cell 2, R108p.out.cell 3, R108p.out.cell 4, R108e.out.c 0 _ rfl, R108e.out.c 1 _ rfl, R108e.out.c 2 _ rfl, R108e.out.c 3 _ rfl, R108e.out.c 4 _ rfl⟩
            clear hK K
            try simp only [setIfInBounds_toArray, set_cons_zero, set_cons_succ]
            refine tkW 17 ?_
            refine tkW 18 ?_
            refine tkW 19 ?_
            refine wpAnyH_done (by kernel_rfl) ?_ _
            go_wp2_with fail
            go_roundg (m0 - (i + 1))
            case measure => omega
            case rel =>
              refine ⟨i + 1, _, rfl, by go_num, by omega, rfl, ?_, R108o⟩
              unfold Hid
              rw [HFL.out]
              simp only [data_app, HS.out, HX.out, paT, DcN.txt, List.append_assoc]
              try rfl
          · have hin : i = m0 := by omega
            have HS8 := Lib.hid (show S.data.toList = pre2 ++ pa0.flatMap paT by have := HS.out; rwa [hin, ← hlpa, List.take_length] at this)
            have d1 : decide ((i : Int) < (m0 : Int)) = false := decide_eq_false (by omega)
            have hSz : S.size ≤ 10000 := by
              have h1 := flat_len paT pa0 127 (fun y hy => by
                have := DcN.txt_len (List.all_eq_true.1 HAP.out y hy)
                unfold paT
                simp only [List.length_append, List.length_cons, List.length_nil]; omega)
              rw [strp_size HS8.out]
              simp only [List.length_append]
              omega
            have d2 : decide (i < m0) = false := decide_eq_false hlt
            clear hin hlt
            go_wp2_with fail
            clear d1 d2 pz0 pz1 pz2 pz3 pz4
            have HS7 := Lib.hid (show S.data.toList = pre by rw [HS8.out, HPR2.out, HPRE.out]; rfl)
            have HL7 := HL
            clear HS HS8 HL FP hSz
            go_loopg [4, 7] k0 (fun k sv iv wr => ∃ (j : Nat) (S : ByteArray), sv = .string S ∧ iv = .int .i64 j ∧ j ≤ k0 ∧ k = k0 - j ∧ Hid (S.data.toList = pre ++ (ms0.take j).flatMap MdN.txt) ∧ Hid (Lw w2 wr))
            case atStart => exact ⟨0, _, rfl, rfl, by omega, by omega, by unfold Hid; simpa using HS7.out, HL7.out⟩
            case round =>
              obtain ⟨j, S, rfl, rfl, hj, rfl, HS, HLR⟩ := hrel
              obtain ⟨wo, rfl⟩ : ∃ z : World, z = wr := ⟨_, rfl⟩
              have FP := Lib.hid (F2.out.belowW HLR.out)
              obtain ⟨pz0, pz1, pz2, pz3, pz4⟩ := FP.out.cs5
              have hSz : S.size ≤ 1940000 := by
                have h1 := fl_len HM0.out HMOKS.out j hk8
                rw [strp_size HS.out, List.length_append]
                omega
              by_cases hlt : j < k0
              · obtain ⟨bb, o, x, hA, ht, hin, h7⟩ := InM.len (InM.list HM0.out (Lw.under O0.out HLR.out)) j hlt
                subst hA
                obtain ⟨hbl, x0, x1, x2⟩ := MdN.cells_at h7
                have hokm := ok_of_all HMOKS.out ht
                have HMS := Lib.hid (flat_snoc MdN.txt ms0 j x ht)
                have hiw := (HM0.out.hi x (mem_takeA ht))
                obtain ⟨sM, AM, nM, cM, flM, BM, mM, dM, edM⟩ := x
                have hok5 := MdN.ok_iff.1 hokm
                have hsM : sM.size ≤ 20 := name_len hok5.1
                have hn4 : nM ≤ 4 := hok5.2.1
                have hm4 : mM ≤ 4 := hok5.2.2.1
                have HFOK := Lib.hid (show flM.all EqN.ok = true from hok5.2.2.2.1)
                have HEOK := Lib.hid (show edM.all EdN.ok = true from hok5.2.2.2.2)
                have HXF := Lib.hid (show InL 7 EqN.cells InQ w AM nM cM flM from hiw.hf)
                have HXE := Lib.hid (show InL 9 EdN.cells InG w BM mM dM edM from hiw.he)
                have HLNF := Lib.hid (show flM.length = nM from hiw.hf.hl)
                have HLNE := Lib.hid (show edM.length = mM from hiw.he.hl)
                obtain ⟨cur, hcu⟩ : ∃ c, c = pre ++ (ms0.take j).flatMap MdN.txt := ⟨_, rfl⟩
                rw [← hcu] at HS
                have HMS := Lib.hid (show pre ++ (ms0.take (j + 1)).flatMap MdN.txt = cur ++ MdN.txt ⟨sM, AM, nM, cM, flM, BM, mM, dM, edM⟩ by rw [HMS.out, ← List.append_assoc, ← hcu])
                clear hcu
                have dd0 : decide ((j : Int) < (k0 : Int)) = true := decide_eq_true (by omega)
                have r1 : ¬ 9223372036854775807 < S.size + 5 := by omega
                have r2 : ¬ 9223372036854775807 < S.size + 5 + sM.size := by omega
                have r3 : ¬ 9223372036854775807 < S.size + 5 + sM.size + 3 := by omega
                clear ht hin h7 hokm hiw hok5
                go_wp2_with fail
                obtain ⟨w6, hw9⟩ : ∃ z9 : World, z9 = wo.alloc (Obj.cells #[.string sM, .slice AM nM cM, .slice BM mM dM] 61) := ⟨_, rfl⟩
                have HB6 := Lib.hid (show Below wo.heap.size wo w6 by rw [hw9]; exact below_box _ _)
                have F6 := Lib.hid (show Blk w6 wo.heap.size 61 #[.string sM, .slice AM nM cM, .slice BM mM dM] by rw [hw9]; exact Blk.new _ _ _)
                rw [← hw9]
                clear hw9
                clear x0 x1 x2 dd0 pz0 pz1 pz2 pz3 pz4
                obtain ⟨gM, hgM⟩ : ∃ g, g = wo.heap.size := ⟨_, rfl⟩
                rw [← hgM] at F6 ⊢
                clear hgM
                have HLM := Lib.hid (HLR.out.belowW HB6.out)
                have HMM := F6
                have pm0 : w6.cell? ⟨gM, 0, none⟩ = some (.string sM) := F6.out.cell 0
                have pm1 : w6.cell? ⟨gM, 1, none⟩ = some (.slice AM nM cM) := F6.out.cell 1
                have pm2 : w6.cell? ⟨gM, 2, none⟩ = some (.slice BM mM dM) := F6.out.cell 2
                go_wp2_with fail
                obtain ⟨S3, hS3⟩ : ∃ s : ByteArray, s = S ++ ⟨#[109, 111, 100, 101, 32]⟩ ++ sM ++ ⟨#[32, 123, 10]⟩ := ⟨_, rfl⟩
                rw [← hS3]
                obtain ⟨pre4, hp4⟩ : ∃ p, p = cur ++ MdN.hd ⟨sM, AM, nM, cM, flM, BM, mM, dM, edM⟩ := ⟨_, rfl⟩
                have HSM := Lib.hid (show S3.data.toList = pre4 by rw [hS3, hp4]; simp only [data_app, HS.out, MdN.hd, List.append_assoc])
                have HP4 := Lib.hid hp4
                have hpre4 : pre4.length ≤ 2000000 := by
                  rw [← strp_size HSM.out, hS3]
                  simp only [ByteArray.size_append, sz5, sz3]
                  omega
                clear hS3 hp4 r1 r2 r3 pm0 pm1 pm2
                go_loopg [4, 9] nM (fun k sv iv wr' => ∃ (i : Nat) (S : ByteArray), sv = .string S ∧ iv = .int .i64 i ∧ i ≤ nM ∧ k = nM - i ∧ Hid (S.data.toList = pre4 ++ (flM.take i).flatMap EqN.ft) ∧ Hid (Lw w2 wr') ∧ Hid (Blk wr' gM 61 #[.string sM, .slice AM nM cM, .slice BM mM dM]))
                case atStart => exact ⟨0, _, rfl, rfl, by omega, by omega, by unfold Hid; simpa using HSM.out, HLM.out, HMM.out⟩
                case round =>
                  obtain ⟨i, S4, rfl, rfl, hi, rfl, HS4, HLI, HMI⟩ := hrel
                  obtain ⟨wy, rfl⟩ : ∃ z : World, z = wr := ⟨_, rfl⟩
                  have pm0 : wy.cell? ⟨gM, 0, none⟩ = some (.string sM) := HMI.out.cell 0
                  have pm1 : wy.cell? ⟨gM, 1, none⟩ = some (.slice AM nM cM) := HMI.out.cell 1
                  have pm2 : wy.cell? ⟨gM, 2, none⟩ = some (.slice BM mM dM) := HMI.out.cell 2
                  have hS4 : S4.size ≤ 2041000 := by
                    have h1 := ft_len HXF.out HFOK.out i hn4
                    rw [strp_size HS4.out, List.length_append]
                    omega
                  by_cases hlt2 : i < nM
                  · obtain ⟨bb2, o2, y, hA2, ht2, hin2, h72⟩ := InQ.len (InQ.list HXF.out (Lw.under O0.out HLI.out)) i hlt2
                    subst hA2
                    have HEY := Lib.hid h72
                    have HIY := Lib.hid hin2
                    have hoky := EqN.ok_iff.1 (ok_of_all HFOK.out ht2)
                    have HVY := Lib.hid hoky.2
                    have hsy : y.s.size ≤ 20 := name_len hoky.1
                    have zY := (txt20 hoky.2).2
                    have HFS := Lib.hid (flat_snoc EqN.ft flM i y ht2)
                    have dd1 : decide ((i : Int) < (nM : Int)) = true := decide_eq_true (by omega)
                    have q1 : ¬ 9223372036854775807 < S4.size + 1 := by omega
                    have q2 : ¬ 9223372036854775807 < S4.size + 1 + y.s.size := by omega
                    have q3 : ¬ 9223372036854775807 < S4.size + 1 + y.s.size + 4 := by omega
                    clear ht2 hin2 h72 hoky
                    go_wp2_with fail
                    clear dd1 pm0 pm1 pm2
                    have HR201 := Lib.hid (below_dr wy)
                    have R201b := Lib.hid (HMI.out.belowW HR201.out)
                    have R201e := Lib.hid (HEY.out.belowW HR201.out)
                    have R201x := Lib.hid (HIY.out.belowW HR201.out)
                    have R201o := Lib.hid (HLI.out.belowW HR201.out)
                    refine wp_region_held_drew (S := fun w' => w'.cell? ⟨gM, 0, none⟩ = some (.string sM) ∧ w'.cell? ⟨gM, 1, none⟩ = some (.slice (some ⟨bb2, o2, none⟩) nM cM) ∧ w'.cell? ⟨gM, 2, none⟩ = some (.slice BM mM dM) ∧ w'.cell? ⟨bb2, o2 + i * 7, none⟩ = some (.string y.s) ∧ w'.cell? ⟨bb2, o2 + i * 7 + 1, none⟩ = some (.int .i64 y.v.h.kind) ∧ w'.cell? ⟨bb2, o2 + i * 7 + 2, none⟩ = some (.int .i64 y.v.h.n) ∧ w'.cell? ⟨bb2, o2 + i * 7 + 3, none⟩ = some (.int .i64 y.v.h.d) ∧ w'.cell? ⟨bb2, o2 + i * 7 + 4, none⟩ = some (.string y.v.h.name) ∧ w'.cell? ⟨bb2, o2 + i * 7 + 5, none⟩ = some (.int .i64 y.v.h.k) ∧ w'.cell? ⟨bb2, o2 + i * 7 + 6, none⟩ = some (.slice y.v.A y.v.len y.v.cap)) (by kernel_rfl) ?_ (fun hHeld => ?_)
                    case refine_1 => exact ⟨R201b.out.cell 0, R201b.out.cell 1, R201b.out.cell 2, R201e.out.c 0 _ rfl, R201e.out.c 1 _ rfl, R201e.out.c 2 _ rfl, R201e.out.c 3 _ rfl, R201e.out.c 4 _ rfl, R201e.out.c 5 _ rfl, R201e.out.c 6 _ rfl⟩
                    refine tkW 0 ?_
                    refine tkW 1 ?_
                    refine tkW 2 ?_
                    refine tkW 3 ?_
                    refine tkW 4 ?_
                    refine tkW 5 ?_
                    refine tkW 6 ?_
                    refine tkW 7 ?_
                    refine tkW 8 ?_
                    refine tkW 9 ?_
                    refine tkW 10 ?_
                    refine tkW 11 ?_
                    refine tkW 12 ?_
                    refine tkW 13 ?_
                    refine tkW 14 ?_
                    refine tkW 15 ?_
                    refine wpAnyH_ready (rs := [16]) (by kernel_rfl) (by simp) ?_
                    refine AllReadyH.cons rfl (fun K hK => ?_) AllReadyH.nil
                    go_simp
                    (with_reducible refine (text20 y.T y.v _ R201x.out.e HVY.out).mono ?_)
                    rintro e w202 ⟨X, rfl, HX, HC202⟩
                    have R202b := Lib.hid (R201b.out.belowW HC202.out)
                    have R202e := Lib.hid (R201e.out.belowW HC202.out)
                    have R202x := Lib.hid (R201x.out.belowW HC202.out)
                    have R202o := Lib.hid (R201o.out.belowW HC202.out)
                    have hX : X.size ≤ 10000 := by rw [strp_size HX.out]; exact zY
                    have q4 : ¬ 9223372036854775807 < S4.size + 1 + y.s.size + 4 + X.size := by omega
                    have q5 : ¬ 9223372036854775807 < S4.size + 1 + y.s.size + 4 + X.size + 2 := by omega
                    go_wp2_with fail
                    clear hHeld
                    refine hK.out _ _ ?_ (fun hHeld => ?_)
                    case refine_1 => exact ⟨R202b.out.cell 0, R202b.out.cell 1, R202b.out.cell 2, R202e.out.c 0 _ rfl, R202e.out.c 1 _ rfl, R202e.out.c 2 _ rfl, R202e.out.c 3 _ rfl, R202e.out.c 4 _ rfl, R202e.out.c 5 _ rfl, R202e.out.c 6 _ rfl⟩
                    clear hK K
                    try simp only [setIfInBounds_toArray, set_cons_zero, set_cons_succ]
                    refine tkW 17 ?_
                    refine tkW 18 ?_
                    refine tkW 19 ?_
                    refine wpAnyH_done (by kernel_rfl) ?_ _
                    go_wp2_with fail
                    go_roundg (nM - (i + 1))
                    case measure => omega
                    case rel =>
                      refine ⟨i + 1, _, rfl, by go_num, by omega, rfl, ?_, R202o, R202b⟩
                      unfold Hid
                      rw [HFS.out]
                      simp only [data_app, HS4.out, HX.out, EqN.ft, List.append_assoc]
                  · have hie : i = nM := by omega
                    have HSF := Lib.hid (show S4.data.toList = pre4 ++ flM.flatMap EqN.ft by have := HS4.out; rwa [hie, ← HLNF.out, List.take_length] at this)
                    have dd1 : decide ((i : Int) < (nM : Int)) = false := decide_eq_false (by omega)
                    obtain ⟨pre5, hp5⟩ : ∃ c, c = pre4 ++ flM.flatMap EqN.ft := ⟨_, rfl⟩
                    rw [← hp5] at HSF
                    have hpre5 : pre5.length ≤ 2041000 := by rw [← strp_size HSF.out]; exact hS4
                    have HC5M := Lib.hid (show pre5 = cur ++ (MdN.hd ⟨sM, AM, nM, cM, flM, BM, mM, dM, edM⟩ ++ flM.flatMap EqN.ft) by rw [hp5, HP4.out, List.append_assoc])
                    have HSE := HSF
                    have HLE := HLI
                    have HME := HMI
                    have dd2 : decide (i < nM) = false := decide_eq_false hlt2
                    clear hp5 HS4 HSF hlt2 hie
                    go_wp2_with fail
                    clear dd1 dd2 pm0 pm1 pm2
                    go_loopg [4, 10] mM (fun k sv iv wr' => ∃ (i : Nat) (S : ByteArray), sv = .string S ∧ iv = .int .i64 i ∧ i ≤ mM ∧ k = mM - i ∧ Hid (S.data.toList = pre5 ++ (edM.take i).flatMap EdN.txt) ∧ Hid (Lw w2 wr') ∧ Hid (Blk wr' gM 61 #[.string sM, .slice AM nM cM, .slice BM mM dM]))
                    case atStart => exact ⟨0, _, rfl, rfl, by omega, by omega, by unfold Hid; simpa using HSE.out, HLE.out, HME.out⟩
                    case round =>
                      obtain ⟨i, S4, rfl, rfl, hi, rfl, HS4, HLI, HMI⟩ := hrel
                      obtain ⟨wy, rfl⟩ : ∃ z : World, z = wr := ⟨_, rfl⟩
                      have pm0 : wy.cell? ⟨gM, 0, none⟩ = some (.string sM) := HMI.out.cell 0
                      have pm1 : wy.cell? ⟨gM, 1, none⟩ = some (.slice AM nM cM) := HMI.out.cell 1
                      have pm2 : wy.cell? ⟨gM, 2, none⟩ = some (.slice BM mM dM) := HMI.out.cell 2
                      have hS4 : S4.size ≤ 2250000 := by
                        have h1 := et_len HXE.out HEOK.out i hm4
                        rw [strp_size HS4.out, List.length_append]
                        omega
                      by_cases hlt2 : i < mM
                      · obtain ⟨bb2, o2, x, hA2, ht2, hin2, h72⟩ := InG.len (InG.list HXE.out (Lw.under O0.out HLI.out)) i hlt2
                        subst hA2
                        obtain ⟨hbl2, y0, y1, y2, y3, y4, y5, y6, y7, y8⟩ := EdN.cells_at h72
                        have hiw := (HXE.out.hi x (mem_takeA ht2))
                        have hokx := EdN.ok_iff.1 (ok_of_all HEOK.out ht2)
                        have HFS := Lib.hid (flat_snoc EdN.txt edM i x ht2)
                        obtain ⟨vX, TT, dirX, toX, AX, lX, cX, rsX⟩ := x
                        have HIX := Lib.hid (show InE wy TT vX from hin2.e)
                        have HOX := Lib.hid (show okE TT = true from hokx.1)
                        have htx : toX.size ≤ 20 := name_len hokx.2.2.1
                        have hl4 : lX ≤ 4 := hokx.2.2.2.1
                        have HROK := Lib.hid (show rsX.all EqN.ok = true from hokx.2.2.2.2)
                        have HXR := Lib.hid (show InL 7 EqN.cells InQ w AX lX cX rsX from hiw.hr)
                        have HLNR := Lib.hid (show rsX.length = lX from hiw.hr.hl)
                        have zX := (txt20 hokx.1).2
                        obtain ⟨TX, hTX⟩ : ∃ t, t = txt 20 TT := ⟨_, rfl⟩
                        have KT := Lib.hid (fun (w1 : World) (h1 : InE w1 TT vX) => show Calls Tryz.prog 27 #[vX.val] w1 (StrP TX w1) from by rw [hTX]; exact text20 TT vX w1 h1 HOX.out)
                        have HTX := Lib.hid hTX
                        rw [← hTX] at zX
                        obtain ⟨cur4, hc4⟩ : ∃ c, c = pre5 ++ (edM.take i).flatMap EdN.txt := ⟨_, rfl⟩
                        rw [← hc4] at HS4
                        have HCE := Lib.hid hc4
                        have hcur4 : cur4.length ≤ 2250000 := by rw [← strp_size HS4.out]; exact hS4
                        have dd1 : decide ((i : Int) < (mM : Int)) = true := decide_eq_true (by omega)
                        have q1 : ¬ 9223372036854775807 < S4.size + 6 := by omega
                        obtain ⟨dd, hdd⟩ : ∃ n, (dirX == 2) = n := ⟨_, rfl⟩
                        clear ht2 hin2 h72 hiw hokx hc4 hTX
                        cases dd with
                        | false =>
                          have HDD := Lib.hid (show (dirX = 2) = False by simpa using hdd)
                          go_wp2_with fail
                          obtain ⟨we, hw9⟩ : ∃ z9 : World, z9 = wy.alloc (Obj.cells #[.int .i64 vX.h.kind, .int .i64 vX.h.n, .int .i64 vX.h.d, .string vX.h.name, .int .i64 vX.h.k, .slice vX.A vX.len vX.cap, .int .i64 dirX, .string toX, .slice AX lX cX] 64) := ⟨_, rfl⟩
                          have HBe := Lib.hid (show Below wy.heap.size wy we by rw [hw9]; exact below_box _ _)
                          have FXe := Lib.hid (show Blk we wy.heap.size 64 #[.int .i64 vX.h.kind, .int .i64 vX.h.n, .int .i64 vX.h.d, .string vX.h.name, .int .i64 vX.h.k, .slice vX.A vX.len vX.cap, .int .i64 dirX, .string toX, .slice AX lX cX] by rw [hw9]; exact Blk.new _ _ _)
                          rw [← hw9]
                          clear hw9
                          clear y0 y1 y2 y3 y4 y5 y6 y7 y8 dd1 hdd pm0 pm1 pm2
                          obtain ⟨gX, hgX⟩ : ∃ g, g = wy.heap.size := ⟨_, rfl⟩
                          rw [← hgX] at FXe ⊢
                          clear hgX
                          have HLe := Lib.hid (HLI.out.belowW HBe.out)
                          have HMe := Lib.hid (HMI.out.belowW HBe.out)
                          have HIXe := Lib.hid (HIX.out.go HBe.out)
                          clear HBe
                          have HR351 := Lib.hid (below_dr we)
                          have R351b := Lib.hid (FXe.out.belowW HR351.out)
                          have R351x := Lib.hid (HIXe.out.belowW HR351.out)
                          have R351o := Lib.hid (HLe.out.belowW HR351.out)
                          have R351m := Lib.hid (HMe.out.belowW HR351.out)
                          refine wp_region_held_drew (S := fun w' => w'.cell? ⟨gX, 0, none⟩ = some (.int .i64 vX.h.kind) ∧ w'.cell? ⟨gX, 1, none⟩ = some (.int .i64 vX.h.n) ∧ w'.cell? ⟨gX, 2, none⟩ = some (.int .i64 vX.h.d) ∧ w'.cell? ⟨gX, 3, none⟩ = some (.string vX.h.name) ∧ w'.cell? ⟨gX, 4, none⟩ = some (.int .i64 vX.h.k) ∧ w'.cell? ⟨gX, 5, none⟩ = some (.slice vX.A vX.len vX.cap) ∧ w'.cell? ⟨gX, 6, none⟩ = some (.int .i64 dirX) ∧ w'.cell? ⟨gX, 7, none⟩ = some (.string toX) ∧ w'.cell? ⟨gX, 8, none⟩ = some (.slice AX lX cX)) (by kernel_rfl) ?_ (fun hHeld => ?_)
                          case refine_1 => exact ⟨R351b.out.cell 0, R351b.out.cell 1, R351b.out.cell 2, R351b.out.cell 3, R351b.out.cell 4, R351b.out.cell 5, R351b.out.cell 6, R351b.out.cell 7, R351b.out.cell 8⟩
                          refine tkW 0 ?_
                          refine tkW 1 ?_
                          refine tkW 2 ?_
                          refine tkW 3 ?_
                          refine tkW 7 ?_
                          refine tkW 10 ?_
                          refine tkW 11 ?_
                          refine wpAnyH_ready (rs := [4]) (by kernel_rfl) (by simp) ?_
                          refine AllReadyH.cons rfl (fun K hK => ?_) AllReadyH.nil
                          go_simp
                          (with_reducible refine (KT.out _ R351x.out).mono ?_)
                          rintro e w352 ⟨X, rfl, HX, HC352⟩
                          have R352b := Lib.hid (R351b.out.belowW HC352.out)
                          have R352x := Lib.hid (R351x.out.belowW HC352.out)
                          have R352o := Lib.hid (R351o.out.belowW HC352.out)
                          have R352m := Lib.hid (R351m.out.belowW HC352.out)
                          have hX : X.size ≤ 10000 := by rw [strp_size HX.out]; exact zX
                          have q2 : ¬ 9223372036854775807 < S4.size + 6 + X.size := by omega
                          have q3 : ¬ 9223372036854775807 < S4.size + 6 + X.size + 1 := by omega
                          have q4 : ¬ 9223372036854775807 < S4.size + 6 + X.size + 1 + 5 := by omega
                          have q5 : ¬ 9223372036854775807 < S4.size + 6 + X.size + 1 + 5 + 6 := by omega
                          have q6 : ¬ 9223372036854775807 < S4.size + 6 + X.size + 1 + 5 + 6 + toX.size := by omega
                          go_wp2_with fail
                          clear hHeld
                          refine hK.out _ _ ?_ (fun hHeld => ?_)
                          case refine_1 => exact ⟨R352b.out.cell 0, R352b.out.cell 1, R352b.out.cell 2, R352b.out.cell 3, R352b.out.cell 4, R352b.out.cell 5, R352b.out.cell 6, R352b.out.cell 7, R352b.out.cell 8⟩
                          clear hK K
                          try simp only [setIfInBounds_toArray, set_cons_zero, set_cons_succ]
                          refine tkW 5 ?_
                          refine tkW 6 ?_
                          refine tkW 8 ?_
                          refine tkW 9 ?_
                          refine tkW 12 ?_
                          refine tkW 13 ?_
                          refine wpAnyH_done (by kernel_rfl) ?_ _
                          go_wp2_with fail
                          obtain ⟨S5, hS5⟩ : ∃ s : ByteArray, s = S4 ++ ⟨#[9, 119, 104, 101, 110, 32]⟩ ++ X ++ ⟨#[32]⟩ ++ ⟨#[114, 105, 115, 101, 115]⟩ ++ ⟨#[32, 103, 111, 116, 111, 32]⟩ ++ toX := ⟨_, rfl⟩
                          rw [← hS5]
                          obtain ⟨cur5, hc5⟩ : ∃ c, c = cur4 ++ ([9, 119, 104, 101, 110, 32] ++ (TX ++ ([32] ++ ([114, 105, 115, 101, 115] ++ ([32, 103, 111, 116, 111, 32] ++ toX.data.toList))))) := ⟨_, rfl⟩
                          have HS5 := Lib.hid (show S5.data.toList = cur5 by rw [hS5, hc5]; simp only [data_app, HX.out, HS4.out, List.append_assoc])
                          have HC5 := Lib.hid (show cur5 = pre5 ++ ((edM.take i).flatMap EdN.txt ++ ([9, 119, 104, 101, 110, 32] ++ (txt 20 TT ++ ([32] ++ ([114, 105, 115, 101, 115] ++ ([32, 103, 111, 116, 111, 32] ++ toX.data.toList)))))) by rw [hc5, HCE.out, HTX.out, List.append_assoc])
                          have hcur5 : cur5.length ≤ 2300000 := by
                            rw [hc5]
                            have := zX
                            simp only [List.length_append, List.length_cons, List.length_nil, length_data]
                            omega
                          have HL5 := R352o
                          have HX5 := R352b
                          have HM5 := R352m
                          clear hS5 hc5 q1 q2 q3 q4 q5 q6 hX HX
                          go_loopg [4, 13] lX (fun k sv iv wr' => ∃ (i : Nat) (S : ByteArray), sv = .string S ∧ iv = .int .i64 i ∧ i ≤ lX ∧ k = lX - i ∧ Hid (S.data.toList = cur5 ++ resT (rsX.take i)) ∧ Hid (Lw w2 wr') ∧ Hid (Blk wr' gX 64 #[.int .i64 vX.h.kind, .int .i64 vX.h.n, .int .i64 vX.h.d, .string vX.h.name, .int .i64 vX.h.k, .slice vX.A vX.len vX.cap, .int .i64 dirX, .string toX, .slice AX lX cX]) ∧ Hid (Blk wr' gM 61 #[.string sM, .slice AM nM cM, .slice (some ⟨bb2, o2, none⟩) mM dM]))
                          case atStart => exact ⟨0, _, rfl, rfl, by omega, by omega, by unfold Hid; simpa [resT] using HS5.out, HL5.out, HX5.out, HM5.out⟩
                          case round =>
                            obtain ⟨l, S6, rfl, rfl, hl, rfl, HS6, HL9r, FX9, HM9r⟩ := hrel
                            obtain ⟨wr9, rfl⟩ : ∃ z : World, z = wr := ⟨_, rfl⟩
                            obtain ⟨px0, px1, px2, px3, px4, px5, px6, px7, px8⟩ := FX9.out.cs9
                            have hS6 : S6.size ≤ 2500000 := by
                              have h1 := resT_len (rsX.take l) (all_take HROK.out l)
                              have h2 := take_le rsX l
                              rw [strp_size HS6.out, List.length_append]
                              rw [HLNR.out] at h2
                              omega
                            by_cases hlt3 : l < lX
                            · obtain ⟨bb3, o3, r, hA3, ht3, hin3, h73⟩ := InQ.len (InQ.list HXR.out (Lw.under O0.out HL9r.out)) l hlt3
                              subst hA3
                              have HER := Lib.hid h73
                              have HIR := Lib.hid hin3
                              have hokr := EqN.ok_iff.1 (ok_of_all HROK.out ht3)
                              have HVR := Lib.hid hokr.2
                              have hsr : r.s.size ≤ 20 := name_len hokr.1
                              have zR := (txt20 hokr.2).2
                              have HTKR := Lib.hid (take_snocA rsX l r ht3)
                              obtain ⟨TR, hTR⟩ : ∃ t, txt 20 r.T = t := ⟨_, rfl⟩
                              have KR := Lib.hid (fun (w1 : World) (h1 : InE w1 r.T r.v) => show Calls Tryz.prog 27 #[r.v.val] w1 (StrP TR w1) from by rw [← hTR]; exact text20 r.T r.v w1 h1 HVR.out)
                              rw [hTR] at zR
                              have d7 : decide ((l : Int) < (lX : Int)) = true := decide_eq_true (by omega)
                              clear ht3 hin3 h73 hokr
                              by_cases hl0 : l = 0
                              · skip
                                have d6 : ((l : Int) == 0) = true := by rw [hl0]; rfl
                                have HN := Lib.hid (show rsX.take l = [] by rw [hl0]; rfl)
                                have HJ := Lib.hid (show resT (rsX.take (l + 1)) = [32, 119, 105, 116, 104, 32] ++ (r.s.data.toList ++ ([32, 61, 32] ++ TR)) by rw [HTKR.out, HN.out]; simp [resT, EqN.rt, hTR])
                                clear hl0
                                clear hTR
                                have r1 : ¬ 9223372036854775807 < S6.size + 6 := by omega
                                have r2 : ¬ 9223372036854775807 < S6.size + 6 + r.s.size := by omega
                                have r3 : ¬ 9223372036854775807 < S6.size + 6 + r.s.size + 3 := by omega
                                go_wp2_with fail
                                clear d7 px0 px1 px2 px3 px4 px5 px6 px7 px8
                                have HR401 := Lib.hid (below_dr wr9)
                                have R401b := Lib.hid (FX9.out.belowW HR401.out)
                                have R401e := Lib.hid (HER.out.belowW HR401.out)
                                have R401x := Lib.hid (HIR.out.belowW HR401.out)
                                have R401o := Lib.hid (HL9r.out.belowW HR401.out)
                                have R401m := Lib.hid (HM9r.out.belowW HR401.out)
                                refine wp_region_held_drew (S := fun w' => w'.cell? ⟨gX, 0, none⟩ = some (.int .i64 vX.h.kind) ∧ w'.cell? ⟨gX, 1, none⟩ = some (.int .i64 vX.h.n) ∧ w'.cell? ⟨gX, 2, none⟩ = some (.int .i64 vX.h.d) ∧ w'.cell? ⟨gX, 3, none⟩ = some (.string vX.h.name) ∧ w'.cell? ⟨gX, 4, none⟩ = some (.int .i64 vX.h.k) ∧ w'.cell? ⟨gX, 5, none⟩ = some (.slice vX.A vX.len vX.cap) ∧ w'.cell? ⟨gX, 6, none⟩ = some (.int .i64 dirX) ∧ w'.cell? ⟨gX, 7, none⟩ = some (.string toX) ∧ w'.cell? ⟨gX, 8, none⟩ = some (.slice (some ⟨bb3, o3, none⟩) lX cX) ∧ w'.cell? ⟨bb3, o3 + l * 7, none⟩ = some (.string r.s) ∧ w'.cell? ⟨bb3, o3 + l * 7 + 1, none⟩ = some (.int .i64 r.v.h.kind) ∧ w'.cell? ⟨bb3, o3 + l * 7 + 2, none⟩ = some (.int .i64 r.v.h.n) ∧ w'.cell? ⟨bb3, o3 + l * 7 + 3, none⟩ = some (.int .i64 r.v.h.d) ∧ w'.cell? ⟨bb3, o3 + l * 7 + 4, none⟩ = some (.string r.v.h.name) ∧ w'.cell? ⟨bb3, o3 + l * 7 + 5, none⟩ = some (.int .i64 r.v.h.k) ∧ w'.cell? ⟨bb3, o3 + l * 7 + 6, none⟩ = some (.slice r.v.A r.v.len r.v.cap)) (by kernel_rfl) ?_ (fun hHeld => ?_)
                                case refine_1 => exact ⟨R401b.out.cell 0, R401b.out.cell 1, R401b.out.cell 2, R401b.out.cell 3, R401b.out.cell 4, R401b.out.cell 5, R401b.out.cell 6, R401b.out.cell 7, R401b.out.cell 8, R401e.out.c 0 _ rfl, R401e.out.c 1 _ rfl, R401e.out.c 2 _ rfl, R401e.out.c 3 _ rfl, R401e.out.c 4 _ rfl, R401e.out.c 5 _ rfl, R401e.out.c 6 _ rfl⟩
                                refine tkW 0 ?_
                                refine tkW 1 ?_
                                refine tkW 2 ?_
                                refine tkW 3 ?_
                                refine tkW 4 ?_
                                refine tkW 5 ?_
                                refine tkW 6 ?_
                                refine tkW 7 ?_
                                refine tkW 8 ?_
                                refine tkW 9 ?_
                                refine tkW 10 ?_
                                refine tkW 11 ?_
                                refine tkW 12 ?_
                                refine tkW 13 ?_
                                refine tkW 14 ?_
                                refine wpAnyH_ready (rs := [15]) (by kernel_rfl) (by simp) ?_
                                refine AllReadyH.cons rfl (fun K hK => ?_) AllReadyH.nil
                                go_simp
                                (with_reducible refine (KR.out _ R401x.out.e).mono ?_)
                                rintro e w402 ⟨X, rfl, HX, HC402⟩
                                have R402b := Lib.hid (R401b.out.belowW HC402.out)
                                have R402e := Lib.hid (R401e.out.belowW HC402.out)
                                have R402x := Lib.hid (R401x.out.belowW HC402.out)
                                have R402o := Lib.hid (R401o.out.belowW HC402.out)
                                have R402m := Lib.hid (R401m.out.belowW HC402.out)
                                have hX : X.size ≤ 10000 := by rw [strp_size HX.out]; exact zR
                                have r4 : ¬ 9223372036854775807 < S6.size + 6 + r.s.size + 3 + X.size := by omega
                                go_wp2_with fail
                                clear hHeld
                                refine hK.out _ _ ?_ (fun hHeld => ?_)
                                case refine_1 => exact ⟨R402b.out.cell 0, R402b.out.cell 1, R402b.out.cell 2, R402b.out.cell 3, R402b.out.cell 4, R402b.out.cell 5, R402b.out.cell 6, R402b.out.cell 7, R402b.out.cell 8, R402e.out.c 0 _ rfl, R402e.out.c 1 _ rfl, R402e.out.c 2 _ rfl, R402e.out.c 3 _ rfl, R402e.out.c 4 _ rfl, R402e.out.c 5 _ rfl, R402e.out.c 6 _ rfl⟩
                                clear hK K
                                try simp only [setIfInBounds_toArray, set_cons_zero, set_cons_succ]
                                refine tkW 16 ?_
                                refine tkW 17 ?_
                                refine wpAnyH_done (by kernel_rfl) ?_ _
                                go_wp2_with fail
                                go_roundg (lX - (l + 1))
                                case measure => omega
                                case rel =>
                                  refine ⟨l + 1, _, rfl, by go_num, by omega, rfl, ?_, R402o, R402b, R402m⟩
                                  unfold Hid
                                  rw [HJ.out]
                                  simp only [data_app, HS6.out, HX.out, List.append_assoc, HN.out, resT, List.nil_append]
                              · skip
                                have d6 : ((l : Int) == 0) = false := by simpa using hl0
                                have HJ := Lib.hid (show resT (rsX.take (l + 1)) = resT (rsX.take l) ++ ([44, 32] ++ (r.s.data.toList ++ ([32, 61, 32] ++ TR))) by
                                  rw [HTKR.out, resT_snoc _ _ (by
                                    intro h
                                    have := congrArg List.length h
                                    rw [List.length_take, HLNR.out, List.length_nil] at this
                                    omega)]
                                  simp [EqN.rt, hTR])
                                clear hTR
                                have r1 : ¬ 9223372036854775807 < S6.size + 2 := by omega
                                have r2 : ¬ 9223372036854775807 < S6.size + 2 + r.s.size := by omega
                                have r3 : ¬ 9223372036854775807 < S6.size + 2 + r.s.size + 3 := by omega
                                go_wp2_with fail
                                clear d7 px0 px1 px2 px3 px4 px5 px6 px7 px8
                                have HR451 := Lib.hid (below_dr wr9)
                                have R451b := Lib.hid (FX9.out.belowW HR451.out)
                                have R451e := Lib.hid (HER.out.belowW HR451.out)
                                have R451x := Lib.hid (HIR.out.belowW HR451.out)
                                have R451o := Lib.hid (HL9r.out.belowW HR451.out)
                                have R451m := Lib.hid (HM9r.out.belowW HR451.out)
                                refine wp_region_held_drew (S := fun w' => w'.cell? ⟨gX, 0, none⟩ = some (.int .i64 vX.h.kind) ∧ w'.cell? ⟨gX, 1, none⟩ = some (.int .i64 vX.h.n) ∧ w'.cell? ⟨gX, 2, none⟩ = some (.int .i64 vX.h.d) ∧ w'.cell? ⟨gX, 3, none⟩ = some (.string vX.h.name) ∧ w'.cell? ⟨gX, 4, none⟩ = some (.int .i64 vX.h.k) ∧ w'.cell? ⟨gX, 5, none⟩ = some (.slice vX.A vX.len vX.cap) ∧ w'.cell? ⟨gX, 6, none⟩ = some (.int .i64 dirX) ∧ w'.cell? ⟨gX, 7, none⟩ = some (.string toX) ∧ w'.cell? ⟨gX, 8, none⟩ = some (.slice (some ⟨bb3, o3, none⟩) lX cX) ∧ w'.cell? ⟨bb3, o3 + l * 7, none⟩ = some (.string r.s) ∧ w'.cell? ⟨bb3, o3 + l * 7 + 1, none⟩ = some (.int .i64 r.v.h.kind) ∧ w'.cell? ⟨bb3, o3 + l * 7 + 2, none⟩ = some (.int .i64 r.v.h.n) ∧ w'.cell? ⟨bb3, o3 + l * 7 + 3, none⟩ = some (.int .i64 r.v.h.d) ∧ w'.cell? ⟨bb3, o3 + l * 7 + 4, none⟩ = some (.string r.v.h.name) ∧ w'.cell? ⟨bb3, o3 + l * 7 + 5, none⟩ = some (.int .i64 r.v.h.k) ∧ w'.cell? ⟨bb3, o3 + l * 7 + 6, none⟩ = some (.slice r.v.A r.v.len r.v.cap)) (by kernel_rfl) ?_ (fun hHeld => ?_)
                                case refine_1 => exact ⟨R451b.out.cell 0, R451b.out.cell 1, R451b.out.cell 2, R451b.out.cell 3, R451b.out.cell 4, R451b.out.cell 5, R451b.out.cell 6, R451b.out.cell 7, R451b.out.cell 8, R451e.out.c 0 _ rfl, R451e.out.c 1 _ rfl, R451e.out.c 2 _ rfl, R451e.out.c 3 _ rfl, R451e.out.c 4 _ rfl, R451e.out.c 5 _ rfl, R451e.out.c 6 _ rfl⟩
                                refine tkW 0 ?_
                                refine tkW 1 ?_
                                refine tkW 2 ?_
                                refine tkW 3 ?_
                                refine tkW 4 ?_
                                refine tkW 5 ?_
                                refine tkW 6 ?_
                                refine tkW 7 ?_
                                refine tkW 8 ?_
                                refine tkW 9 ?_
                                refine tkW 10 ?_
                                refine tkW 11 ?_
                                refine tkW 12 ?_
                                refine tkW 13 ?_
                                refine tkW 14 ?_
                                refine wpAnyH_ready (rs := [15]) (by kernel_rfl) (by simp) ?_
                                refine AllReadyH.cons rfl (fun K hK => ?_) AllReadyH.nil
                                go_simp
                                (with_reducible refine (KR.out _ R451x.out.e).mono ?_)
                                rintro e w452 ⟨X, rfl, HX, HC452⟩
                                have R452b := Lib.hid (R451b.out.belowW HC452.out)
                                have R452e := Lib.hid (R451e.out.belowW HC452.out)
                                have R452x := Lib.hid (R451x.out.belowW HC452.out)
                                have R452o := Lib.hid (R451o.out.belowW HC452.out)
                                have R452m := Lib.hid (R451m.out.belowW HC452.out)
                                have hX : X.size ≤ 10000 := by rw [strp_size HX.out]; exact zR
                                have r4 : ¬ 9223372036854775807 < S6.size + 2 + r.s.size + 3 + X.size := by omega
                                go_wp2_with fail
                                clear hHeld
                                refine hK.out _ _ ?_ (fun hHeld => ?_)
                                case refine_1 => exact ⟨R452b.out.cell 0, R452b.out.cell 1, R452b.out.cell 2, R452b.out.cell 3, R452b.out.cell 4, R452b.out.cell 5, R452b.out.cell 6, R452b.out.cell 7, R452b.out.cell 8, R452e.out.c 0 _ rfl, R452e.out.c 1 _ rfl, R452e.out.c 2 _ rfl, R452e.out.c 3 _ rfl, R452e.out.c 4 _ rfl, R452e.out.c 5 _ rfl, R452e.out.c 6 _ rfl⟩
                                clear hK K
                                try simp only [setIfInBounds_toArray, set_cons_zero, set_cons_succ]
                                refine tkW 16 ?_
                                refine tkW 17 ?_
                                refine wpAnyH_done (by kernel_rfl) ?_ _
                                go_wp2_with fail
                                go_roundg (lX - (l + 1))
                                case measure => omega
                                case rel =>
                                  refine ⟨l + 1, _, rfl, by go_num, by omega, rfl, ?_, R452o, R452b, R452m⟩
                                  unfold Hid
                                  rw [HJ.out]
                                  simp only [data_app, HS6.out, HX.out, List.append_assoc]
                            · have hle : l = lX := by omega
                              have HSR := Lib.hid (show S6.data.toList = cur5 ++ resT rsX by have := HS6.out; rwa [hle, ← HLNR.out, List.take_length] at this)
                              have d7 : decide ((l : Int) < (lX : Int)) = false := decide_eq_false (by omega)
                              have r1 : ¬ 9223372036854775807 < S6.size + 2 := by omega
                              go_wp2_with fail
                              go_roundg (mM - (i + 1))
                              case measure => omega
                              case rel =>
                                refine ⟨i + 1, _, rfl, by go_num, by omega, rfl, ?_, HL9r, HM9r⟩
                                unfold Hid
                                rw [HFS.out, data_app, HSR.out, HC5.out]
                                simp only [EdN.txt, EdN.wd, HDD.out, if_false, List.append_assoc]
                                try rfl
                        | true =>
                          have HDD := Lib.hid (show (dirX = 2) = True by simpa using hdd)
                          go_wp2_with fail
                          obtain ⟨we, hw9⟩ : ∃ z9 : World, z9 = wy.alloc (Obj.cells #[.int .i64 vX.h.kind, .int .i64 vX.h.n, .int .i64 vX.h.d, .string vX.h.name, .int .i64 vX.h.k, .slice vX.A vX.len vX.cap, .int .i64 dirX, .string toX, .slice AX lX cX] 64) := ⟨_, rfl⟩
                          have HBe := Lib.hid (show Below wy.heap.size wy we by rw [hw9]; exact below_box _ _)
                          have FXe := Lib.hid (show Blk we wy.heap.size 64 #[.int .i64 vX.h.kind, .int .i64 vX.h.n, .int .i64 vX.h.d, .string vX.h.name, .int .i64 vX.h.k, .slice vX.A vX.len vX.cap, .int .i64 dirX, .string toX, .slice AX lX cX] by rw [hw9]; exact Blk.new _ _ _)
                          rw [← hw9]
                          clear hw9
                          clear y0 y1 y2 y3 y4 y5 y6 y7 y8 dd1 hdd pm0 pm1 pm2
                          obtain ⟨gX, hgX⟩ : ∃ g, g = wy.heap.size := ⟨_, rfl⟩
                          rw [← hgX] at FXe ⊢
                          clear hgX
                          have HLe := Lib.hid (HLI.out.belowW HBe.out)
                          have HMe := Lib.hid (HMI.out.belowW HBe.out)
                          have HIXe := Lib.hid (HIX.out.go HBe.out)
                          clear HBe
                          have HR301 := Lib.hid (below_dr we)
                          have R301b := Lib.hid (FXe.out.belowW HR301.out)
                          have R301x := Lib.hid (HIXe.out.belowW HR301.out)
                          have R301o := Lib.hid (HLe.out.belowW HR301.out)
                          have R301m := Lib.hid (HMe.out.belowW HR301.out)
                          refine wp_region_held_drew (S := fun w' => w'.cell? ⟨gX, 0, none⟩ = some (.int .i64 vX.h.kind) ∧ w'.cell? ⟨gX, 1, none⟩ = some (.int .i64 vX.h.n) ∧ w'.cell? ⟨gX, 2, none⟩ = some (.int .i64 vX.h.d) ∧ w'.cell? ⟨gX, 3, none⟩ = some (.string vX.h.name) ∧ w'.cell? ⟨gX, 4, none⟩ = some (.int .i64 vX.h.k) ∧ w'.cell? ⟨gX, 5, none⟩ = some (.slice vX.A vX.len vX.cap) ∧ w'.cell? ⟨gX, 6, none⟩ = some (.int .i64 dirX) ∧ w'.cell? ⟨gX, 7, none⟩ = some (.string toX) ∧ w'.cell? ⟨gX, 8, none⟩ = some (.slice AX lX cX)) (by kernel_rfl) ?_ (fun hHeld => ?_)
                          case refine_1 => exact ⟨R301b.out.cell 0, R301b.out.cell 1, R301b.out.cell 2, R301b.out.cell 3, R301b.out.cell 4, R301b.out.cell 5, R301b.out.cell 6, R301b.out.cell 7, R301b.out.cell 8⟩
                          refine tkW 0 ?_
                          refine tkW 1 ?_
                          refine tkW 2 ?_
                          refine tkW 3 ?_
                          refine tkW 7 ?_
                          refine tkW 10 ?_
                          refine tkW 11 ?_
                          refine wpAnyH_ready (rs := [4]) (by kernel_rfl) (by simp) ?_
                          refine AllReadyH.cons rfl (fun K hK => ?_) AllReadyH.nil
                          go_simp
                          (with_reducible refine (KT.out _ R301x.out).mono ?_)
                          rintro e w302 ⟨X, rfl, HX, HC302⟩
                          have R302b := Lib.hid (R301b.out.belowW HC302.out)
                          have R302x := Lib.hid (R301x.out.belowW HC302.out)
                          have R302o := Lib.hid (R301o.out.belowW HC302.out)
                          have R302m := Lib.hid (R301m.out.belowW HC302.out)
                          have hX : X.size ≤ 10000 := by rw [strp_size HX.out]; exact zX
                          have q2 : ¬ 9223372036854775807 < S4.size + 6 + X.size := by omega
                          have q3 : ¬ 9223372036854775807 < S4.size + 6 + X.size + 1 := by omega
                          have q4 : ¬ 9223372036854775807 < S4.size + 6 + X.size + 1 + 5 := by omega
                          have q5 : ¬ 9223372036854775807 < S4.size + 6 + X.size + 1 + 5 + 6 := by omega
                          have q6 : ¬ 9223372036854775807 < S4.size + 6 + X.size + 1 + 5 + 6 + toX.size := by omega
                          go_wp2_with fail
                          clear hHeld
                          refine hK.out _ _ ?_ (fun hHeld => ?_)
                          case refine_1 => exact ⟨R302b.out.cell 0, R302b.out.cell 1, R302b.out.cell 2, R302b.out.cell 3, R302b.out.cell 4, R302b.out.cell 5, R302b.out.cell 6, R302b.out.cell 7, R302b.out.cell 8⟩
                          clear hK K
                          try simp only [setIfInBounds_toArray, set_cons_zero, set_cons_succ]
                          refine tkW 5 ?_
                          refine tkW 6 ?_
                          refine tkW 8 ?_
                          refine tkW 9 ?_
                          refine tkW 12 ?_
                          refine tkW 13 ?_
                          refine wpAnyH_done (by kernel_rfl) ?_ _
                          go_wp2_with fail
                          obtain ⟨S5, hS5⟩ : ∃ s : ByteArray, s = S4 ++ ⟨#[9, 119, 104, 101, 110, 32]⟩ ++ X ++ ⟨#[32]⟩ ++ ⟨#[102, 97, 108, 108, 115]⟩ ++ ⟨#[32, 103, 111, 116, 111, 32]⟩ ++ toX := ⟨_, rfl⟩
                          rw [← hS5]
                          obtain ⟨cur5, hc5⟩ : ∃ c, c = cur4 ++ ([9, 119, 104, 101, 110, 32] ++ (TX ++ ([32] ++ ([102, 97, 108, 108, 115] ++ ([32, 103, 111, 116, 111, 32] ++ toX.data.toList))))) := ⟨_, rfl⟩
                          have HS5 := Lib.hid (show S5.data.toList = cur5 by rw [hS5, hc5]; simp only [data_app, HX.out, HS4.out, List.append_assoc])
                          have HC5 := Lib.hid (show cur5 = pre5 ++ ((edM.take i).flatMap EdN.txt ++ ([9, 119, 104, 101, 110, 32] ++ (txt 20 TT ++ ([32] ++ ([102, 97, 108, 108, 115] ++ ([32, 103, 111, 116, 111, 32] ++ toX.data.toList)))))) by rw [hc5, HCE.out, HTX.out, List.append_assoc])
                          have hcur5 : cur5.length ≤ 2300000 := by
                            rw [hc5]
                            have := zX
                            simp only [List.length_append, List.length_cons, List.length_nil, length_data]
                            omega
                          have HL5 := R302o
                          have HX5 := R302b
                          have HM5 := R302m
                          clear hS5 hc5 q1 q2 q3 q4 q5 q6 hX HX
                          go_loopg [4, 13] lX (fun k sv iv wr' => ∃ (i : Nat) (S : ByteArray), sv = .string S ∧ iv = .int .i64 i ∧ i ≤ lX ∧ k = lX - i ∧ Hid (S.data.toList = cur5 ++ resT (rsX.take i)) ∧ Hid (Lw w2 wr') ∧ Hid (Blk wr' gX 64 #[.int .i64 vX.h.kind, .int .i64 vX.h.n, .int .i64 vX.h.d, .string vX.h.name, .int .i64 vX.h.k, .slice vX.A vX.len vX.cap, .int .i64 dirX, .string toX, .slice AX lX cX]) ∧ Hid (Blk wr' gM 61 #[.string sM, .slice AM nM cM, .slice (some ⟨bb2, o2, none⟩) mM dM]))
                          case atStart => exact ⟨0, _, rfl, rfl, by omega, by omega, by unfold Hid; simpa [resT] using HS5.out, HL5.out, HX5.out, HM5.out⟩
                          case round =>
                            obtain ⟨l, S6, rfl, rfl, hl, rfl, HS6, HL9r, FX9, HM9r⟩ := hrel
                            obtain ⟨wr9, rfl⟩ : ∃ z : World, z = wr := ⟨_, rfl⟩
                            obtain ⟨px0, px1, px2, px3, px4, px5, px6, px7, px8⟩ := FX9.out.cs9
                            have hS6 : S6.size ≤ 2500000 := by
                              have h1 := resT_len (rsX.take l) (all_take HROK.out l)
                              have h2 := take_le rsX l
                              rw [strp_size HS6.out, List.length_append]
                              rw [HLNR.out] at h2
                              omega
                            by_cases hlt3 : l < lX
                            · obtain ⟨bb3, o3, r, hA3, ht3, hin3, h73⟩ := InQ.len (InQ.list HXR.out (Lw.under O0.out HL9r.out)) l hlt3
                              subst hA3
                              have HER := Lib.hid h73
                              have HIR := Lib.hid hin3
                              have hokr := EqN.ok_iff.1 (ok_of_all HROK.out ht3)
                              have HVR := Lib.hid hokr.2
                              have hsr : r.s.size ≤ 20 := name_len hokr.1
                              have zR := (txt20 hokr.2).2
                              have HTKR := Lib.hid (take_snocA rsX l r ht3)
                              obtain ⟨TR, hTR⟩ : ∃ t, txt 20 r.T = t := ⟨_, rfl⟩
                              have KR := Lib.hid (fun (w1 : World) (h1 : InE w1 r.T r.v) => show Calls Tryz.prog 27 #[r.v.val] w1 (StrP TR w1) from by rw [← hTR]; exact text20 r.T r.v w1 h1 HVR.out)
                              rw [hTR] at zR
                              have d7 : decide ((l : Int) < (lX : Int)) = true := decide_eq_true (by omega)
                              clear ht3 hin3 h73 hokr
                              by_cases hl0 : l = 0
                              · skip
                                have d6 : ((l : Int) == 0) = true := by rw [hl0]; rfl
                                have HN := Lib.hid (show rsX.take l = [] by rw [hl0]; rfl)
                                have HJ := Lib.hid (show resT (rsX.take (l + 1)) = [32, 119, 105, 116, 104, 32] ++ (r.s.data.toList ++ ([32, 61, 32] ++ TR)) by rw [HTKR.out, HN.out]; simp [resT, EqN.rt, hTR])
                                clear hl0
                                clear hTR
                                have r1 : ¬ 9223372036854775807 < S6.size + 6 := by omega
                                have r2 : ¬ 9223372036854775807 < S6.size + 6 + r.s.size := by omega
                                have r3 : ¬ 9223372036854775807 < S6.size + 6 + r.s.size + 3 := by omega
                                go_wp2_with fail
                                clear d7 px0 px1 px2 px3 px4 px5 px6 px7 px8
                                have HR401 := Lib.hid (below_dr wr9)
                                have R401b := Lib.hid (FX9.out.belowW HR401.out)
                                have R401e := Lib.hid (HER.out.belowW HR401.out)
                                have R401x := Lib.hid (HIR.out.belowW HR401.out)
                                have R401o := Lib.hid (HL9r.out.belowW HR401.out)
                                have R401m := Lib.hid (HM9r.out.belowW HR401.out)
                                refine wp_region_held_drew (S := fun w' => w'.cell? ⟨gX, 0, none⟩ = some (.int .i64 vX.h.kind) ∧ w'.cell? ⟨gX, 1, none⟩ = some (.int .i64 vX.h.n) ∧ w'.cell? ⟨gX, 2, none⟩ = some (.int .i64 vX.h.d) ∧ w'.cell? ⟨gX, 3, none⟩ = some (.string vX.h.name) ∧ w'.cell? ⟨gX, 4, none⟩ = some (.int .i64 vX.h.k) ∧ w'.cell? ⟨gX, 5, none⟩ = some (.slice vX.A vX.len vX.cap) ∧ w'.cell? ⟨gX, 6, none⟩ = some (.int .i64 dirX) ∧ w'.cell? ⟨gX, 7, none⟩ = some (.string toX) ∧ w'.cell? ⟨gX, 8, none⟩ = some (.slice (some ⟨bb3, o3, none⟩) lX cX) ∧ w'.cell? ⟨bb3, o3 + l * 7, none⟩ = some (.string r.s) ∧ w'.cell? ⟨bb3, o3 + l * 7 + 1, none⟩ = some (.int .i64 r.v.h.kind) ∧ w'.cell? ⟨bb3, o3 + l * 7 + 2, none⟩ = some (.int .i64 r.v.h.n) ∧ w'.cell? ⟨bb3, o3 + l * 7 + 3, none⟩ = some (.int .i64 r.v.h.d) ∧ w'.cell? ⟨bb3, o3 + l * 7 + 4, none⟩ = some (.string r.v.h.name) ∧ w'.cell? ⟨bb3, o3 + l * 7 + 5, none⟩ = some (.int .i64 r.v.h.k) ∧ w'.cell? ⟨bb3, o3 + l * 7 + 6, none⟩ = some (.slice r.v.A r.v.len r.v.cap)) (by kernel_rfl) ?_ (fun hHeld => ?_)
                                case refine_1 => exact ⟨R401b.out.cell 0, R401b.out.cell 1, R401b.out.cell 2, R401b.out.cell 3, R401b.out.cell 4, R401b.out.cell 5, R401b.out.cell 6, R401b.out.cell 7, R401b.out.cell 8, R401e.out.c 0 _ rfl, R401e.out.c 1 _ rfl, R401e.out.c 2 _ rfl, R401e.out.c 3 _ rfl, R401e.out.c 4 _ rfl, R401e.out.c 5 _ rfl, R401e.out.c 6 _ rfl⟩
                                refine tkW 0 ?_
                                refine tkW 1 ?_
                                refine tkW 2 ?_
                                refine tkW 3 ?_
                                refine tkW 4 ?_
                                refine tkW 5 ?_
                                refine tkW 6 ?_
                                refine tkW 7 ?_
                                refine tkW 8 ?_
                                refine tkW 9 ?_
                                refine tkW 10 ?_
                                refine tkW 11 ?_
                                refine tkW 12 ?_
                                refine tkW 13 ?_
                                refine tkW 14 ?_
                                refine wpAnyH_ready (rs := [15]) (by kernel_rfl) (by simp) ?_
                                refine AllReadyH.cons rfl (fun K hK => ?_) AllReadyH.nil
                                go_simp
                                (with_reducible refine (KR.out _ R401x.out.e).mono ?_)
                                rintro e w402 ⟨X, rfl, HX, HC402⟩
                                have R402b := Lib.hid (R401b.out.belowW HC402.out)
                                have R402e := Lib.hid (R401e.out.belowW HC402.out)
                                have R402x := Lib.hid (R401x.out.belowW HC402.out)
                                have R402o := Lib.hid (R401o.out.belowW HC402.out)
                                have R402m := Lib.hid (R401m.out.belowW HC402.out)
                                have hX : X.size ≤ 10000 := by rw [strp_size HX.out]; exact zR
                                have r4 : ¬ 9223372036854775807 < S6.size + 6 + r.s.size + 3 + X.size := by omega
                                go_wp2_with fail
                                clear hHeld
                                refine hK.out _ _ ?_ (fun hHeld => ?_)
                                case refine_1 => exact ⟨R402b.out.cell 0, R402b.out.cell 1, R402b.out.cell 2, R402b.out.cell 3, R402b.out.cell 4, R402b.out.cell 5, R402b.out.cell 6, R402b.out.cell 7, R402b.out.cell 8, R402e.out.c 0 _ rfl, R402e.out.c 1 _ rfl, R402e.out.c 2 _ rfl, R402e.out.c 3 _ rfl, R402e.out.c 4 _ rfl, R402e.out.c 5 _ rfl, R402e.out.c 6 _ rfl⟩
                                clear hK K
                                try simp only [setIfInBounds_toArray, set_cons_zero, set_cons_succ]
                                refine tkW 16 ?_
                                refine tkW 17 ?_
                                refine wpAnyH_done (by kernel_rfl) ?_ _
                                go_wp2_with fail
                                go_roundg (lX - (l + 1))
                                case measure => omega
                                case rel =>
                                  refine ⟨l + 1, _, rfl, by go_num, by omega, rfl, ?_, R402o, R402b, R402m⟩
                                  unfold Hid
                                  rw [HJ.out]
                                  simp only [data_app, HS6.out, HX.out, List.append_assoc, HN.out, resT, List.nil_append]
                              · skip
                                have d6 : ((l : Int) == 0) = false := by simpa using hl0
                                have HJ := Lib.hid (show resT (rsX.take (l + 1)) = resT (rsX.take l) ++ ([44, 32] ++ (r.s.data.toList ++ ([32, 61, 32] ++ TR))) by
                                  rw [HTKR.out, resT_snoc _ _ (by
                                    intro h
                                    have := congrArg List.length h
                                    rw [List.length_take, HLNR.out, List.length_nil] at this
                                    omega)]
                                  simp [EqN.rt, hTR])
                                clear hTR
                                have r1 : ¬ 9223372036854775807 < S6.size + 2 := by omega
                                have r2 : ¬ 9223372036854775807 < S6.size + 2 + r.s.size := by omega
                                have r3 : ¬ 9223372036854775807 < S6.size + 2 + r.s.size + 3 := by omega
                                go_wp2_with fail
                                clear d7 px0 px1 px2 px3 px4 px5 px6 px7 px8
                                have HR451 := Lib.hid (below_dr wr9)
                                have R451b := Lib.hid (FX9.out.belowW HR451.out)
                                have R451e := Lib.hid (HER.out.belowW HR451.out)
                                have R451x := Lib.hid (HIR.out.belowW HR451.out)
                                have R451o := Lib.hid (HL9r.out.belowW HR451.out)
                                have R451m := Lib.hid (HM9r.out.belowW HR451.out)
                                refine wp_region_held_drew (S := fun w' => w'.cell? ⟨gX, 0, none⟩ = some (.int .i64 vX.h.kind) ∧ w'.cell? ⟨gX, 1, none⟩ = some (.int .i64 vX.h.n) ∧ w'.cell? ⟨gX, 2, none⟩ = some (.int .i64 vX.h.d) ∧ w'.cell? ⟨gX, 3, none⟩ = some (.string vX.h.name) ∧ w'.cell? ⟨gX, 4, none⟩ = some (.int .i64 vX.h.k) ∧ w'.cell? ⟨gX, 5, none⟩ = some (.slice vX.A vX.len vX.cap) ∧ w'.cell? ⟨gX, 6, none⟩ = some (.int .i64 dirX) ∧ w'.cell? ⟨gX, 7, none⟩ = some (.string toX) ∧ w'.cell? ⟨gX, 8, none⟩ = some (.slice (some ⟨bb3, o3, none⟩) lX cX) ∧ w'.cell? ⟨bb3, o3 + l * 7, none⟩ = some (.string r.s) ∧ w'.cell? ⟨bb3, o3 + l * 7 + 1, none⟩ = some (.int .i64 r.v.h.kind) ∧ w'.cell? ⟨bb3, o3 + l * 7 + 2, none⟩ = some (.int .i64 r.v.h.n) ∧ w'.cell? ⟨bb3, o3 + l * 7 + 3, none⟩ = some (.int .i64 r.v.h.d) ∧ w'.cell? ⟨bb3, o3 + l * 7 + 4, none⟩ = some (.string r.v.h.name) ∧ w'.cell? ⟨bb3, o3 + l * 7 + 5, none⟩ = some (.int .i64 r.v.h.k) ∧ w'.cell? ⟨bb3, o3 + l * 7 + 6, none⟩ = some (.slice r.v.A r.v.len r.v.cap)) (by kernel_rfl) ?_ (fun hHeld => ?_)
                                case refine_1 => exact ⟨R451b.out.cell 0, R451b.out.cell 1, R451b.out.cell 2, R451b.out.cell 3, R451b.out.cell 4, R451b.out.cell 5, R451b.out.cell 6, R451b.out.cell 7, R451b.out.cell 8, R451e.out.c 0 _ rfl, R451e.out.c 1 _ rfl, R451e.out.c 2 _ rfl, R451e.out.c 3 _ rfl, R451e.out.c 4 _ rfl, R451e.out.c 5 _ rfl, R451e.out.c 6 _ rfl⟩
                                refine tkW 0 ?_
                                refine tkW 1 ?_
                                refine tkW 2 ?_
                                refine tkW 3 ?_
                                refine tkW 4 ?_
                                refine tkW 5 ?_
                                refine tkW 6 ?_
                                refine tkW 7 ?_
                                refine tkW 8 ?_
                                refine tkW 9 ?_
                                refine tkW 10 ?_
                                refine tkW 11 ?_
                                refine tkW 12 ?_
                                refine tkW 13 ?_
                                refine tkW 14 ?_
                                refine wpAnyH_ready (rs := [15]) (by kernel_rfl) (by simp) ?_
                                refine AllReadyH.cons rfl (fun K hK => ?_) AllReadyH.nil
                                go_simp
                                (with_reducible refine (KR.out _ R451x.out.e).mono ?_)
                                rintro e w452 ⟨X, rfl, HX, HC452⟩
                                have R452b := Lib.hid (R451b.out.belowW HC452.out)
                                have R452e := Lib.hid (R451e.out.belowW HC452.out)
                                have R452x := Lib.hid (R451x.out.belowW HC452.out)
                                have R452o := Lib.hid (R451o.out.belowW HC452.out)
                                have R452m := Lib.hid (R451m.out.belowW HC452.out)
                                have hX : X.size ≤ 10000 := by rw [strp_size HX.out]; exact zR
                                have r4 : ¬ 9223372036854775807 < S6.size + 2 + r.s.size + 3 + X.size := by omega
                                go_wp2_with fail
                                clear hHeld
                                refine hK.out _ _ ?_ (fun hHeld => ?_)
                                case refine_1 => exact ⟨R452b.out.cell 0, R452b.out.cell 1, R452b.out.cell 2, R452b.out.cell 3, R452b.out.cell 4, R452b.out.cell 5, R452b.out.cell 6, R452b.out.cell 7, R452b.out.cell 8, R452e.out.c 0 _ rfl, R452e.out.c 1 _ rfl, R452e.out.c 2 _ rfl, R452e.out.c 3 _ rfl, R452e.out.c 4 _ rfl, R452e.out.c 5 _ rfl, R452e.out.c 6 _ rfl⟩
                                clear hK K
                                try simp only [setIfInBounds_toArray, set_cons_zero, set_cons_succ]
                                refine tkW 16 ?_
                                refine tkW 17 ?_
                                refine wpAnyH_done (by kernel_rfl) ?_ _
                                go_wp2_with fail
                                go_roundg (lX - (l + 1))
                                case measure => omega
                                case rel =>
                                  refine ⟨l + 1, _, rfl, by go_num, by omega, rfl, ?_, R452o, R452b, R452m⟩
                                  unfold Hid
                                  rw [HJ.out]
                                  simp only [data_app, HS6.out, HX.out, List.append_assoc]
                            · have hle : l = lX := by omega
                              have HSR := Lib.hid (show S6.data.toList = cur5 ++ resT rsX by have := HS6.out; rwa [hle, ← HLNR.out, List.take_length] at this)
                              have d7 : decide ((l : Int) < (lX : Int)) = false := decide_eq_false (by omega)
                              have r1 : ¬ 9223372036854775807 < S6.size + 2 := by omega
                              go_wp2_with fail
                              go_roundg (mM - (i + 1))
                              case measure => omega
                              case rel =>
                                refine ⟨i + 1, _, rfl, by go_num, by omega, rfl, ?_, HL9r, HM9r⟩
                                unfold Hid
                                rw [HFS.out, data_app, HSR.out, HC5.out]
                                simp only [EdN.txt, EdN.wd, HDD.out, if_true, List.append_assoc]
                                try rfl
                      · have hie : i = mM := by omega
                        have HSF := Lib.hid (show S4.data.toList = pre5 ++ edM.flatMap EdN.txt by have := HS4.out; rwa [hie, ← HLNE.out, List.take_length] at this)
                        have dd1 : decide ((i : Int) < (mM : Int)) = false := decide_eq_false (by omega)
                        have q1 : ¬ 9223372036854775807 < S4.size + 2 := by omega
                        go_wp2_with fail
                        go_roundg (k0 - (j + 1))
                        case measure => omega
                        case rel =>
                          refine ⟨j + 1, _, rfl, by go_num, by omega, rfl, ?_, HLI⟩
                          unfold Hid
                          rw [HMS.out, data_app, HSF.out, HC5M.out]
                          simp only [MdN.txt, MdN.hd, List.append_assoc]
              · have hjn : j = k0 := by omega
                have HSZ := Lib.hid (show S.data.toList = pre ++ ms0.flatMap MdN.txt by have := HS.out; rwa [hjn, ← HLNM.out, List.take_length] at this)
                have dd0 : decide ((j : Int) < (k0 : Int)) = false := decide_eq_false (by omega)
                have r1 : ¬ 9223372036854775807 < S.size + 5 := by omega
                go_wp2_with fail
                refine (number15_at t0 u0 (textR t0 u0) wo HVT.out rfl).mono ?_
                rintro e w6 ⟨X, rfl, HX, HB6⟩
                have hX : X.size ≤ 43 := by rw [strp_size HX.out]; exact zT
                have r2 : ¬ 9223372036854775807 < S.size + 5 + X.size := by omega
                have r3 : ¬ 9223372036854775807 < S.size + 5 + X.size + 2 := by omega
                have O6 := Lib.hid (HLR.out.belowW HB6.out)
                have HWL := Lib.hid (Lw.under O0.out O6.out)
                obtain ⟨fin, hfin⟩ : ∃ s : ByteArray, s = S ++ ⟨#[116, 105, 109, 101, 32]⟩ ++ X ++ ⟨#[59, 10]⟩ := ⟨_, rfl⟩
                have HF := Lib.hid (show PbN.txt ⟨A0, n0, c0, st0, B0, m0, d0, pa0, C0, k0, e0, ms0, t0, u0⟩ = fin.data.toList by
                  rw [hfin, PbN.txt_eq, data_app, data_app, data_app, HX.out, HSZ.out, HPRE.out]
                  simp only [List.append_assoc])
                go_upto_region 39 with (fail)
                rw [← hfin]
                clear hfin r1 r2 r3
                by_cases hbig : 65536 < fin.size
                · have d9 : decide ((65536 : Int) < (fin.size : Int)) = true := decide_eq_true (by omega)
                  have hb9 : 65536 < fin.data.toList.length := hbig
                  have HE := Lib.hid (show PbN.ans ⟨A0, n0, c0, st0, B0, m0, d0, pa0, C0, k0, e0, ms0, t0, u0⟩ = ([], 5) by unfold PbN.ans; rw [if_pos HOK.out, HF.out, if_pos hb9])
                  clear hb9 hbig
                  go_wp2_with fail
                  refine bodyPost_ret (v := .tuple #[.string ⟨#[]⟩, .int .i64 5]) (by simp [results, Tryz.results8, go_sem]) rfl ?_
                  rw [HE.out]
                  exact ⟨_, rfl, Lib.hid rfl, HWL⟩
                · have d9 : decide ((65536 : Int) < (fin.size : Int)) = false := decide_eq_false (by omega)
                  have hb9 : ¬ 65536 < fin.data.toList.length := hbig
                  have HE := Lib.hid (show PbN.ans ⟨A0, n0, c0, st0, B0, m0, d0, pa0, C0, k0, e0, ms0, t0, u0⟩ = (fin.data.toList, 0) by unfold PbN.ans; rw [if_pos HOK.out, HF.out, if_neg hb9])
                  clear hb9 hbig
                  go_wp2_with fail
                  refine bodyPost_ret (v := .tuple #[.string fin, .int .i64 0]) (by simp [results, Tryz.results8, go_sem]) rfl ?_
                  rw [HE.out]
                  exact ⟨_, rfl, Lib.hid rfl, HWL⟩
end Go.Proofs.YtoogeihbhhcpaaaGreatDoor
