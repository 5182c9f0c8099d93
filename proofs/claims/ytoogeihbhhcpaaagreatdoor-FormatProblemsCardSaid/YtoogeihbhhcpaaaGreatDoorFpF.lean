/-
  The walk of the text of an edge.
-/
import Derived.Test.YtoogeihbhhcpaaaGreatDoorFpA
import Derived.Test.YtoogeihbhhcpaaaGreatDoorFrP
set_option linter.unusedVariables false
namespace Go.Proofs.YtoogeihbhhcpaaaGreatDoor
open Go.RowKit Go.Fl Go.Fl.Nm Go.Fl.Dy Go.Fl.Rt Go.Fl.Fm
open List (setIfInBounds_toArray set_cons_zero set_cons_succ getElem_toArray getElem_cons_zero getElem_cons_succ)
theorem expr20 (T : TE) (v : Nd) (w : World) (hin : InE w T v) (hok : okE T = true) (hT : RB w) : Calls Tryz.prog 21 #[v.val] w (StrP (txt 20 T) w) :=
  expr_at 20 T v w hin (txt20 hok).1 (by have := (txt20 hok).2; omega) hT
def EdRel (w : World) (hd : List UInt8) (rs : List EqN) (len : Nat) (k : Nat) (sv iv : Value) (wr : World) : Prop :=
  ∃ (j : Nat) (S : ByteArray), sv = .string S ∧ iv = .int .i64 j ∧ j ≤ len ∧ k = len - j ∧ S.size ≤ 20000 + 10029 * j ∧ Hid (S.data.toList = hd ++ resT (rs.take j)) ∧ Hid (Below w.heap.size w wr)

set_option maxHeartbeats 8000000 in
set_option maxRecDepth 100000 in
theorem fedge_p (x0 : EdN) (w : World) (hx : InG w x0) (hok : x0.ok = true) (hT : RB w) : Calls Tryz.prog 22 #[x0.val] w (StrP x0.txt w) := by
  obtain ⟨v0, T0, dir0, tn0, A0, len0, cap0, rs0⟩ := x0
  have HT := Lib.hid hT
  have HIE := Lib.hid hx.e
  have hok9 := EdN.ok_iff.1 hok
  have HOE := Lib.hid (show okE T0 = true from hok9.1)
  have hto : tn0.size ≤ 20 := name_len hok9.2.2.1
  have h4 : len0 ≤ 4 := hok9.2.2.2.1
  have HRS := Lib.hid (show rs0.all EqN.ok = true from hok9.2.2.2.2)
  have HXR := Lib.hid (show InL 7 EqN.cells InQ w A0 len0 cap0 rs0 from hx.hr)
  have HLN := Lib.hid (show rs0.length = len0 from hx.hr.hl)
  have z0 := (txt20 hok9.1).2
  have HE := Lib.hid (show EdN.txt ⟨v0, T0, dir0, tn0, A0, len0, cap0, rs0⟩ = [9, 119, 104, 101, 110, 32] ++ (txt 20 T0 ++ ((if dir0 = 2 then [32, 102, 97, 108, 108, 115, 32, 103, 111, 116, 111, 32] else [32, 114, 105, 115, 101, 115, 32, 103, 111, 116, 111, 32]) ++ (tn0.data.toList ++ (resT rs0 ++ [59, 10])))) from rfl)
  obtain ⟨TX, hTX⟩ : ∃ t, t = txt 20 T0 := ⟨_, rfl⟩
  have KX := Lib.hid (fun (w1 : World) (hb : Below w.heap.size w w1) => show Calls Tryz.prog 21 #[v0.val] w1 (StrP TX w1) from by rw [hTX]; exact expr20 T0 v0 w1 (HIE.out.go hb) HOE.out (HT.out.belowW hb))
  rw [← hTX] at HE
  have z0' : TX.length ≤ 10000 := by rw [hTX]; exact z0
  clear hx hok hT hok9 z0 hTX
  obtain ⟨dd, hdd⟩ : ∃ n, (dir0 == 2) = n := ⟨_, rfl⟩
  simp only [EdN.val]
  go_enter Tryz.func22, Tryz.ntmps22
  go_upto_region 1 with (fail)
  obtain ⟨w1, hw1⟩ : ∃ z9 : World, z9 = w.alloc (Obj.cells #[.int .i64 v0.h.kind, .int .i64 v0.h.n, .int .i64 v0.h.d, .string v0.h.name, .int .i64 v0.h.k, .slice v0.A v0.len v0.cap, .int .i64 dir0, .string tn0, .slice A0 len0 cap0] 64) := ⟨_, rfl⟩
  have HW1 := Lib.hid (show Below w.heap.size w w1 by rw [hw1]; exact below_box _ _)
  have F1 := Lib.hid (show Blk w1 w.heap.size 64 #[.int .i64 v0.h.kind, .int .i64 v0.h.n, .int .i64 v0.h.d, .string v0.h.name, .int .i64 v0.h.k, .slice v0.A v0.len v0.cap, .int .i64 dir0, .string tn0, .slice A0 len0 cap0] by rw [hw1]; exact Blk.new _ _ _)
  rw [← hw1]
  clear hw1
  obtain ⟨pr0, pr1, pr2, pr3, pr4, pr5, pr6, pr7, pr8⟩ := F1.out.cs9
  go_wp2_with fail
  refine (KX.out w1 HW1.out).mono ?_
  rintro e w2 ⟨S, rfl, HS, HB2⟩
  have hS : S.size ≤ 10000 := by rw [strp_size HS.out]; exact z0'
  have HW2 := Lib.hid (HW1.out.trans (HB2.out.mono HW1.out.size))
  have F2 := Lib.hid (F1.out.belowW HB2.out)
  clear pr0 pr1 pr2 pr3 pr4 pr5 pr6 pr7 pr8
  obtain ⟨pr0, pr1, pr2, pr3, pr4, pr5, pr6, pr7, pr8⟩ := F2.out.cs9
  have s1 : ¬ 9223372036854775807 < 6 + S.size := by omega
  have s2 : ¬ 9223372036854775807 < 6 + S.size + 12 := by omega
  cases dd with
  | false =>
    have s3 : ¬ 9223372036854775807 < 6 + S.size + 12 + tn0.size := by omega
    have HX3 := Lib.hid (InQ.list HXR.out HW2.out)
    go_wp2_with fail
    obtain ⟨S3, hS3⟩ : ∃ s : ByteArray, s = ⟨#[9, 119, 104, 101, 110, 32]⟩ ++ S ++ ⟨#[32, 114, 105, 115, 101, 115, 32, 103, 111, 116, 111, 32]⟩ ++ tn0 := ⟨_, rfl⟩
    have HD := Lib.hid (show EdN.txt ⟨v0, T0, dir0, tn0, A0, len0, cap0, rs0⟩ = S3.data.toList ++ (resT rs0 ++ [59, 10]) by
      rw [HE.out, if_neg (by simpa using hdd), hS3]
      simp only [data_app, HS.out, List.append_assoc])
    have hS3z : S3.size ≤ 20000 := by
      rw [hS3]
      simp only [ByteArray.size_append]
      rw [show (⟨#[9, 119, 104, 101, 110, 32]⟩ : ByteArray).size = 6 from rfl, show (⟨#[32, 114, 105, 115, 101, 115, 32, 103, 111, 116, 111, 32]⟩ : ByteArray).size = 12 from rfl]
      omega
    rw [← hS3]
    clear hS3 s3 hdd
    clear hto s1 s2
    clear HB2
    obtain ⟨hd, hhd⟩ : ∃ h, h = S3.data.toList := ⟨_, rfl⟩
    have HH := Lib.hid hhd.symm
    rw [← hhd] at HD
    clear hhd
    go_loopg [3, 26] len0 (fun k sv iv wr => EdRel w2 hd rs0 len0 k sv iv wr)
    case atStart => exact ⟨0, S3, rfl, rfl, by omega, by omega, by omega, by unfold Hid; rw [HH.out]; simp [resT], Below.refl _ _⟩
    case round =>
      obtain ⟨j, S4, rfl, rfl, hj, rfl, hS4, HS4, HL⟩ := hrel
      have TR := Lib.hid (HT.out.belowW (HW2.out.trans (HL.out.mono HW2.out.size)))
      by_cases hlt : j < len0
      · obtain ⟨bb, o, x, hA, ht, hin, h7⟩ := InQ.len (InQ.list HX3.out HL.out) j hlt
        subst hA
        obtain ⟨hbl, x0, x1, x2, x3, x4, x5, x6⟩ := EqN.cells_at h7
        have HIN := Lib.hid hin
        have hok := EqN.ok_iff.1 (ok_of_all HRS.out ht)
        have HV := Lib.hid hok.2
        have hs20 : x.s.size ≤ 20 := name_len hok.1
        have z1 := (txt20 hok.2).2
        have HTK := Lib.hid (take_snocA rs0 j x ht)
        obtain ⟨T1, hT1⟩ : ∃ t, txt 20 x.T = t := ⟨_, rfl⟩
        have KX1 := Lib.hid (fun (w1 : World) (h1 : InE w1 x.T x.v) (h2 : RB w1) => show Calls Tryz.prog 21 #[x.v.val] w1 (StrP T1 w1) from by rw [← hT1]; exact expr20 x.T x.v w1 h1 HV.out h2)
        rw [hT1] at z1
        have d5 : decide ((j : Int) < (len0 : Int)) = true := decide_eq_true (by omega)
        clear ht hin h7 hok
        by_cases h0 : j = 0
        · skip
          have d6 : ((j : Int) == 0) = true := by rw [h0]; rfl
          have HN := Lib.hid (show rs0.take j = [] by rw [h0]; rfl)
          have HJ := Lib.hid (show resT (rs0.take (j + 1)) = [32, 119, 105, 116, 104, 32] ++ (x.s.data.toList ++ ([32, 61, 32] ++ T1)) by rw [HTK.out, HN.out]; simp [resT, EqN.rt, hT1])
          clear h0
          clear hT1
          have s1 : ¬ 9223372036854775807 < S4.size + 6 := by omega
          have s2 : ¬ 9223372036854775807 < x.s.size + 3 := by omega
          go_wp2_with fail
          obtain ⟨w1, hw⟩ : ∃ z9 : World, z9 = wr.alloc (.cells #[.string x.s, .int .i64 x.v.h.kind, .int .i64 x.v.h.n, .int .i64 x.v.h.d, .string x.v.h.name, .int .i64 x.v.h.k, .slice x.v.A x.v.len x.v.cap] 83) := ⟨_, rfl⟩
          have HB1 := Lib.hid (show Below wr.heap.size wr w1 by rw [hw]; exact below_a1 _ _)
          have F1y := Lib.hid (show Blk w1 wr.heap.size 83 #[.string x.s, .int .i64 x.v.h.kind, .int .i64 x.v.h.n, .int .i64 x.v.h.d, .string x.v.h.name, .int .i64 x.v.h.k, .slice x.v.A x.v.len x.v.cap] by rw [hw]; exact Blk.new _ _ _)
          rw [← hw]
          clear hw
          have F1t := Lib.hid (TR.out.belowW HB1.out)
          have F1x := Lib.hid (HIN.out.belowW HB1.out)
          have HL1 := Lib.hid (HL.out.trans (HB1.out.mono HL.out.size))
          clear x0 x1 x2 x3 x4 x5 x6
          have HR2 := Lib.hid (below_dr w1)
          have R2t := Lib.hid (F1t.out.belowW HR2.out)
          have R2x := Lib.hid (F1x.out.belowW HR2.out)
          have R2y := Lib.hid (F1y.out.belowW HR2.out)
          refine wp_region_held_drew (S := fun w' => w'.cell? ⟨wr.heap.size, 0, none⟩ = some (.string x.s) ∧ w'.cell? ⟨wr.heap.size, 1, none⟩ = some (.int .i64 x.v.h.kind) ∧ w'.cell? ⟨wr.heap.size, 2, none⟩ = some (.int .i64 x.v.h.n) ∧ w'.cell? ⟨wr.heap.size, 3, none⟩ = some (.int .i64 x.v.h.d) ∧ w'.cell? ⟨wr.heap.size, 4, none⟩ = some (.string x.v.h.name) ∧ w'.cell? ⟨wr.heap.size, 5, none⟩ = some (.int .i64 x.v.h.k) ∧ w'.cell? ⟨wr.heap.size, 6, none⟩ = some (.slice x.v.A x.v.len x.v.cap)) (by kernel_rfl) ?_ (fun hHeld => ?_)
          case refine_1 => exact ⟨R2y.out.cell 0, R2y.out.cell 1, R2y.out.cell 2, R2y.out.cell 3, R2y.out.cell 4, R2y.out.cell 5, R2y.out.cell 6⟩
          refine tkW 0 ?_
          refine tkW 1 ?_
          refine tkW 2 ?_
          refine tkW 3 ?_
          refine tkW 4 ?_
          refine tkW 5 ?_
          refine wpAnyH_ready (rs := [6]) (by kernel_rfl) (by simp) ?_
          refine AllReadyH.cons rfl (fun K hK => ?_) AllReadyH.nil
          go_simp
          (with_reducible refine (KX1.out _ R2x.out.e R2t.out).mono ?_)
          rintro e w3 ⟨X, rfl, HX, HC3⟩
          have R3t := Lib.hid (R2t.out.belowW HC3.out)
          have R3x := Lib.hid (R2x.out.belowW HC3.out)
          have R3y := Lib.hid (R2y.out.belowW HC3.out)
          have HR3 := Lib.hid (HR2.out.trans (HC3.out.mono HR2.out.size))
          have hX : X.size ≤ 10000 := by rw [strp_size HX.out]; exact z1
          have s3 : ¬ 9223372036854775807 < x.s.size + 3 + X.size := by omega
          have s4 : ¬ 9223372036854775807 < S4.size + 6 + (x.s.size + 3 + X.size) := by omega
          go_wp2_with fail
          clear hHeld
          refine hK.out _ _ ?_ (fun hHeld => ?_)
          case refine_1 => exact ⟨R3y.out.cell 0, R3y.out.cell 1, R3y.out.cell 2, R3y.out.cell 3, R3y.out.cell 4, R3y.out.cell 5, R3y.out.cell 6⟩
          clear hK K
          try simp only [setIfInBounds_toArray, set_cons_zero, set_cons_succ]
          refine tkW 7 ?_
          refine tkW 8 ?_
          refine tkW 9 ?_
          refine wpAnyH_done (by kernel_rfl) ?_ _
          have HL3 := Lib.hid (HL1.out.trans (HR3.out.mono HL1.out.size))
          go_wp2_with fail
          go_roundg (len0 - (j + 1))
          case measure => omega
          case rel =>
            refine ⟨j + 1, _, rfl, by go_num, by omega, rfl, ?_, ?_, HL3⟩
            · simp only [ByteArray.size_append]
              rw [show (⟨#[32, 119, 105, 116, 104, 32]⟩ : ByteArray).size = 6 from rfl, show (⟨#[32, 61, 32]⟩ : ByteArray).size = 3 from rfl]
              omega
            · unfold Hid
              rw [HJ.out]
              simp only [data_app, HS4.out, HX.out, List.append_assoc, HN.out, resT, List.nil_append]
        · skip
          have d6 : ((j : Int) == 0) = false := by simpa using h0
          have HJ := Lib.hid (show resT (rs0.take (j + 1)) = resT (rs0.take j) ++ ([44, 32] ++ (x.s.data.toList ++ ([32, 61, 32] ++ T1))) by
            rw [HTK.out, resT_snoc _ _ (by
              intro h
              have := congrArg List.length h
              rw [List.length_take, HLN.out, List.length_nil] at this
              omega)]
            simp [EqN.rt, hT1])
          clear hT1
          have s1 : ¬ 9223372036854775807 < S4.size + 2 := by omega
          have s2 : ¬ 9223372036854775807 < x.s.size + 3 := by omega
          go_wp2_with fail
          obtain ⟨w1, hw⟩ : ∃ z9 : World, z9 = wr.alloc (.cells #[.string x.s, .int .i64 x.v.h.kind, .int .i64 x.v.h.n, .int .i64 x.v.h.d, .string x.v.h.name, .int .i64 x.v.h.k, .slice x.v.A x.v.len x.v.cap] 83) := ⟨_, rfl⟩
          have HB1 := Lib.hid (show Below wr.heap.size wr w1 by rw [hw]; exact below_a1 _ _)
          have F1y := Lib.hid (show Blk w1 wr.heap.size 83 #[.string x.s, .int .i64 x.v.h.kind, .int .i64 x.v.h.n, .int .i64 x.v.h.d, .string x.v.h.name, .int .i64 x.v.h.k, .slice x.v.A x.v.len x.v.cap] by rw [hw]; exact Blk.new _ _ _)
          rw [← hw]
          clear hw
          have F1t := Lib.hid (TR.out.belowW HB1.out)
          have F1x := Lib.hid (HIN.out.belowW HB1.out)
          have HL1 := Lib.hid (HL.out.trans (HB1.out.mono HL.out.size))
          clear x0 x1 x2 x3 x4 x5 x6
          have HR2 := Lib.hid (below_dr w1)
          have R2t := Lib.hid (F1t.out.belowW HR2.out)
          have R2x := Lib.hid (F1x.out.belowW HR2.out)
          have R2y := Lib.hid (F1y.out.belowW HR2.out)
          refine wp_region_held_drew (S := fun w' => w'.cell? ⟨wr.heap.size, 0, none⟩ = some (.string x.s) ∧ w'.cell? ⟨wr.heap.size, 1, none⟩ = some (.int .i64 x.v.h.kind) ∧ w'.cell? ⟨wr.heap.size, 2, none⟩ = some (.int .i64 x.v.h.n) ∧ w'.cell? ⟨wr.heap.size, 3, none⟩ = some (.int .i64 x.v.h.d) ∧ w'.cell? ⟨wr.heap.size, 4, none⟩ = some (.string x.v.h.name) ∧ w'.cell? ⟨wr.heap.size, 5, none⟩ = some (.int .i64 x.v.h.k) ∧ w'.cell? ⟨wr.heap.size, 6, none⟩ = some (.slice x.v.A x.v.len x.v.cap)) (by kernel_rfl) ?_ (fun hHeld => ?_)
          case refine_1 => exact ⟨R2y.out.cell 0, R2y.out.cell 1, R2y.out.cell 2, R2y.out.cell 3, R2y.out.cell 4, R2y.out.cell 5, R2y.out.cell 6⟩
          refine tkW 0 ?_
          refine tkW 1 ?_
          refine tkW 2 ?_
          refine tkW 3 ?_
          refine tkW 4 ?_
          refine tkW 5 ?_
          refine wpAnyH_ready (rs := [6]) (by kernel_rfl) (by simp) ?_
          refine AllReadyH.cons rfl (fun K hK => ?_) AllReadyH.nil
          go_simp
          (with_reducible refine (KX1.out _ R2x.out.e R2t.out).mono ?_)
          rintro e w3 ⟨X, rfl, HX, HC3⟩
          have R3t := Lib.hid (R2t.out.belowW HC3.out)
          have R3x := Lib.hid (R2x.out.belowW HC3.out)
          have R3y := Lib.hid (R2y.out.belowW HC3.out)
          have HR3 := Lib.hid (HR2.out.trans (HC3.out.mono HR2.out.size))
          have hX : X.size ≤ 10000 := by rw [strp_size HX.out]; exact z1
          have s3 : ¬ 9223372036854775807 < x.s.size + 3 + X.size := by omega
          have s4 : ¬ 9223372036854775807 < S4.size + 2 + (x.s.size + 3 + X.size) := by omega
          go_wp2_with fail
          clear hHeld
          refine hK.out _ _ ?_ (fun hHeld => ?_)
          case refine_1 => exact ⟨R3y.out.cell 0, R3y.out.cell 1, R3y.out.cell 2, R3y.out.cell 3, R3y.out.cell 4, R3y.out.cell 5, R3y.out.cell 6⟩
          clear hK K
          try simp only [setIfInBounds_toArray, set_cons_zero, set_cons_succ]
          refine tkW 7 ?_
          refine tkW 8 ?_
          refine tkW 9 ?_
          refine wpAnyH_done (by kernel_rfl) ?_ _
          have HL3 := Lib.hid (HL1.out.trans (HR3.out.mono HL1.out.size))
          go_wp2_with fail
          go_roundg (len0 - (j + 1))
          case measure => omega
          case rel =>
            refine ⟨j + 1, _, rfl, by go_num, by omega, rfl, ?_, ?_, HL3⟩
            · simp only [ByteArray.size_append]
              rw [show (⟨#[44, 32]⟩ : ByteArray).size = 2 from rfl, show (⟨#[32, 61, 32]⟩ : ByteArray).size = 3 from rfl]
              omega
            · unfold Hid
              rw [HJ.out]
              simp only [data_app, HS4.out, HX.out, List.append_assoc]
      · have hjn : j = len0 := by omega
        have HF := Lib.hid (show S4.data.toList = hd ++ resT rs0 by have := HS4.out; rwa [hjn, ← HLN.out, List.take_length] at this)
        have d5 : decide ((j : Int) < (len0 : Int)) = false := decide_eq_false (by omega)
        have s1 : ¬ 9223372036854775807 < S4.size + 2 := by omega
        go_wp2_with fail
        go_ret
        exact ⟨_, rfl, Lib.hid (by rw [data_app, HF.out, HD.out, List.append_assoc]), Lib.hid (HW2.out.trans (HL.out.mono HW2.out.size))⟩
  | true =>
    go_wp2_with fail
    refine (KX.out w2 HW2.out).mono ?_
    rintro e w3 ⟨S9, rfl, HS9, HB3⟩
    have hS9 : S9.size ≤ 10000 := by rw [strp_size HS9.out]; exact z0'
    have HW3 := Lib.hid (HW2.out.trans (HB3.out.mono HW2.out.size))
    have F3 := Lib.hid (F2.out.belowW HB3.out)
    clear pr0 pr1 pr2 pr3 pr4 pr5 pr6 pr7 pr8
    obtain ⟨pr0, pr1, pr2, pr3, pr4, pr5, pr6, pr7, pr8⟩ := F3.out.cs9
    have s4 : ¬ 9223372036854775807 < 6 + S9.size := by omega
    have s5 : ¬ 9223372036854775807 < 6 + S9.size + 12 := by omega
    have s3 : ¬ 9223372036854775807 < 6 + S9.size + 12 + tn0.size := by omega
    have HX3 := Lib.hid (InQ.list HXR.out HW3.out)
    go_wp2_with fail
    obtain ⟨S3, hS3⟩ : ∃ s : ByteArray, s = ⟨#[9, 119, 104, 101, 110, 32]⟩ ++ S9 ++ ⟨#[32, 102, 97, 108, 108, 115, 32, 103, 111, 116, 111, 32]⟩ ++ tn0 := ⟨_, rfl⟩
    have HD := Lib.hid (show EdN.txt ⟨v0, T0, dir0, tn0, A0, len0, cap0, rs0⟩ = S3.data.toList ++ (resT rs0 ++ [59, 10]) by
      rw [HE.out, if_pos (by simpa using hdd), hS3]
      simp only [data_app, HS9.out, List.append_assoc])
    have hS3z : S3.size ≤ 20000 := by
      rw [hS3]
      simp only [ByteArray.size_append]
      rw [show (⟨#[9, 119, 104, 101, 110, 32]⟩ : ByteArray).size = 6 from rfl, show (⟨#[32, 102, 97, 108, 108, 115, 32, 103, 111, 116, 111, 32]⟩ : ByteArray).size = 12 from rfl]
      omega
    rw [← hS3]
    clear hS3 s3 s4 s5 hdd
    clear hto s1 s2
    clear HB2
    obtain ⟨hd, hhd⟩ : ∃ h, h = S3.data.toList := ⟨_, rfl⟩
    have HH := Lib.hid hhd.symm
    rw [← hhd] at HD
    clear hhd
    go_loopg [3, 26] len0 (fun k sv iv wr => EdRel w3 hd rs0 len0 k sv iv wr)
    case atStart => exact ⟨0, S3, rfl, rfl, by omega, by omega, by omega, by unfold Hid; rw [HH.out]; simp [resT], Below.refl _ _⟩
    case round =>
      obtain ⟨j, S4, rfl, rfl, hj, rfl, hS4, HS4, HL⟩ := hrel
      have TR := Lib.hid (HT.out.belowW (HW3.out.trans (HL.out.mono HW3.out.size)))
      by_cases hlt : j < len0
      · obtain ⟨bb, o, x, hA, ht, hin, h7⟩ := InQ.len (InQ.list HX3.out HL.out) j hlt
        subst hA
        obtain ⟨hbl, x0, x1, x2, x3, x4, x5, x6⟩ := EqN.cells_at h7
        have HIN := Lib.hid hin
        have hok := EqN.ok_iff.1 (ok_of_all HRS.out ht)
        have HV := Lib.hid hok.2
        have hs20 : x.s.size ≤ 20 := name_len hok.1
        have z1 := (txt20 hok.2).2
        have HTK := Lib.hid (take_snocA rs0 j x ht)
        obtain ⟨T1, hT1⟩ : ∃ t, txt 20 x.T = t := ⟨_, rfl⟩
        have KX1 := Lib.hid (fun (w1 : World) (h1 : InE w1 x.T x.v) (h2 : RB w1) => show Calls Tryz.prog 21 #[x.v.val] w1 (StrP T1 w1) from by rw [← hT1]; exact expr20 x.T x.v w1 h1 HV.out h2)
        rw [hT1] at z1
        have d5 : decide ((j : Int) < (len0 : Int)) = true := decide_eq_true (by omega)
        clear ht hin h7 hok
        by_cases h0 : j = 0
        · skip
          have d6 : ((j : Int) == 0) = true := by rw [h0]; rfl
          have HN := Lib.hid (show rs0.take j = [] by rw [h0]; rfl)
          have HJ := Lib.hid (show resT (rs0.take (j + 1)) = [32, 119, 105, 116, 104, 32] ++ (x.s.data.toList ++ ([32, 61, 32] ++ T1)) by rw [HTK.out, HN.out]; simp [resT, EqN.rt, hT1])
          clear h0
          clear hT1
          have s1 : ¬ 9223372036854775807 < S4.size + 6 := by omega
          have s2 : ¬ 9223372036854775807 < x.s.size + 3 := by omega
          go_wp2_with fail
          obtain ⟨w1, hw⟩ : ∃ z9 : World, z9 = wr.alloc (.cells #[.string x.s, .int .i64 x.v.h.kind, .int .i64 x.v.h.n, .int .i64 x.v.h.d, .string x.v.h.name, .int .i64 x.v.h.k, .slice x.v.A x.v.len x.v.cap] 83) := ⟨_, rfl⟩
          have HB1 := Lib.hid (show Below wr.heap.size wr w1 by rw [hw]; exact below_a1 _ _)
          have F1y := Lib.hid (show Blk w1 wr.heap.size 83 #[.string x.s, .int .i64 x.v.h.kind, .int .i64 x.v.h.n, .int .i64 x.v.h.d, .string x.v.h.name, .int .i64 x.v.h.k, .slice x.v.A x.v.len x.v.cap] by rw [hw]; exact Blk.new _ _ _)
          rw [← hw]
          clear hw
          have F1t := Lib.hid (TR.out.belowW HB1.out)
          have F1x := Lib.hid (HIN.out.belowW HB1.out)
          have HL1 := Lib.hid (HL.out.trans (HB1.out.mono HL.out.size))
          clear x0 x1 x2 x3 x4 x5 x6
          have HR2 := Lib.hid (below_dr w1)
          have R2t := Lib.hid (F1t.out.belowW HR2.out)
          have R2x := Lib.hid (F1x.out.belowW HR2.out)
          have R2y := Lib.hid (F1y.out.belowW HR2.out)
          refine wp_region_held_drew (S := fun w' => w'.cell? ⟨wr.heap.size, 0, none⟩ = some (.string x.s) ∧ w'.cell? ⟨wr.heap.size, 1, none⟩ = some (.int .i64 x.v.h.kind) ∧ w'.cell? ⟨wr.heap.size, 2, none⟩ = some (.int .i64 x.v.h.n) ∧ w'.cell? ⟨wr.heap.size, 3, none⟩ = some (.int .i64 x.v.h.d) ∧ w'.cell? ⟨wr.heap.size, 4, none⟩ = some (.string x.v.h.name) ∧ w'.cell? ⟨wr.heap.size, 5, none⟩ = some (.int .i64 x.v.h.k) ∧ w'.cell? ⟨wr.heap.size, 6, none⟩ = some (.slice x.v.A x.v.len x.v.cap)) (by kernel_rfl) ?_ (fun hHeld => ?_)
          case refine_1 => exact ⟨R2y.out.cell 0, R2y.out.cell 1, R2y.out.cell 2, R2y.out.cell 3, R2y.out.cell 4, R2y.out.cell 5, R2y.out.cell 6⟩
          refine tkW 0 ?_
          refine tkW 1 ?_
          refine tkW 2 ?_
          refine tkW 3 ?_
          refine tkW 4 ?_
          refine tkW 5 ?_
          refine wpAnyH_ready (rs := [6]) (by kernel_rfl) (by simp) ?_
          refine AllReadyH.cons rfl (fun K hK => ?_) AllReadyH.nil
          go_simp
          (with_reducible refine (KX1.out _ R2x.out.e R2t.out).mono ?_)
          rintro e w3 ⟨X, rfl, HX, HC3⟩
          have R3t := Lib.hid (R2t.out.belowW HC3.out)
          have R3x := Lib.hid (R2x.out.belowW HC3.out)
          have R3y := Lib.hid (R2y.out.belowW HC3.out)
          have HR3 := Lib.hid (HR2.out.trans (HC3.out.mono HR2.out.size))
          have hX : X.size ≤ 10000 := by rw [strp_size HX.out]; exact z1
          have s3 : ¬ 9223372036854775807 < x.s.size + 3 + X.size := by omega
          have s4 : ¬ 9223372036854775807 < S4.size + 6 + (x.s.size + 3 + X.size) := by omega
          go_wp2_with fail
          clear hHeld
          refine hK.out _ _ ?_ (fun hHeld => ?_)
          case refine_1 => exact ⟨R3y.out.cell 0, R3y.out.cell 1, R3y.out.cell 2, R3y.out.cell 3, R3y.out.cell 4, R3y.out.cell 5, R3y.out.cell 6⟩
          clear hK K
          try simp only [setIfInBounds_toArray, set_cons_zero, set_cons_succ]
          refine tkW 7 ?_
          refine tkW 8 ?_
          refine tkW 9 ?_
          refine wpAnyH_done (by kernel_rfl) ?_ _
          have HL3 := Lib.hid (HL1.out.trans (HR3.out.mono HL1.out.size))
          go_wp2_with fail
          go_roundg (len0 - (j + 1))
          case measure => omega
          case rel =>
            refine ⟨j + 1, _, rfl, by go_num, by omega, rfl, ?_, ?_, HL3⟩
            · simp only [ByteArray.size_append]
              rw [show (⟨#[32, 119, 105, 116, 104, 32]⟩ : ByteArray).size = 6 from rfl, show (⟨#[32, 61, 32]⟩ : ByteArray).size = 3 from rfl]
              omega
            · unfold Hid
              rw [HJ.out]
              simp only [data_app, HS4.out, HX.out, List.append_assoc, HN.out, resT, List.nil_append]
        · skip
          have d6 : ((j : Int) == 0) = false := by simpa using h0
          have HJ := Lib.hid (show resT (rs0.take (j + 1)) = resT (rs0.take j) ++ ([44, 32] ++ (x.s.data.toList ++ ([32, 61, 32] ++ T1))) by
            rw [HTK.out, resT_snoc _ _ (by
              intro h
              have := congrArg List.length h
              rw [List.length_take, HLN.out, List.length_nil] at this
              omega)]
            simp [EqN.rt, hT1])
          clear hT1
          have s1 : ¬ 9223372036854775807 < S4.size + 2 := by omega
          have s2 : ¬ 9223372036854775807 < x.s.size + 3 := by omega
          go_wp2_with fail
          obtain ⟨w1, hw⟩ : ∃ z9 : World, z9 = wr.alloc (.cells #[.string x.s, .int .i64 x.v.h.kind, .int .i64 x.v.h.n, .int .i64 x.v.h.d, .string x.v.h.name, .int .i64 x.v.h.k, .slice x.v.A x.v.len x.v.cap] 83) := ⟨_, rfl⟩
          have HB1 := Lib.hid (show Below wr.heap.size wr w1 by rw [hw]; exact below_a1 _ _)
          have F1y := Lib.hid (show Blk w1 wr.heap.size 83 #[.string x.s, .int .i64 x.v.h.kind, .int .i64 x.v.h.n, .int .i64 x.v.h.d, .string x.v.h.name, .int .i64 x.v.h.k, .slice x.v.A x.v.len x.v.cap] by rw [hw]; exact Blk.new _ _ _)
          rw [← hw]
          clear hw
          have F1t := Lib.hid (TR.out.belowW HB1.out)
          have F1x := Lib.hid (HIN.out.belowW HB1.out)
          have HL1 := Lib.hid (HL.out.trans (HB1.out.mono HL.out.size))
          clear x0 x1 x2 x3 x4 x5 x6
          have HR2 := Lib.hid (below_dr w1)
          have R2t := Lib.hid (F1t.out.belowW HR2.out)
          have R2x := Lib.hid (F1x.out.belowW HR2.out)
          have R2y := Lib.hid (F1y.out.belowW HR2.out)
          refine wp_region_held_drew (S := fun w' => w'.cell? ⟨wr.heap.size, 0, none⟩ = some (.string x.s) ∧ w'.cell? ⟨wr.heap.size, 1, none⟩ = some (.int .i64 x.v.h.kind) ∧ w'.cell? ⟨wr.heap.size, 2, none⟩ = some (.int .i64 x.v.h.n) ∧ w'.cell? ⟨wr.heap.size, 3, none⟩ = some (.int .i64 x.v.h.d) ∧ w'.cell? ⟨wr.heap.size, 4, none⟩ = some (.string x.v.h.name) ∧ w'.cell? ⟨wr.heap.size, 5, none⟩ = some (.int .i64 x.v.h.k) ∧ w'.cell? ⟨wr.heap.size, 6, none⟩ = some (.slice x.v.A x.v.len x.v.cap)) (by kernel_rfl) ?_ (fun hHeld => ?_)
          case refine_1 => exact ⟨R2y.out.cell 0, R2y.out.cell 1, R2y.out.cell 2, R2y.out.cell 3, R2y.out.cell 4, R2y.out.cell 5, R2y.out.cell 6⟩
          refine tkW 0 ?_
          refine tkW 1 ?_
          refine tkW 2 ?_
          refine tkW 3 ?_
          refine tkW 4 ?_
          refine tkW 5 ?_
          refine wpAnyH_ready (rs := [6]) (by kernel_rfl) (by simp) ?_
          refine AllReadyH.cons rfl (fun K hK => ?_) AllReadyH.nil
          go_simp
          (with_reducible refine (KX1.out _ R2x.out.e R2t.out).mono ?_)
          rintro e w3 ⟨X, rfl, HX, HC3⟩
          have R3t := Lib.hid (R2t.out.belowW HC3.out)
          have R3x := Lib.hid (R2x.out.belowW HC3.out)
          have R3y := Lib.hid (R2y.out.belowW HC3.out)
          have HR3 := Lib.hid (HR2.out.trans (HC3.out.mono HR2.out.size))
          have hX : X.size ≤ 10000 := by rw [strp_size HX.out]; exact z1
          have s3 : ¬ 9223372036854775807 < x.s.size + 3 + X.size := by omega
          have s4 : ¬ 9223372036854775807 < S4.size + 2 + (x.s.size + 3 + X.size) := by omega
          go_wp2_with fail
          clear hHeld
          refine hK.out _ _ ?_ (fun hHeld => ?_)
          case refine_1 => exact ⟨R3y.out.cell 0, R3y.out.cell 1, R3y.out.cell 2, R3y.out.cell 3, R3y.out.cell 4, R3y.out.cell 5, R3y.out.cell 6⟩
          clear hK K
          try simp only [setIfInBounds_toArray, set_cons_zero, set_cons_succ]
          refine tkW 7 ?_
          refine tkW 8 ?_
          refine tkW 9 ?_
          refine wpAnyH_done (by kernel_rfl) ?_ _
          have HL3 := Lib.hid (HL1.out.trans (HR3.out.mono HL1.out.size))
          go_wp2_with fail
          go_roundg (len0 - (j + 1))
          case measure => omega
          case rel =>
            refine ⟨j + 1, _, rfl, by go_num, by omega, rfl, ?_, ?_, HL3⟩
            · simp only [ByteArray.size_append]
              rw [show (⟨#[44, 32]⟩ : ByteArray).size = 2 from rfl, show (⟨#[32, 61, 32]⟩ : ByteArray).size = 3 from rfl]
              omega
            · unfold Hid
              rw [HJ.out]
              simp only [data_app, HS4.out, HX.out, List.append_assoc]
      · have hjn : j = len0 := by omega
        have HF := Lib.hid (show S4.data.toList = hd ++ resT rs0 by have := HS4.out; rwa [hjn, ← HLN.out, List.take_length] at this)
        have d5 : decide ((j : Int) < (len0 : Int)) = false := decide_eq_false (by omega)
        have s1 : ¬ 9223372036854775807 < S4.size + 2 := by omega
        go_wp2_with fail
        go_ret
        exact ⟨_, rfl, Lib.hid (by rw [data_app, HF.out, HD.out, List.append_assoc]), Lib.hid (HW3.out.trans (HL.out.mono HW3.out.size))⟩
end Go.Proofs.YtoogeihbhhcpaaaGreatDoor
