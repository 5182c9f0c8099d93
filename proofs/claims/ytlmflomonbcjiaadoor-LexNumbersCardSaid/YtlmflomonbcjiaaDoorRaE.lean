/-
  The walk of ratio.Parse.
-/
import Derived.Test.YtlmflomonbcjiaaDoorRaD
set_option linter.unusedVariables false
namespace Go.Proofs.YtlmflomonbcjiaaDoor
open Go.RowKit Go.Fl Go.Fl.Nm Go.Fl.Dy Go.Fl.Rt
theorem iter_below (w : World) (s : ByteArray) (p : Nat) : Below w.heap.size w (w.iter s p) := below_a1 _ _
theorem takeWhile_append_dropWhile_tail (b : List UInt8) (c : UInt8) (h : c ∈ b) : b = b.takeWhile (· != c) ++ c :: (b.dropWhile (· != c)).tail := by
  induction b with
  | nil => cases h
  | cons x b ih =>
    by_cases hx : x = c
    · subst hx; simp
    · have hx2 : (x != c) = true := by simpa using hx
      rcases List.mem_cons.1 h with h | h
      · exact absurd h.symm hx
      · rw [List.takeWhile_cons_of_pos (by simpa using hx2), List.dropWhile_cons_of_pos (by simpa using hx2), List.cons_append, ← ih h]
theorem tw_not_mem (b : List UInt8) (c : UInt8) : c ∉ b.takeWhile (· != c) := by
  induction b with
  | nil => simp
  | cons x b ih =>
    by_cases hx : x = c
    · subst hx; simp
    · rw [List.takeWhile_cons_of_pos (by simpa using hx)]
      intro h
      rcases List.mem_cons.1 h with h | h
      · exact hx h.symm
      · exact ih h
theorem data_append (a b : ByteArray) : (a ++ b).data.toList = a.data.toList ++ b.data.toList := by simp
theorem pow10_le {k : Nat} (h : k ≤ 18) : 10 ^ k ≤ 1000000000000000000 := by
  have e : (10 : Nat) ^ 18 = 1000000000000000000 := by decide
  rw [← e]; exact Nat.pow_le_pow_right (by omega) h

set_option maxHeartbeats 4000000 in
set_option maxRecDepth 100000 in
theorem parse_point (s : ByteArray) (w : World) (hT : RX w) (hs : s.size ≤ 1000) (ng : Bool) (rest : List UInt8) (hn : (s.data.toList.head? == some 45) = ng) (hr : (if ng then s.data.toList.tail else s.data.toList) = rest) (a b : List UInt8) (hab : rest = a ++ 46 :: b) (h46 : (46 : UInt8) ∉ a) :
    Calls Tryd.prog 10 #[.string s] w (RtE (read1 s.data.toList) w) := by
  have HT := Lib.hid hT
  have KP := Lib.hid (Tryd.strings_CutPrefix s ⟨#[45]⟩ w)
  have hpre := prefix_head s.data.toList
  have KP2 := Lib.hid hpre
  have hrl : rest.length ≤ 1000 := by
    have : s.data.toList.length ≤ 1000 := by rw [length_data]; exact hs
    rw [← hr]; split
    · simp at this ⊢; omega
    · exact this
  have HRD := Lib.hid (read1_point hn hr hab h46)
  have HN := Lib.hid hn
  have HR := Lib.hid hr
  have HAB := Lib.hid hab
  have H46 := Lib.hid h46
  clear hT hn hr hab h46 hpre KP
  go_enter Tryd.func10, Tryd.ntmps10
  go_wp2_with fail
  obtain ⟨w1, hw⟩ : ∃ z9 : World, z9 = (w.alloc (.cells #[.int .i64 0, .int .i64 0] 36)) := ⟨_, rfl⟩
  have HB1 := Lib.hid (show Below w.heap.size w w1 by rw [hw]; exact below_a1 _ _)
  have F1t := Lib.hid (HT.out.belowW HB1.out)
  have F1r := Lib.hid (show Blk w1 (w.heap.size) 36 #[.int .i64 0, .int .i64 0] by rw [hw]; exact Blk.new _ _ _)
  rw [← hw]
  clear hw
  refine (Tryd.strings_CutPrefix s ⟨#[45]⟩ w1).mono ?_
  rintro e w' ⟨rfl, hw⟩
  obtain rfl := hw.symm
  clear hw
  obtain ⟨R, hR⟩ : ∃ R : ByteArray, R = ⟨(Lib.trimPrefix s.data.toList (⟨#[45]⟩ : ByteArray).data.toList).toArray⟩ := ⟨_, rfl⟩
  have HRL := Lib.hid (show R.data.toList = rest by rw [hR]; show Lib.trimPrefix s.data.toList [45] = rest; rw [KP2.out.2, HN.out, HR.out])
  have HNG := Lib.hid (show Lib.hasPrefix s.data.toList (⟨#[45]⟩ : ByteArray).data.toList = ng by show Lib.hasPrefix s.data.toList [45] = ng; rw [KP2.out.1, HN.out])
  rw [← hR, HNG.out]
  clear hR
  have hRs : R.size ≤ 1000 := by rw [← length_data, HRL.out]; exact hrl
  go_wp2_with fail
  refine (cut_yes R 46 a b w1 (by omega) (by rw [HRL.out, HAB.out]) H46.out).mono ?_
  rintro e w2 ⟨A, B, rfl, HA, HYb, HB2⟩
  have F2t := Lib.hid (F1t.out.belowW HB2.out)
  have F2r := Lib.hid (F1r.out.belowW HB2.out)
  have HL2 := Lib.hid (HB1.out.trans (HB2.out.mono HB1.out.size))
  have hA : A.size ≤ 1000 := by rw [← length_data, HA.out]; have := hrl; rw [HAB.out] at this; simp at this; omega
  have hB : B.size ≤ 1000 := by rw [← length_data, HYb.out]; have := hrl; rw [HAB.out] at this; simp at this; omega
  have HAl := Lib.hid (show A.size = a.length by rw [← length_data, HA.out])
  have HBl := Lib.hid (show B.size = b.length by rw [← length_data, HYb.out])
  go_wp2_with fail
  cases da : digs a with
  | false =>
    have DA := Lib.hid da
    clear da
    refine (rdigits_any A w2 (by omega)).mono ?_
    rw [HA.out, DA.out]
    rintro e w3 ⟨rfl, HB3⟩
    have F3t := Lib.hid (F2t.out.belowW HB3.out)
    have F3r := Lib.hid (F2r.out.belowW HB3.out)
    have HL3 := Lib.hid (HL2.out.trans (HB3.out.mono HL2.out.size))
    have pr0 : (w3).cell? ⟨w.heap.size, 0, none⟩ = some (.int .i64 0) := F3r.out.cell 0
    have fr0 : (w3).frozen? ⟨w.heap.size, 0, none⟩ = false := F3r.out.frozen 0
    have pr1 : (w3).cell? ⟨w.heap.size, 1, none⟩ = some (.int .i64 0) := F3r.out.cell 1
    have fr1 : (w3).frozen? ⟨w.heap.size, 1, none⟩ = false := F3r.out.frozen 1
    go_wp2_with fail
    refine bodyPost_ret (v := .tuple #[.agg #[.int .i64 0, .int .i64 0], .int .i64 3]) (by simp [results, Tryd.results10, go_sem, pr0, pr1]) rfl ?_
    rw [show read1 s.data.toList = (0, 0, 3) from HRD.out.trans (by rw [DA.out]; rfl)]
    exact ⟨rfl, Lib.hid (store2_below HL3.out F3r.out _ _ (Nat.le_refl _))⟩
  | true =>
    have DA := Lib.hid da
    clear da
    refine (rdigits_any A w2 (by omega)).mono ?_
    rw [HA.out, DA.out]
    rintro e w3 ⟨rfl, HB3⟩
    have F3t := Lib.hid (F2t.out.belowW HB3.out)
    have F3r := Lib.hid (F2r.out.belowW HB3.out)
    have HL3 := Lib.hid (HL2.out.trans (HB3.out.mono HL2.out.size))
    go_wp2_with fail
    cases db : digs b with
    | false =>
      have DB := Lib.hid db
      clear db
      refine (rdigits_any B w3 (by omega)).mono ?_
      rw [HYb.out, DB.out]
      rintro e w4 ⟨rfl, HB4⟩
      have F4t := Lib.hid (F3t.out.belowW HB4.out)
      have F4r := Lib.hid (F3r.out.belowW HB4.out)
      have HL4 := Lib.hid (HL3.out.trans (HB4.out.mono HL3.out.size))
      have pr0 : (w4).cell? ⟨w.heap.size, 0, none⟩ = some (.int .i64 0) := F4r.out.cell 0
      have fr0 : (w4).frozen? ⟨w.heap.size, 0, none⟩ = false := F4r.out.frozen 0
      have pr1 : (w4).cell? ⟨w.heap.size, 1, none⟩ = some (.int .i64 0) := F4r.out.cell 1
      have fr1 : (w4).frozen? ⟨w.heap.size, 1, none⟩ = false := F4r.out.frozen 1
      go_wp2_with fail
      refine bodyPost_ret (v := .tuple #[.agg #[.int .i64 0, .int .i64 0], .int .i64 3]) (by simp [results, Tryd.results10, go_sem, pr0, pr1]) rfl ?_
      rw [show read1 s.data.toList = (0, 0, 3) from HRD.out.trans (by rw [DA.out, DB.out]; rfl)]
      exact ⟨rfl, Lib.hid (store2_below HL4.out F4r.out _ _ (Nat.le_refl _))⟩
    | true =>
      have DB := Lib.hid db
      clear db
      refine (rdigits_any B w3 (by omega)).mono ?_
      rw [HYb.out, DB.out]
      rintro e w4 ⟨rfl, HB4⟩
      have F4t := Lib.hid (F3t.out.belowW HB4.out)
      have F4r := Lib.hid (F3r.out.belowW HB4.out)
      have HL4 := Lib.hid (HL3.out.trans (HB4.out.mono HL3.out.size))
      by_cases hbig : 18 < A.size + B.size
      · have db : decide ((18 : Int) < (A.size : Int) + B.size) = true := decide_eq_true (by omega)
        have HB9 := Lib.hid (show 18 < a.length + b.length by rw [← HAl.out, ← HBl.out]; exact hbig)
        clear hbig
        have pr0 : (w4).cell? ⟨w.heap.size, 0, none⟩ = some (.int .i64 0) := F4r.out.cell 0
        have fr0 : (w4).frozen? ⟨w.heap.size, 0, none⟩ = false := F4r.out.frozen 0
        have pr1 : (w4).cell? ⟨w.heap.size, 1, none⟩ = some (.int .i64 0) := F4r.out.cell 1
        have fr1 : (w4).frozen? ⟨w.heap.size, 1, none⟩ = false := F4r.out.frozen 1
        go_wp2_with fail
        refine bodyPost_ret (v := .tuple #[.agg #[.int .i64 0, .int .i64 0], .int .i64 5]) (by simp [results, Tryd.results10, go_sem, pr0, pr1]) rfl ?_
        rw [show read1 s.data.toList = (0, 0, 5) from HRD.out.trans (by rw [DA.out, DB.out, if_pos HB9.out]; rfl)]
        exact ⟨rfl, Lib.hid (store2_below HL4.out F4r.out _ _ (Nat.le_refl _))⟩
      · have db : decide ((18 : Int) < (A.size : Int) + B.size) = false := decide_eq_false (by omega)
        have HB9 := Lib.hid (show ¬ 18 < a.length + b.length by rw [← HAl.out, ← HBl.out]; exact hbig)
        have HAB2 := Lib.hid (show (A ++ B).data.toList = a ++ b by rw [data_append, HA.out, HYb.out])
        have HDG := Lib.hid (show digs (A ++ B).data.toList = true by rw [HAB2.out]; exact digs_append DA.out (digs_all DB.out))
        have HLN := Lib.hid (show (A ++ B).data.toList.length ≤ 18 by rw [HAB2.out, List.length_append]; have := HB9.out; omega)
        have HAS := Lib.hid (show ∀ p (h : p < B.size), (B[p]'h).toNat < 128 from fun p h => by
          have hall := digs_all DB.out
          rw [List.all_eq_true] at hall
          have := hall B[p] (by rw [← HYb.out]; exact List.getElem_mem (by simpa using h))
          unfold isDig at this; simp at this; omega)
        obtain ⟨V, hV⟩ : ∃ V : Nat, V = dval (a ++ b) := ⟨_, rfl⟩
        have hVb : V < 1000000000000000000 := by
          have h1 := dval_lt (a ++ b) (by rw [List.all_append, digs_all DA.out, digs_all DB.out]; rfl)
          have h2 := pow10_le (show (a ++ b).length ≤ 18 by rw [List.length_append]; have := HB9.out; omega)
          omega
        have HVV := Lib.hid hV.symm
        clear hV
        go_wp2_with fail
        refine (number_ok (A ++ B) w4 HDG.out HLN.out).mono ?_
        rw [HAB2.out, HVV.out]
        rintro e w5 ⟨rfl, HB5⟩
        have F5t := Lib.hid (F4t.out.belowW HB5.out)
        have F5r := Lib.hid (F4r.out.belowW HB5.out)
        have HL5 := Lib.hid (HL4.out.trans (HB5.out.mono HL4.out.size))
        go_wp2_with fail
        go_loopw [12] (fun dv wr => ∃ pos : Nat, pos ≤ B.size ∧ wr = w5.iter B pos ∧ dv = .int .i64 (10 ^ pos : Nat)) (fun _ wr => B.size - wr.iterPos w5.heap.size)
        case atStart => exact ⟨0, Nat.zero_le _, rfl, rfl⟩
        case round =>
          obtain ⟨pos, hpos, rfl, rfl⟩ := hrel
          by_cases hlt : pos < B.size
          · have hnx : ∀ ty, (Instr.next (.pointer (some ⟨w5.heap.size, 0, none⟩)) true ty).run Tryd.prog (w5.iter B pos) = _ := fun ty => run_next_ascii w5 B pos ty hlt (HAS.out pos hlt)
            have hpw := pow10_le (show pos + 1 ≤ 18 by omega)
            have HPW := Lib.hid (show (10 ^ (pos + 1) : Nat) = 10 ^ pos * 10 from Nat.pow_succ 10 pos)
            obtain ⟨z, hz⟩ : ∃ z : Nat, z = 10 ^ pos := ⟨_, rfl⟩
            rw [Nat.pow_succ, ← hz] at hpw
            rw [← hz]
            have HZ := Lib.hid hz
            clear hz
            go_wp2
            go_roundw
            case rel => exact ⟨pos + 1, by omega, rfl, by rw [HPW.out, ← HZ.out]; go_num⟩
            case measure => simp; omega
          · obtain rfl : pos = B.size := by omega
            have hnx : ∀ ty, (Instr.next (.pointer (some ⟨w5.heap.size, 0, none⟩)) true ty).run Tryd.prog (w5.iter B B.size) = _ := fun ty => run_next_end w5 B B.size ty hlt
            have hpw := pow10_le (show B.size ≤ 18 by omega)
            obtain ⟨D9, hD9⟩ : ∃ z : Nat, z = 10 ^ B.size := ⟨_, rfl⟩
            rw [← hD9] at hpw ⊢
            have HD9 := Lib.hid hD9
            clear hD9
            go_upto_region 19 with (fail)
            obtain ⟨w6, hw⟩ : ∃ z9 : World, z9 = w5.iter B B.size := ⟨_, rfl⟩
            have HB6 := Lib.hid (show Below w5.heap.size w5 w6 by rw [hw]; exact iter_below _ _ _)
            rw [← hw]
            clear hw hnx
            have F6t := Lib.hid (F5t.out.belowW HB6.out)
            have F6r := Lib.hid (F5r.out.belowW HB6.out)
            have HL6 := Lib.hid (HL5.out.trans (HB6.out.mono HL5.out.size))
            cases ng with
            | true =>
              go_wp2_with fail
              refine (make_q (-(V : Int)) (D9 : Int) w6 (by omega) (by omega) (by omega) (by omega)).mono ?_
              rintro e w7 ⟨rfl, HB7⟩
              have F7t := Lib.hid (F6t.out.belowW HB7.out)
              have F7r := Lib.hid (F6r.out.belowW HB7.out)
              have HL7 := Lib.hid (HL6.out.trans (HB7.out.mono HL6.out.size))
              have pr0 : (w7).cell? ⟨w.heap.size, 0, none⟩ = some (.int .i64 0) := F7r.out.cell 0
              have fr0 : (w7).frozen? ⟨w.heap.size, 0, none⟩ = false := F7r.out.frozen 0
              have pr1 : (w7).cell? ⟨w.heap.size, 1, none⟩ = some (.int .i64 0) := F7r.out.cell 1
              have fr1 : (w7).frozen? ⟨w.heap.size, 1, none⟩ = false := F7r.out.frozen 1
              go_wp2_with fail
              refine bodyPost_ret (v := .tuple #[.agg #[.int .i64 (make (-(V : Int)) (D9 : Int)).1, .int .i64 (make (-(V : Int)) (D9 : Int)).2.1], .int .i64 (make (-(V : Int)) (D9 : Int)).2.2]) (by simp [results, Tryd.results10, go_sem, pr0, pr1]) rfl ?_
              rw [show read1 s.data.toList = make (-(V : Int)) (D9 : Int) from HRD.out.trans (by rw [DA.out, DB.out, if_neg HB9.out, HVV.out, ← HBl.out, HD9.out]; rfl)]
              exact ⟨rfl, Lib.hid (store2_below HL7.out F7r.out _ _ (Nat.le_refl _))⟩
            | false =>
              go_wp2_with fail
              refine (make_q (V : Int) (D9 : Int) w6 (by omega) (by omega) (by omega) (by omega)).mono ?_
              rintro e w7 ⟨rfl, HB7⟩
              have F7t := Lib.hid (F6t.out.belowW HB7.out)
              have F7r := Lib.hid (F6r.out.belowW HB7.out)
              have HL7 := Lib.hid (HL6.out.trans (HB7.out.mono HL6.out.size))
              have pr0 : (w7).cell? ⟨w.heap.size, 0, none⟩ = some (.int .i64 0) := F7r.out.cell 0
              have fr0 : (w7).frozen? ⟨w.heap.size, 0, none⟩ = false := F7r.out.frozen 0
              have pr1 : (w7).cell? ⟨w.heap.size, 1, none⟩ = some (.int .i64 0) := F7r.out.cell 1
              have fr1 : (w7).frozen? ⟨w.heap.size, 1, none⟩ = false := F7r.out.frozen 1
              go_wp2_with fail
              refine bodyPost_ret (v := .tuple #[.agg #[.int .i64 (make (V : Int) (D9 : Int)).1, .int .i64 (make (V : Int) (D9 : Int)).2.1], .int .i64 (make (V : Int) (D9 : Int)).2.2]) (by simp [results, Tryd.results10, go_sem, pr0, pr1]) rfl ?_
              rw [show read1 s.data.toList = make (V : Int) (D9 : Int) from HRD.out.trans (by rw [DA.out, DB.out, if_neg HB9.out, HVV.out, ← HBl.out, HD9.out]; rfl)]
              exact ⟨rfl, Lib.hid (store2_below HL7.out F7r.out _ _ (Nat.le_refl _))⟩

set_option maxHeartbeats 4000000 in
set_option maxRecDepth 100000 in
theorem parse_slash (s : ByteArray) (w : World) (hT : RX w) (hs : s.size ≤ 1000) (ng : Bool) (rest : List UInt8) (hn : (s.data.toList.head? == some 45) = ng) (hr : (if ng then s.data.toList.tail else s.data.toList) = rest) (a b : List UInt8) (h46 : (46 : UInt8) ∉ rest) (hab : rest = a ++ 47 :: b) (h47 : (47 : UInt8) ∉ a) :
    Calls Tryd.prog 10 #[.string s] w (RtE (read1 s.data.toList) w) := by
  have HT := Lib.hid hT
  have KP := Lib.hid (Tryd.strings_CutPrefix s ⟨#[45]⟩ w)
  have hpre := prefix_head s.data.toList
  have KP2 := Lib.hid hpre
  have hrl : rest.length ≤ 1000 := by
    have : s.data.toList.length ≤ 1000 := by rw [length_data]; exact hs
    rw [← hr]; split
    · simp at this ⊢; omega
    · exact this
  have HRD := Lib.hid (read1_slash hn hr h46 hab h47)
  have HN := Lib.hid hn
  have HR := Lib.hid hr
  have HAB := Lib.hid hab
  have H46 := Lib.hid h46
  have H47 := Lib.hid h47
  clear hT hn hr hab h46 h47 hpre KP
  go_enter Tryd.func10, Tryd.ntmps10
  go_wp2_with fail
  obtain ⟨w1, hw⟩ : ∃ z9 : World, z9 = (w.alloc (.cells #[.int .i64 0, .int .i64 0] 36)) := ⟨_, rfl⟩
  have HB1 := Lib.hid (show Below w.heap.size w w1 by rw [hw]; exact below_a1 _ _)
  have F1t := Lib.hid (HT.out.belowW HB1.out)
  have F1r := Lib.hid (show Blk w1 (w.heap.size) 36 #[.int .i64 0, .int .i64 0] by rw [hw]; exact Blk.new _ _ _)
  rw [← hw]
  clear hw
  refine (Tryd.strings_CutPrefix s ⟨#[45]⟩ w1).mono ?_
  rintro e w' ⟨rfl, hw⟩
  obtain rfl := hw.symm
  clear hw
  obtain ⟨R, hR⟩ : ∃ R : ByteArray, R = ⟨(Lib.trimPrefix s.data.toList (⟨#[45]⟩ : ByteArray).data.toList).toArray⟩ := ⟨_, rfl⟩
  have HRL := Lib.hid (show R.data.toList = rest by rw [hR]; show Lib.trimPrefix s.data.toList [45] = rest; rw [KP2.out.2, HN.out, HR.out])
  have HNG := Lib.hid (show Lib.hasPrefix s.data.toList (⟨#[45]⟩ : ByteArray).data.toList = ng by show Lib.hasPrefix s.data.toList [45] = ng; rw [KP2.out.1, HN.out])
  rw [← hR, HNG.out]
  clear hR
  have hRs : R.size ≤ 1000 := by rw [← length_data, HRL.out]; exact hrl
  go_wp2_with fail
  refine (cut_no R 46 w1 (by omega) (by rw [HRL.out]; exact H46.out)).mono ?_
  rintro e w' ⟨rfl, rfl⟩
  go_wp2_with fail
  refine (cut_yes R 47 a b w1 (by omega) (by rw [HRL.out, HAB.out]) H47.out).mono ?_
  rintro e w2 ⟨A, B, rfl, HA, HYb, HB2⟩
  have F2t := Lib.hid (F1t.out.belowW HB2.out)
  have F2r := Lib.hid (F1r.out.belowW HB2.out)
  have HL2 := Lib.hid (HB1.out.trans (HB2.out.mono HB1.out.size))
  have hA : A.size ≤ 1000 := by rw [← length_data, HA.out]; have := hrl; rw [HAB.out] at this; simp at this; omega
  have hB : B.size ≤ 1000 := by rw [← length_data, HYb.out]; have := hrl; rw [HAB.out] at this; simp at this; omega
  have HAl := Lib.hid (show A.size = a.length by rw [← length_data, HA.out])
  have HBl := Lib.hid (show B.size = b.length by rw [← length_data, HYb.out])
  go_wp2_with fail
  cases da : digs a with
  | false =>
    have DA := Lib.hid da
    clear da
    refine (rdigits_any A w2 (by omega)).mono ?_
    rw [HA.out, DA.out]
    rintro e w3 ⟨rfl, HB3⟩
    have F3t := Lib.hid (F2t.out.belowW HB3.out)
    have F3r := Lib.hid (F2r.out.belowW HB3.out)
    have HL3 := Lib.hid (HL2.out.trans (HB3.out.mono HL2.out.size))
    have pr0 : (w3).cell? ⟨w.heap.size, 0, none⟩ = some (.int .i64 0) := F3r.out.cell 0
    have fr0 : (w3).frozen? ⟨w.heap.size, 0, none⟩ = false := F3r.out.frozen 0
    have pr1 : (w3).cell? ⟨w.heap.size, 1, none⟩ = some (.int .i64 0) := F3r.out.cell 1
    have fr1 : (w3).frozen? ⟨w.heap.size, 1, none⟩ = false := F3r.out.frozen 1
    go_wp2_with fail
    refine bodyPost_ret (v := .tuple #[.agg #[.int .i64 0, .int .i64 0], .int .i64 3]) (by simp [results, Tryd.results10, go_sem, pr0, pr1]) rfl ?_
    rw [show read1 s.data.toList = (0, 0, 3) from HRD.out.trans (by rw [DA.out]; rfl)]
    exact ⟨rfl, Lib.hid (store2_below HL3.out F3r.out _ _ (Nat.le_refl _))⟩
  | true =>
    have DA := Lib.hid da
    clear da
    refine (rdigits_any A w2 (by omega)).mono ?_
    rw [HA.out, DA.out]
    rintro e w3 ⟨rfl, HB3⟩
    have F3t := Lib.hid (F2t.out.belowW HB3.out)
    have F3r := Lib.hid (F2r.out.belowW HB3.out)
    have HL3 := Lib.hid (HL2.out.trans (HB3.out.mono HL2.out.size))
    go_wp2_with fail
    cases db : digs b with
    | false =>
      have DB := Lib.hid db
      clear db
      refine (rdigits_any B w3 (by omega)).mono ?_
      rw [HYb.out, DB.out]
      rintro e w4 ⟨rfl, HB4⟩
      have F4t := Lib.hid (F3t.out.belowW HB4.out)
      have F4r := Lib.hid (F3r.out.belowW HB4.out)
      have HL4 := Lib.hid (HL3.out.trans (HB4.out.mono HL3.out.size))
      have pr0 : (w4).cell? ⟨w.heap.size, 0, none⟩ = some (.int .i64 0) := F4r.out.cell 0
      have fr0 : (w4).frozen? ⟨w.heap.size, 0, none⟩ = false := F4r.out.frozen 0
      have pr1 : (w4).cell? ⟨w.heap.size, 1, none⟩ = some (.int .i64 0) := F4r.out.cell 1
      have fr1 : (w4).frozen? ⟨w.heap.size, 1, none⟩ = false := F4r.out.frozen 1
      go_wp2_with fail
      refine bodyPost_ret (v := .tuple #[.agg #[.int .i64 0, .int .i64 0], .int .i64 3]) (by simp [results, Tryd.results10, go_sem, pr0, pr1]) rfl ?_
      rw [show read1 s.data.toList = (0, 0, 3) from HRD.out.trans (by rw [DA.out, DB.out]; rfl)]
      exact ⟨rfl, Lib.hid (store2_below HL4.out F4r.out _ _ (Nat.le_refl _))⟩
    | true =>
      have DB := Lib.hid db
      clear db
      refine (rdigits_any B w3 (by omega)).mono ?_
      rw [HYb.out, DB.out]
      rintro e w4 ⟨rfl, HB4⟩
      have F4t := Lib.hid (F3t.out.belowW HB4.out)
      have F4r := Lib.hid (F3r.out.belowW HB4.out)
      have HL4 := Lib.hid (HL3.out.trans (HB4.out.mono HL3.out.size))
      obtain ⟨M9, hM9⟩ : ∃ z : Nat, z = max A.size B.size := ⟨_, rfl⟩
      have hmx : max (A.size : Int) (B.size : Int) = (M9 : Int) := by omega
      by_cases hbig : 18 < M9
      · have db : decide ((18 : Int) < (M9 : Int)) = true := decide_eq_true (by omega)
        have HB9 := Lib.hid (show 18 < max a.length b.length by rw [← HAl.out, ← HBl.out]; omega)
        clear hbig hM9
        have pr0 : (w4).cell? ⟨w.heap.size, 0, none⟩ = some (.int .i64 0) := F4r.out.cell 0
        have fr0 : (w4).frozen? ⟨w.heap.size, 0, none⟩ = false := F4r.out.frozen 0
        have pr1 : (w4).cell? ⟨w.heap.size, 1, none⟩ = some (.int .i64 0) := F4r.out.cell 1
        have fr1 : (w4).frozen? ⟨w.heap.size, 1, none⟩ = false := F4r.out.frozen 1
        go_wp2_with fail
        refine bodyPost_ret (v := .tuple #[.agg #[.int .i64 0, .int .i64 0], .int .i64 5]) (by simp [results, Tryd.results10, go_sem, pr0, pr1]) rfl ?_
        rw [show read1 s.data.toList = (0, 0, 5) from HRD.out.trans (by rw [DA.out, DB.out, if_pos HB9.out]; rfl)]
        exact ⟨rfl, Lib.hid (store2_below HL4.out F4r.out _ _ (Nat.le_refl _))⟩
      · have db : decide ((18 : Int) < (M9 : Int)) = false := decide_eq_false (by omega)
        have HB9 := Lib.hid (show ¬ 18 < max a.length b.length by rw [← HAl.out, ← HBl.out]; omega)
        have hlA : A.data.toList.length ≤ 18 := by rw [length_data]; omega
        have hlB : B.data.toList.length ≤ 18 := by rw [length_data]; omega
        have HlA := Lib.hid hlA
        have HlB := Lib.hid hlB
        clear hbig hM9 hlA hlB
        have HAB2 := Lib.hid (show (A ++ B).data.toList = a ++ b by rw [data_append, HA.out, HYb.out])
        have HDG := Lib.hid (show digs (A ++ B).data.toList = true by rw [HAB2.out]; exact digs_append DA.out (digs_all DB.out))
        have hsAB : (A ++ B).size ≤ 100000 := by rw [ByteArray.size_append]; omega
        obtain ⟨V, hV⟩ : ∃ V : Nat, V = dval a := ⟨_, rfl⟩
        obtain ⟨D9, hD⟩ : ∃ V : Nat, V = dval b := ⟨_, rfl⟩
        have hVb : V < 1000000000000000000 := by
          have h1 := dval_lt a (digs_all DA.out)
          have h2 := pow10_le (show a.length ≤ 18 by have := HB9.out; omega)
          omega
        have hDb : D9 < 1000000000000000000 := by
          have h1 := dval_lt b (digs_all DB.out)
          have h2 := pow10_le (show b.length ≤ 18 by have := HB9.out; omega)
          omega
        have HVV := Lib.hid hV.symm
        have HDD := Lib.hid hD.symm
        clear hV hD
        go_wp2_with fail
        refine (rnumber_any (A ++ B) w4 HDG.out hsAB F4t.out).mono ?_
        rintro e w5 ⟨v0, rfl, HB5⟩
        have F5t := Lib.hid (F4t.out.belowW HB5.out)
        have F5r := Lib.hid (F4r.out.belowW HB5.out)
        have HL5 := Lib.hid (HL4.out.trans (HB5.out.mono HL4.out.size))
        go_wp2_with fail
        refine (number_ok A w5 (by rw [HA.out]; exact DA.out) HlA.out).mono ?_
        rw [HA.out, HVV.out]
        rintro e w6 ⟨rfl, HB6⟩
        have F6t := Lib.hid (F5t.out.belowW HB6.out)
        have F6r := Lib.hid (F5r.out.belowW HB6.out)
        have HL6 := Lib.hid (HL5.out.trans (HB6.out.mono HL5.out.size))
        go_wp2_with fail
        refine (number_ok B w6 (by rw [HYb.out]; exact DB.out) HlB.out).mono ?_
        rw [HYb.out, HDD.out]
        rintro e w7 ⟨rfl, HB7⟩
        have F7t := Lib.hid (F6t.out.belowW HB7.out)
        have F7r := Lib.hid (F6r.out.belowW HB7.out)
        have HL7 := Lib.hid (HL6.out.trans (HB7.out.mono HL6.out.size))
        cases ng with
        | true =>
          go_wp2_with fail
          refine (make_q (-(V : Int)) (D9 : Int) w7 (by omega) (by omega) (by omega) (by omega)).mono ?_
          rintro e w8 ⟨rfl, HB8⟩
          have F8t := Lib.hid (F7t.out.belowW HB8.out)
          have F8r := Lib.hid (F7r.out.belowW HB8.out)
          have HL8 := Lib.hid (HL7.out.trans (HB8.out.mono HL7.out.size))
          have pr0 : (w8).cell? ⟨w.heap.size, 0, none⟩ = some (.int .i64 0) := F8r.out.cell 0
          have fr0 : (w8).frozen? ⟨w.heap.size, 0, none⟩ = false := F8r.out.frozen 0
          have pr1 : (w8).cell? ⟨w.heap.size, 1, none⟩ = some (.int .i64 0) := F8r.out.cell 1
          have fr1 : (w8).frozen? ⟨w.heap.size, 1, none⟩ = false := F8r.out.frozen 1
          go_wp2_with fail
          refine bodyPost_ret (v := .tuple #[.agg #[.int .i64 (make (-(V : Int)) (D9 : Int)).1, .int .i64 (make (-(V : Int)) (D9 : Int)).2.1], .int .i64 (make (-(V : Int)) (D9 : Int)).2.2]) (by simp [results, Tryd.results10, go_sem, pr0, pr1]) rfl ?_
          rw [show read1 s.data.toList = make (-(V : Int)) (D9 : Int) from HRD.out.trans (by rw [DA.out, DB.out, if_neg HB9.out, HVV.out, HDD.out]; rfl)]
          exact ⟨rfl, Lib.hid (store2_below HL8.out F8r.out _ _ (Nat.le_refl _))⟩
        | false =>
          go_wp2_with fail
          refine (make_q (V : Int) (D9 : Int) w7 (by omega) (by omega) (by omega) (by omega)).mono ?_
          rintro e w8 ⟨rfl, HB8⟩
          have F8t := Lib.hid (F7t.out.belowW HB8.out)
          have F8r := Lib.hid (F7r.out.belowW HB8.out)
          have HL8 := Lib.hid (HL7.out.trans (HB8.out.mono HL7.out.size))
          have pr0 : (w8).cell? ⟨w.heap.size, 0, none⟩ = some (.int .i64 0) := F8r.out.cell 0
          have fr0 : (w8).frozen? ⟨w.heap.size, 0, none⟩ = false := F8r.out.frozen 0
          have pr1 : (w8).cell? ⟨w.heap.size, 1, none⟩ = some (.int .i64 0) := F8r.out.cell 1
          have fr1 : (w8).frozen? ⟨w.heap.size, 1, none⟩ = false := F8r.out.frozen 1
          go_wp2_with fail
          refine bodyPost_ret (v := .tuple #[.agg #[.int .i64 (make (V : Int) (D9 : Int)).1, .int .i64 (make (V : Int) (D9 : Int)).2.1], .int .i64 (make (V : Int) (D9 : Int)).2.2]) (by simp [results, Tryd.results10, go_sem, pr0, pr1]) rfl ?_
          rw [show read1 s.data.toList = make (V : Int) (D9 : Int) from HRD.out.trans (by rw [DA.out, DB.out, if_neg HB9.out, HVV.out, HDD.out]; rfl)]
          exact ⟨rfl, Lib.hid (store2_below HL8.out F8r.out _ _ (Nat.le_refl _))⟩

set_option maxHeartbeats 4000000 in
set_option maxRecDepth 100000 in
theorem parse_none (s : ByteArray) (w : World) (hT : RX w) (hs : s.size ≤ 1000) (ng : Bool) (rest : List UInt8) (hn : (s.data.toList.head? == some 45) = ng) (hr : (if ng then s.data.toList.tail else s.data.toList) = rest) (h46 : (46 : UInt8) ∉ rest) (h47 : (47 : UInt8) ∉ rest) :
    Calls Tryd.prog 10 #[.string s] w (RtE (read1 s.data.toList) w) := by
  have HT := Lib.hid hT
  have KP := Lib.hid (Tryd.strings_CutPrefix s ⟨#[45]⟩ w)
  have hpre := prefix_head s.data.toList
  have KP2 := Lib.hid hpre
  have hrl : rest.length ≤ 1000 := by
    have : s.data.toList.length ≤ 1000 := by rw [length_data]; exact hs
    rw [← hr]; split
    · simp at this ⊢; omega
    · exact this
  have HRD := Lib.hid (read1_none hn hr h46 h47)
  have HN := Lib.hid hn
  have HR := Lib.hid hr
  have H46 := Lib.hid h46
  have H47 := Lib.hid h47
  clear hT hn hr h46 h47 hpre KP
  go_enter Tryd.func10, Tryd.ntmps10
  go_wp2_with fail
  obtain ⟨w1, hw⟩ : ∃ z9 : World, z9 = (w.alloc (.cells #[.int .i64 0, .int .i64 0] 36)) := ⟨_, rfl⟩
  have HB1 := Lib.hid (show Below w.heap.size w w1 by rw [hw]; exact below_a1 _ _)
  have F1t := Lib.hid (HT.out.belowW HB1.out)
  have F1r := Lib.hid (show Blk w1 (w.heap.size) 36 #[.int .i64 0, .int .i64 0] by rw [hw]; exact Blk.new _ _ _)
  rw [← hw]
  clear hw
  refine (Tryd.strings_CutPrefix s ⟨#[45]⟩ w1).mono ?_
  rintro e w' ⟨rfl, hw⟩
  obtain rfl := hw.symm
  clear hw
  obtain ⟨R, hR⟩ : ∃ R : ByteArray, R = ⟨(Lib.trimPrefix s.data.toList (⟨#[45]⟩ : ByteArray).data.toList).toArray⟩ := ⟨_, rfl⟩
  have HRL := Lib.hid (show R.data.toList = rest by rw [hR]; show Lib.trimPrefix s.data.toList [45] = rest; rw [KP2.out.2, HN.out, HR.out])
  have HNG := Lib.hid (show Lib.hasPrefix s.data.toList (⟨#[45]⟩ : ByteArray).data.toList = ng by show Lib.hasPrefix s.data.toList [45] = ng; rw [KP2.out.1, HN.out])
  rw [← hR, HNG.out]
  clear hR
  have hRs : R.size ≤ 1000 := by rw [← length_data, HRL.out]; exact hrl
  go_wp2_with fail
  refine (cut_no R 46 w1 (by omega) (by rw [HRL.out]; exact H46.out)).mono ?_
  rintro e w' ⟨rfl, rfl⟩
  go_wp2_with fail
  refine (cut_no R 47 w1 (by omega) (by rw [HRL.out]; exact H47.out)).mono ?_
  rintro e w' ⟨rfl, rfl⟩
  go_wp2_with fail
  have HAl := Lib.hid (show R.size = rest.length by rw [← length_data, HRL.out])
  cases da : digs rest with
  | false =>
    have DA := Lib.hid da
    clear da
    refine (rdigits_any R w1 (by omega)).mono ?_
    rw [HRL.out, DA.out]
    rintro e w2 ⟨rfl, HB2⟩
    have F2t := Lib.hid (F1t.out.belowW HB2.out)
    have F2r := Lib.hid (F1r.out.belowW HB2.out)
    have HL2 := Lib.hid (HB1.out.trans (HB2.out.mono HB1.out.size))
    have pr0 : (w2).cell? ⟨w.heap.size, 0, none⟩ = some (.int .i64 0) := F2r.out.cell 0
    have fr0 : (w2).frozen? ⟨w.heap.size, 0, none⟩ = false := F2r.out.frozen 0
    have pr1 : (w2).cell? ⟨w.heap.size, 1, none⟩ = some (.int .i64 0) := F2r.out.cell 1
    have fr1 : (w2).frozen? ⟨w.heap.size, 1, none⟩ = false := F2r.out.frozen 1
    go_wp2_with fail
    refine bodyPost_ret (v := .tuple #[.agg #[.int .i64 0, .int .i64 0], .int .i64 3]) (by simp [results, Tryd.results10, go_sem, pr0, pr1]) rfl ?_
    rw [show read1 s.data.toList = (0, 0, 3) from HRD.out.trans (by rw [DA.out]; rfl)]
    exact ⟨rfl, Lib.hid (store2_below HL2.out F2r.out _ _ (Nat.le_refl _))⟩
  | true =>
    have DA := Lib.hid da
    clear da
    refine (rdigits_any R w1 (by omega)).mono ?_
    rw [HRL.out, DA.out]
    rintro e w2 ⟨rfl, HB2⟩
    have F2t := Lib.hid (F1t.out.belowW HB2.out)
    have F2r := Lib.hid (F1r.out.belowW HB2.out)
    have HL2 := Lib.hid (HB1.out.trans (HB2.out.mono HB1.out.size))
    by_cases hbig : 18 < R.size
    · have db : decide ((18 : Int) < (R.size : Int)) = true := decide_eq_true (by omega)
      have HB9 := Lib.hid (show 18 < rest.length by rw [← HAl.out]; exact hbig)
      clear hbig
      have pr0 : (w2).cell? ⟨w.heap.size, 0, none⟩ = some (.int .i64 0) := F2r.out.cell 0
      have fr0 : (w2).frozen? ⟨w.heap.size, 0, none⟩ = false := F2r.out.frozen 0
      have pr1 : (w2).cell? ⟨w.heap.size, 1, none⟩ = some (.int .i64 0) := F2r.out.cell 1
      have fr1 : (w2).frozen? ⟨w.heap.size, 1, none⟩ = false := F2r.out.frozen 1
      go_wp2_with fail
      refine bodyPost_ret (v := .tuple #[.agg #[.int .i64 0, .int .i64 0], .int .i64 5]) (by simp [results, Tryd.results10, go_sem, pr0, pr1]) rfl ?_
      rw [show read1 s.data.toList = (0, 0, 5) from HRD.out.trans (by rw [DA.out, if_pos HB9.out]; rfl)]
      exact ⟨rfl, Lib.hid (store2_below HL2.out F2r.out _ _ (Nat.le_refl _))⟩
    · have db : decide ((18 : Int) < (R.size : Int)) = false := decide_eq_false (by omega)
      have HB9 := Lib.hid (show ¬ 18 < rest.length by rw [← HAl.out]; exact hbig)
      obtain ⟨E, hE⟩ : ∃ E : ByteArray, E = ⟨#[]⟩ := ⟨_, rfl⟩
      have hEs : E.size = 0 := by rw [hE]; rfl
      have HAB2 := Lib.hid (show (R ++ E).data.toList = rest by rw [data_append, HRL.out, hE]; simp)
      have HDG := Lib.hid (show digs (R ++ E).data.toList = true by rw [HAB2.out]; exact DA.out)
      have HLN := Lib.hid (show (R ++ E).data.toList.length ≤ 18 by rw [HAB2.out]; have := HB9.out; omega)
      obtain ⟨V, hV⟩ : ∃ V : Nat, V = dval rest := ⟨_, rfl⟩
      have hVb : V < 1000000000000000000 := by
        have h1 := dval_lt rest (digs_all DA.out)
        have h2 := pow10_le (show rest.length ≤ 18 by have := HB9.out; omega)
        omega
      have HVV := Lib.hid hV.symm
      clear hV hbig
      rw [← hE]
      have HEE := Lib.hid hE
      have HES := Lib.hid hEs
      have hE0 : E.size ≤ 0 := by omega
      have db2 : decide ((18 : Int) < (R.size : Int) + E.size) = false := decide_eq_false (by have := HB9.out; have := HAl.out; omega)
      have HAS := Lib.hid (show ∀ p (h : p < E.size), (E[p]'h).toNat < 128 from fun p h => absurd h (by omega))
      clear hE hEs
      go_wp2_with fail
      refine (number_ok (R ++ E) w2 HDG.out HLN.out).mono ?_
      rw [HAB2.out, HVV.out]
      rintro e w3 ⟨rfl, HB3⟩
      have F3t := Lib.hid (F2t.out.belowW HB3.out)
      have F3r := Lib.hid (F2r.out.belowW HB3.out)
      have HL3 := Lib.hid (HL2.out.trans (HB3.out.mono HL2.out.size))
      go_wp2_with fail
      go_loopw [12] (fun dv wr => ∃ pos : Nat, pos ≤ E.size ∧ wr = w3.iter E pos ∧ dv = .int .i64 (10 ^ pos : Nat)) (fun _ wr => E.size - wr.iterPos w3.heap.size)
      case atStart => exact ⟨0, Nat.zero_le _, rfl, rfl⟩
      case round =>
        obtain ⟨pos, hpos, rfl, rfl⟩ := hrel
        by_cases hlt : pos < E.size
        · have hnx : ∀ ty, (Instr.next (.pointer (some ⟨w3.heap.size, 0, none⟩)) true ty).run Tryd.prog (w3.iter E pos) = _ := fun ty => run_next_ascii w3 E pos ty hlt (HAS.out pos hlt)
          have hpw := pow10_le (show pos + 1 ≤ 18 by omega)
          have HPW := Lib.hid (show (10 ^ (pos + 1) : Nat) = 10 ^ pos * 10 from Nat.pow_succ 10 pos)
          obtain ⟨z, hz⟩ : ∃ z : Nat, z = 10 ^ pos := ⟨_, rfl⟩
          rw [Nat.pow_succ, ← hz] at hpw
          rw [← hz]
          have HZ := Lib.hid hz
          clear hz
          go_wp2
          go_roundw
          case rel => exact ⟨pos + 1, by omega, rfl, by rw [HPW.out, ← HZ.out]; go_num⟩
          case measure => simp; omega
        · obtain rfl : pos = E.size := by omega
          have hnx : ∀ ty, (Instr.next (.pointer (some ⟨w3.heap.size, 0, none⟩)) true ty).run Tryd.prog (w3.iter E E.size) = _ := fun ty => run_next_end w3 E E.size ty hlt
          have hpw := pow10_le (show E.size ≤ 18 by omega)
          obtain ⟨D9, hD9⟩ : ∃ z : Nat, z = 10 ^ E.size := ⟨_, rfl⟩
          rw [← hD9] at hpw ⊢
          have HD9 := Lib.hid hD9
          clear hD9
          go_upto_region 19 with (fail)
          obtain ⟨w4, hw⟩ : ∃ z9 : World, z9 = w3.iter E E.size := ⟨_, rfl⟩
          have HB4 := Lib.hid (show Below w3.heap.size w3 w4 by rw [hw]; exact iter_below _ _ _)
          rw [← hw]
          clear hw hnx
          have F4t := Lib.hid (F3t.out.belowW HB4.out)
          have F4r := Lib.hid (F3r.out.belowW HB4.out)
          have HL4 := Lib.hid (HL3.out.trans (HB4.out.mono HL3.out.size))
          cases ng with
          | true =>
            go_wp2_with fail
            refine (make_q (-(V : Int)) (D9 : Int) w4 (by omega) (by omega) (by omega) (by omega)).mono ?_
            rintro e w5 ⟨rfl, HB5⟩
            have F5t := Lib.hid (F4t.out.belowW HB5.out)
            have F5r := Lib.hid (F4r.out.belowW HB5.out)
            have HL5 := Lib.hid (HL4.out.trans (HB5.out.mono HL4.out.size))
            have pr0 : (w5).cell? ⟨w.heap.size, 0, none⟩ = some (.int .i64 0) := F5r.out.cell 0
            have fr0 : (w5).frozen? ⟨w.heap.size, 0, none⟩ = false := F5r.out.frozen 0
            have pr1 : (w5).cell? ⟨w.heap.size, 1, none⟩ = some (.int .i64 0) := F5r.out.cell 1
            have fr1 : (w5).frozen? ⟨w.heap.size, 1, none⟩ = false := F5r.out.frozen 1
            go_wp2_with fail
            refine bodyPost_ret (v := .tuple #[.agg #[.int .i64 (make (-(V : Int)) (D9 : Int)).1, .int .i64 (make (-(V : Int)) (D9 : Int)).2.1], .int .i64 (make (-(V : Int)) (D9 : Int)).2.2]) (by simp [results, Tryd.results10, go_sem, pr0, pr1]) rfl ?_
            rw [show read1 s.data.toList = make (-(V : Int)) (D9 : Int) from HRD.out.trans (by rw [DA.out, if_neg HB9.out, HVV.out, HD9.out, HES.out]; rfl)]
            exact ⟨rfl, Lib.hid (store2_below HL5.out F5r.out _ _ (Nat.le_refl _))⟩
          | false =>
            go_wp2_with fail
            refine (make_q (V : Int) (D9 : Int) w4 (by omega) (by omega) (by omega) (by omega)).mono ?_
            rintro e w5 ⟨rfl, HB5⟩
            have F5t := Lib.hid (F4t.out.belowW HB5.out)
            have F5r := Lib.hid (F4r.out.belowW HB5.out)
            have HL5 := Lib.hid (HL4.out.trans (HB5.out.mono HL4.out.size))
            have pr0 : (w5).cell? ⟨w.heap.size, 0, none⟩ = some (.int .i64 0) := F5r.out.cell 0
            have fr0 : (w5).frozen? ⟨w.heap.size, 0, none⟩ = false := F5r.out.frozen 0
            have pr1 : (w5).cell? ⟨w.heap.size, 1, none⟩ = some (.int .i64 0) := F5r.out.cell 1
            have fr1 : (w5).frozen? ⟨w.heap.size, 1, none⟩ = false := F5r.out.frozen 1
            go_wp2_with fail
            refine bodyPost_ret (v := .tuple #[.agg #[.int .i64 (make (V : Int) (D9 : Int)).1, .int .i64 (make (V : Int) (D9 : Int)).2.1], .int .i64 (make (V : Int) (D9 : Int)).2.2]) (by simp [results, Tryd.results10, go_sem, pr0, pr1]) rfl ?_
            rw [show read1 s.data.toList = make (V : Int) (D9 : Int) from HRD.out.trans (by rw [DA.out, if_neg HB9.out, HVV.out, HD9.out, HES.out]; rfl)]
            exact ⟨rfl, Lib.hid (store2_below HL5.out F5r.out _ _ (Nat.le_refl _))⟩

theorem parse_any' (s : ByteArray) (w : World) (hT : RX w) (hs : s.size ≤ 1000) :
    Calls Tryd.prog 10 #[.string s] w (RtE (read1 s.data.toList) w) := by
  rcases split_plain (if (s.data.toList.head? == some 45) then s.data.toList.tail else s.data.toList) with ⟨h1, h2⟩ | ⟨a, c, b, hab, hc, h1, h2⟩
  · exact parse_none s w hT hs _ _ rfl rfl h1 h2
  · rcases hc with rfl | rfl
    · exact parse_point s w hT hs _ _ rfl rfl a b hab h1
    · by_cases h46 : (46 : UInt8) ∈ b
      · obtain ⟨x, y, hxy, hx⟩ : ∃ x y, b = x ++ 46 :: y ∧ (46 : UInt8) ∉ x := ⟨b.takeWhile (· != 46), (b.dropWhile (· != 46)).tail, by
          have h := takeWhile_append_dropWhile_tail b 46 h46
          exact h, tw_not_mem b 46⟩
        exact parse_point s w hT hs _ _ rfl rfl (a ++ 47 :: x) y (by rw [hab, hxy]; simp) (by
          intro h
          rcases List.mem_append.1 h with h | h
          · exact h1 h
          · rcases List.mem_cons.1 h with h | h
            · exact absurd h (by decide)
            · exact hx h)
      · exact parse_slash s w hT hs _ _ rfl rfl a b (by
          rw [hab]
          intro h
          rcases List.mem_append.1 h with h | h
          · exact h1 h
          · rcases List.mem_cons.1 h with h | h
            · exact absurd h (by decide)
            · exact h46 h) hab h2
end Go.Proofs.YtlmflomonbcjiaaDoor
