/-
  The walk of the reference's Read.
-/
import Derived.Test.YtffdkakogeofmaaGreatDoorDeE
set_option linter.unusedVariables false
namespace Go.Fl
open Go.RowKit
theorem cell0_3 {w : World} {g : Nat} {t : TypeId} {x y z : Value} (hB : Blk w g t #[x, y, z]) (a : Value) : w.setCell ⟨g, 0, none⟩ a = putB w g t #[a, y, z] := by
  rw [hB.setCell_eq 0 a]
  rfl
theorem cell1_3 {w : World} {g : Nat} {t : TypeId} {x y z : Value} (hB : Blk w g t #[x, y, z]) (a : Value) : w.setCell ⟨g, 1, none⟩ a = putB w g t #[x, a, z] := by
  rw [hB.setCell_eq 1 a]
  rfl
theorem cell0_3d {w : World} {g : Nat} {t : TypeId} {x y z : Value} (hB : Blk w.drew g t #[x, y, z]) (a : Value) : (w.setCell ⟨g, 0, none⟩ a).drew = putB w.drew g t #[a, y, z] := by
  rw [← cell0_3 hB a]
  rfl
end Go.Fl
namespace Go.Proofs.YtffdkakogeofmaaGreatDoor
open Go.RowKit Go.Fl Go.Fl.Nm Go.Fl.Dy
/-- What Read returns. -/
def RdRP (r : DR × List UInt8 × Bool) (w : World) (e : Ending) (w' : World) : Prop :=
  ∃ X T : ByteArray, e = .returned (.tuple #[.agg #[.string X, .int .i64 (r.1.b : Int), .bool r.1.neg], .string T, .bool r.2.2]) ∧ Hid (X.data.toList = r.1.ds) ∧ Hid (T.data.toList = r.2.1) ∧ Hid (Below w.heap.size w w')
theorem ext_one {s : ByteArray} {l : List UInt8} (h : s.data.toList = l) : (s.extract 1 s.size).data.toList = l.tail := by
  rw [Lib.extract_to_end, h]
  cases l <;> rfl
theorem byte_at {s : ByteArray} {l : List UInt8} {j : Nat} {q : UInt8} (h : s.data.toList = l) (hj : j < s.size) (hq : l[j]? = some q) : s[j] = q := by
  have h1 := List.getElem?_eq_getElem (l := s.data.toList) hj
  have hq' : s.data.toList[j]? = some q := by rw [h]; exact hq
  rw [hq'] at h1
  injection h1 with h1
  exact h1.symm
theorem ext_to {s : ByteArray} (N : Nat) : (s.extract 0 N).data.toList = s.data.toList.take N := by
  rw [ByteArray.data_extract, Array.toList_extract, List.extract_eq_take_drop]; rfl
set_option maxHeartbeats 8000000 in
theorem read11_dashA (s : ByteArray) (l : List UInt8) (w : World) (hl : s.data.toList = l) (hs : s.size ≤ 100000) (hd : l.head? = some 45) (hn : (rsD l).takeWhile Nm.isDig = []) :
    Calls Tryz.prog 37 #[.string s] w (RdRP (rdR l) w) := by
  obtain ⟨lt, hlt⟩ : ∃ lt, l.tail = lt := ⟨_, rfl⟩
  obtain ⟨s', hx⟩ : ∃ s', s.extract 1 s.size = s' := ⟨_, rfl⟩
  have ht' : s'.data.toList = lt := by rw [← hx, ext_one hl, hlt]
  have hll : l.length = s.size := by rw [← hl]; rfl
  have hsz : 0 < s.size := by rw [← hll]; cases l with
    | nil => cases hd
    | cons a l => exact Nat.succ_pos _
  have hb : s[0] = 45 := byte_at hl hsz (by rw [← List.head?_eq_getElem?]; exact hd)
  have hbn : (s[0].toNat : Int) = 45 := by rw [hb]; rfl
  have hbd : decide ((s[0].toNat : Int) = 45) = true := decide_eq_true hbn
  have d0 : decide ((0 : Int) < (s.size : Int)) = true := decide_eq_true (by omega)
  have d0' : decide (0 < s.size) = true := decide_eq_true hsz
  have hs2 : s'.size ≤ 100000 := by
    have : lt.length = s'.size := by rw [← ht']; rfl
    rw [← this, ← hlt, List.length_tail]; omega
  have HT := Lib.hid ht'
  have hrs : rsD l = lt := by unfold rsD ngD; rw [hd]; exact hlt
  have hng : ngD l = true := by unfold ngD; rw [hd]; rfl
  have HRS := Lib.hid hrs
  have HNG := Lib.hid hng
  have HL := Lib.hid hl
  clear hl hll hd hlt ht' hrs hng
  have HN := Lib.hid (show (lt.takeWhile Nm.isDig).length = 0 by rw [← HRS.out, hn]; rfl)
  have HR := Lib.hid (show rdR l = (⟨[], 0, ngD l⟩, rsD l, false) by unfold rdR; rw [if_pos hn])
  clear hn
  go_enter Tryz.func37, Tryz.ntmps37
  go_wp2_with fail
  obtain ⟨w1, hw⟩ : ∃ z9 : World, z9 = ((w.alloc (.cells #[.string ⟨#[]⟩, .int .i64 0, .bool false] 64)).alloc (.cells #[.string ⟨#[]⟩, .int .i64 0, .bool true] 64)) := ⟨_, rfl⟩
  have HB1 := Lib.hid (show Below w.heap.size w w1 by rw [hw]; exact below_a2 _ _ _)
  have F1r := Lib.hid (show Blk w1 (w.heap.size) 64 #[.string ⟨#[]⟩, .int .i64 0, .bool false] by rw [hw]; exact (Blk.new _ _ _).alloc _)
  have F1d := Lib.hid (show Blk w1 (w.heap.size + 1) 64 #[.string ⟨#[]⟩, .int .i64 0, .bool true] by rw [hw]; exact Blk.new1 _ _ _ _)
  rw [← hw]
  clear hw
  refine (digits11 s' lt w1 HT.out hs2).mono ?_
  rw [HN.out]
  rintro e w2 ⟨rfl, HB2⟩
  have F2r := Lib.hid (F1r.out.belowW HB2.out)
  have F2d := Lib.hid (F1d.out.belowW HB2.out)
  have HL2 := Lib.hid (HB1.out.trans (HB2.out.mono HB1.out.size))
  obtain ⟨pr0, fr0, pr1, fr1, pr2, fr2⟩ := F2r.out.all3
  obtain ⟨pd0, fd0, pd1, fd1, pd2, fd2⟩ := F2d.out.all3
  go_wp2_with fail
  rw [store3_put F2r.out]
  have FR9 := Lib.hid (F2r.out.put #[.string ⟨#[]⟩, .int .i64 0, .bool true])
  have HL9 := Lib.hid (HL2.out.trans (putB_below w2 _ 64 #[.string ⟨#[]⟩, .int .i64 0, .bool true] (Nat.le_refl _)))
  clear pr0 fr0 pr1 fr1 pr2 fr2 pd0 fd0 pd1 fd1 pd2 fd2
  obtain ⟨w9, hw⟩ : ∃ z9 : World, z9 = putB w2 (w.heap.size) 64 #[.string ⟨#[]⟩, .int .i64 0, .bool true] := ⟨_, rfl⟩
  rw [← hw] at FR9 HL9 ⊢
  clear hw
  have pr0 : (w9).cell? ⟨w.heap.size, 0, none⟩ = some (.string ⟨#[]⟩) := FR9.out.cell 0
  have pr1 : (w9).cell? ⟨w.heap.size, 1, none⟩ = some (.int .i64 0) := FR9.out.cell 1
  have pr2 : (w9).cell? ⟨w.heap.size, 2, none⟩ = some (.bool true) := FR9.out.cell 2
  refine bodyPost_ret (v := .tuple #[.agg #[.string ⟨#[]⟩, .int .i64 0, .bool true], .string s', .bool false]) (by simp [results, Tryz.results37, go_sem, pr0, pr1, pr2]) rfl ?_
  rw [HR.out]
  exact ⟨_, _, by rw [HNG.out]; rfl, Lib.hid rfl, Lib.hid (by rw [HRS.out]; exact HT.out), HL9⟩
set_option maxHeartbeats 8000000 in
theorem read11_dashB (s : ByteArray) (l : List UInt8) (w : World) (hl : s.data.toList = l) (hs : s.size ≤ 100000) (hd : l.head? = some 45) (hn : (rsD l).takeWhile Nm.isDig ≠ []) (hr : (rsD l).dropWhile Nm.isDig = []) :
    Calls Tryz.prog 37 #[.string s] w (RdRP (rdR l) w) := by
  obtain ⟨lt, hlt⟩ : ∃ lt, l.tail = lt := ⟨_, rfl⟩
  obtain ⟨s', hx⟩ : ∃ s', s.extract 1 s.size = s' := ⟨_, rfl⟩
  have ht' : s'.data.toList = lt := by rw [← hx, ext_one hl, hlt]
  have hll : l.length = s.size := by rw [← hl]; rfl
  have hsz : 0 < s.size := by rw [← hll]; cases l with
    | nil => cases hd
    | cons a l => exact Nat.succ_pos _
  have hb : s[0] = 45 := byte_at hl hsz (by rw [← List.head?_eq_getElem?]; exact hd)
  have hbn : (s[0].toNat : Int) = 45 := by rw [hb]; rfl
  have hbd : decide ((s[0].toNat : Int) = 45) = true := decide_eq_true hbn
  have d0 : decide ((0 : Int) < (s.size : Int)) = true := decide_eq_true (by omega)
  have d0' : decide (0 < s.size) = true := decide_eq_true hsz
  have hs2 : s'.size ≤ 100000 := by
    have : lt.length = s'.size := by rw [← ht']; rfl
    rw [← this, ← hlt, List.length_tail]; omega
  have HT := Lib.hid ht'
  have hrs : rsD l = lt := by unfold rsD ngD; rw [hd]; exact hlt
  have hng : ngD l = true := by unfold ngD; rw [hd]; rfl
  have HRS := Lib.hid hrs
  have HNG := Lib.hid hng
  have HL := Lib.hid hl
  clear hl hll hd hlt ht' hrs hng
  rw [HRS.out] at hn
  have HR0 := Lib.hid HRS.out
  obtain ⟨ds, hds⟩ : ∃ ds, lt.takeWhile Nm.isDig = ds := ⟨_, rfl⟩
  obtain ⟨rt, hrt⟩ : ∃ rt, lt.dropWhile Nm.isDig = rt := ⟨_, rfl⟩
  obtain ⟨N, hN⟩ : ∃ N, ds.length = N := ⟨_, rfl⟩
  have hsl : lt = ds ++ rt := by rw [← hds, ← hrt]; exact (List.takeWhile_append_dropWhile ..).symm
  have hN0 : 0 < N := by
    rw [← hN]
    rw [hds] at hn
    cases ds with
    | nil => exact absurd rfl hn
    | cons a l => exact Nat.succ_pos _
  have hNs : N ≤ s'.size := by
    have : lt.length = s'.size := by rw [← HT.out]; rfl
    rw [← this, hsl, List.length_append]; omega
  obtain ⟨s1, hx1⟩ : ∃ z, s'.extract 0 N = z := ⟨_, rfl⟩
  obtain ⟨s2, hx2⟩ : ∃ z, s'.extract N s'.size = z := ⟨_, rfl⟩
  have ht1 : s1.data.toList = ds := by rw [← hx1, ext_to, HT.out, hsl, ← hN, List.take_left]
  have ht2 : s2.data.toList = rt := by rw [← hx2, Lib.extract_to_end, HT.out, hsl, ← hN, List.drop_left]
  have hz2 : rt.length = s2.size := by rw [← ht2]; rfl
  have n0 : decide ((N : Int) = 0) = false := decide_eq_false (by omega)
  have n1 : ((N : Int) == 0) = false := by rw [beq_eq_false_iff_ne]; omega
  have b0 : (0 : Int) ≤ (N : Int) := by omega
  have b1 : (N : Int) ≤ (s'.size : Int) := by omega
  have HN := Lib.hid (show (lt.takeWhile Nm.isDig).length = N by rw [hds]; exact hN)
  have HS1 := Lib.hid ht1
  have HS2 := Lib.hid ht2
  have HR := Lib.hid (show rdR l = (⟨ds, 0, ngD l⟩, rt, true) by
    unfold rdR
    rw [HRS.out, if_neg hn, hrt, if_neg (by rw [← hrt, ← HRS.out, hr]; intro h; cases h), hds])
  rw [HRS.out, hrt] at hr
  subst hr
  have hz3 : s2.size = 0 := hz2.symm
  have d2 : decide ((0 : Int) < (s2.size : Int)) = false := decide_eq_false (by omega)
  have d2' : decide (0 < s2.size) = false := decide_eq_false (by omega)
  clear hn hds hrt hN hsl ht1 ht2 hz2 hz3
  go_enter Tryz.func37, Tryz.ntmps37
  go_wp2_with fail
  obtain ⟨w1, hw⟩ : ∃ z9 : World, z9 = ((w.alloc (.cells #[.string ⟨#[]⟩, .int .i64 0, .bool false] 64)).alloc (.cells #[.string ⟨#[]⟩, .int .i64 0, .bool true] 64)) := ⟨_, rfl⟩
  have HB1 := Lib.hid (show Below w.heap.size w w1 by rw [hw]; exact below_a2 _ _ _)
  have F1r := Lib.hid (show Blk w1 (w.heap.size) 64 #[.string ⟨#[]⟩, .int .i64 0, .bool false] by rw [hw]; exact (Blk.new _ _ _).alloc _)
  have F1d := Lib.hid (show Blk w1 (w.heap.size + 1) 64 #[.string ⟨#[]⟩, .int .i64 0, .bool true] by rw [hw]; exact Blk.new1 _ _ _ _)
  rw [← hw]
  clear hw
  refine (digits11 s' lt w1 HT.out hs2).mono ?_
  rw [HN.out]
  rintro e w2 ⟨rfl, HB2⟩
  have F2r := Lib.hid (F1r.out.belowW HB2.out)
  have F2d := Lib.hid (F1d.out.belowW HB2.out)
  have HL2 := Lib.hid (HB1.out.trans (HB2.out.mono HB1.out.size))
  obtain ⟨pr0, fr0, pr1, fr1, pr2, fr2⟩ := F2r.out.all3
  obtain ⟨pd0, fd0, pd1, fd1, pd2, fd2⟩ := F2d.out.all3
  go_wp2_with fail
  rw [cell0_3 F2d.out]
  have FR8 := Lib.hid (F2r.out.far (t' := 64) (by omega : w.heap.size ≠ w.heap.size + 1) #[.string s1, .int .i64 0, .bool true])
  have HL8 := Lib.hid (HL2.out.trans (putB_below w2 _ 64 #[.string s1, .int .i64 0, .bool true] (by omega : w.heap.size ≤ w.heap.size + 1)))
  rw [store3_put FR8.out]
  have FR9 := Lib.hid (FR8.out.put #[.string s1, .int .i64 0, .bool true])
  have HL9 := Lib.hid (HL8.out.trans (putB_below (putB w2 (w.heap.size + 1) 64 #[.string s1, .int .i64 0, .bool true]) _ 64 #[.string s1, .int .i64 0, .bool true] (Nat.le_refl _)))
  clear pr0 fr0 pr1 fr1 pr2 fr2 pd0 fd0 pd1 fd1 pd2 fd2
  obtain ⟨w9, hw⟩ : ∃ z9 : World, z9 = putB (putB w2 (w.heap.size + 1) 64 #[.string s1, .int .i64 0, .bool true]) (w.heap.size) 64 #[.string s1, .int .i64 0, .bool true] := ⟨_, rfl⟩
  rw [← hw] at FR9 HL9 ⊢
  clear hw
  have pr0 : (w9).cell? ⟨w.heap.size, 0, none⟩ = some (.string s1) := FR9.out.cell 0
  have pr1 : (w9).cell? ⟨w.heap.size, 1, none⟩ = some (.int .i64 0) := FR9.out.cell 1
  have pr2 : (w9).cell? ⟨w.heap.size, 2, none⟩ = some (.bool true) := FR9.out.cell 2
  refine bodyPost_ret (v := .tuple #[.agg #[.string s1, .int .i64 0, .bool true], .string s2, .bool true]) (by simp [results, Tryz.results37, go_sem, pr0, pr1, pr2]) rfl ?_
  rw [HR.out]
  exact ⟨_, _, by rw [HNG.out]; rfl, Lib.hid HS1.out, Lib.hid HS2.out, HL9⟩
set_option maxHeartbeats 8000000 in
theorem read11_dashC (s : ByteArray) (l : List UInt8) (w : World) (hl : s.data.toList = l) (hs : s.size ≤ 100000) (hd : l.head? = some 45) (q : UInt8) (hn : (rsD l).takeWhile Nm.isDig ≠ []) (hr : ((rsD l).dropWhile Nm.isDig).head? = some q) (hq : q ≠ 46) :
    Calls Tryz.prog 37 #[.string s] w (RdRP (rdR l) w) := by
  obtain ⟨lt, hlt⟩ : ∃ lt, l.tail = lt := ⟨_, rfl⟩
  obtain ⟨s', hx⟩ : ∃ s', s.extract 1 s.size = s' := ⟨_, rfl⟩
  have ht' : s'.data.toList = lt := by rw [← hx, ext_one hl, hlt]
  have hll : l.length = s.size := by rw [← hl]; rfl
  have hsz : 0 < s.size := by rw [← hll]; cases l with
    | nil => cases hd
    | cons a l => exact Nat.succ_pos _
  have hb : s[0] = 45 := byte_at hl hsz (by rw [← List.head?_eq_getElem?]; exact hd)
  have hbn : (s[0].toNat : Int) = 45 := by rw [hb]; rfl
  have hbd : decide ((s[0].toNat : Int) = 45) = true := decide_eq_true hbn
  have d0 : decide ((0 : Int) < (s.size : Int)) = true := decide_eq_true (by omega)
  have d0' : decide (0 < s.size) = true := decide_eq_true hsz
  have hs2 : s'.size ≤ 100000 := by
    have : lt.length = s'.size := by rw [← ht']; rfl
    rw [← this, ← hlt, List.length_tail]; omega
  have HT := Lib.hid ht'
  have hrs : rsD l = lt := by unfold rsD ngD; rw [hd]; exact hlt
  have hng : ngD l = true := by unfold ngD; rw [hd]; rfl
  have HRS := Lib.hid hrs
  have HNG := Lib.hid hng
  have HL := Lib.hid hl
  clear hl hll hd hlt ht' hrs hng
  rw [HRS.out] at hn
  have HR0 := Lib.hid HRS.out
  obtain ⟨ds, hds⟩ : ∃ ds, lt.takeWhile Nm.isDig = ds := ⟨_, rfl⟩
  obtain ⟨rt, hrt⟩ : ∃ rt, lt.dropWhile Nm.isDig = rt := ⟨_, rfl⟩
  obtain ⟨N, hN⟩ : ∃ N, ds.length = N := ⟨_, rfl⟩
  have hsl : lt = ds ++ rt := by rw [← hds, ← hrt]; exact (List.takeWhile_append_dropWhile ..).symm
  have hN0 : 0 < N := by
    rw [← hN]
    rw [hds] at hn
    cases ds with
    | nil => exact absurd rfl hn
    | cons a l => exact Nat.succ_pos _
  have hNs : N ≤ s'.size := by
    have : lt.length = s'.size := by rw [← HT.out]; rfl
    rw [← this, hsl, List.length_append]; omega
  obtain ⟨s1, hx1⟩ : ∃ z, s'.extract 0 N = z := ⟨_, rfl⟩
  obtain ⟨s2, hx2⟩ : ∃ z, s'.extract N s'.size = z := ⟨_, rfl⟩
  have ht1 : s1.data.toList = ds := by rw [← hx1, ext_to, HT.out, hsl, ← hN, List.take_left]
  have ht2 : s2.data.toList = rt := by rw [← hx2, Lib.extract_to_end, HT.out, hsl, ← hN, List.drop_left]
  have hz2 : rt.length = s2.size := by rw [← ht2]; rfl
  have n0 : decide ((N : Int) = 0) = false := decide_eq_false (by omega)
  have n1 : ((N : Int) == 0) = false := by rw [beq_eq_false_iff_ne]; omega
  have b0 : (0 : Int) ≤ (N : Int) := by omega
  have b1 : (N : Int) ≤ (s'.size : Int) := by omega
  have HN := Lib.hid (show (lt.takeWhile Nm.isDig).length = N by rw [hds]; exact hN)
  have HS1 := Lib.hid ht1
  have HS2 := Lib.hid ht2
  have HR := Lib.hid (show rdR l = (⟨ds, 0, ngD l⟩, rt, true) by
    unfold rdR
    rw [HRS.out, if_neg hn, hrt, if_neg (by rw [← hrt, ← HRS.out, hr]; intro h; injection h with h; exact hq h), hds])
  rw [HRS.out, hrt] at hr
  have hz3 : 0 < s2.size := by rw [← hz2]; cases rt with
    | nil => cases hr
    | cons a l => exact Nat.succ_pos _
  have d2 : decide ((0 : Int) < (s2.size : Int)) = true := decide_eq_true (by omega)
  have d2' : decide (0 < s2.size) = true := decide_eq_true (by omega)
  have hb2 : s2[0] = q := byte_at ht2 hz3 (by rw [← List.head?_eq_getElem?]; exact hr)
  have hbn2 : (q.toNat : Int) ≠ 46 := by
    intro e
    exact hq (UInt8.toNat_inj.1 (Int.ofNat.inj e))
  have hbd2 : decide ((q.toNat : Int) = 46) = false := decide_eq_false hbn2
  have hbe2 : ((q.toNat : Int) == 46) = false := by rw [beq_eq_false_iff_ne]; exact hbn2
  clear hn hds hrt hN hsl ht1 ht2 hz2 hr hbn2
  go_enter Tryz.func37, Tryz.ntmps37
  go_wp2_with fail
  obtain ⟨w1, hw⟩ : ∃ z9 : World, z9 = ((w.alloc (.cells #[.string ⟨#[]⟩, .int .i64 0, .bool false] 64)).alloc (.cells #[.string ⟨#[]⟩, .int .i64 0, .bool true] 64)) := ⟨_, rfl⟩
  have HB1 := Lib.hid (show Below w.heap.size w w1 by rw [hw]; exact below_a2 _ _ _)
  have F1r := Lib.hid (show Blk w1 (w.heap.size) 64 #[.string ⟨#[]⟩, .int .i64 0, .bool false] by rw [hw]; exact (Blk.new _ _ _).alloc _)
  have F1d := Lib.hid (show Blk w1 (w.heap.size + 1) 64 #[.string ⟨#[]⟩, .int .i64 0, .bool true] by rw [hw]; exact Blk.new1 _ _ _ _)
  rw [← hw]
  clear hw
  refine (digits11 s' lt w1 HT.out hs2).mono ?_
  rw [HN.out]
  rintro e w2 ⟨rfl, HB2⟩
  have F2r := Lib.hid (F1r.out.belowW HB2.out)
  have F2d := Lib.hid (F1d.out.belowW HB2.out)
  have HL2 := Lib.hid (HB1.out.trans (HB2.out.mono HB1.out.size))
  obtain ⟨pr0, fr0, pr1, fr1, pr2, fr2⟩ := F2r.out.all3
  obtain ⟨pd0, fd0, pd1, fd1, pd2, fd2⟩ := F2d.out.all3
  go_wp2_with fail
  rw [cell0_3 F2d.out]
  have FR8 := Lib.hid (F2r.out.far (t' := 64) (by omega : w.heap.size ≠ w.heap.size + 1) #[.string s1, .int .i64 0, .bool true])
  have HL8 := Lib.hid (HL2.out.trans (putB_below w2 _ 64 #[.string s1, .int .i64 0, .bool true] (by omega : w.heap.size ≤ w.heap.size + 1)))
  rw [store3_put FR8.out]
  have FR9 := Lib.hid (FR8.out.put #[.string s1, .int .i64 0, .bool true])
  have HL9 := Lib.hid (HL8.out.trans (putB_below (putB w2 (w.heap.size + 1) 64 #[.string s1, .int .i64 0, .bool true]) _ 64 #[.string s1, .int .i64 0, .bool true] (Nat.le_refl _)))
  clear pr0 fr0 pr1 fr1 pr2 fr2 pd0 fd0 pd1 fd1 pd2 fd2
  obtain ⟨w9, hw⟩ : ∃ z9 : World, z9 = putB (putB w2 (w.heap.size + 1) 64 #[.string s1, .int .i64 0, .bool true]) (w.heap.size) 64 #[.string s1, .int .i64 0, .bool true] := ⟨_, rfl⟩
  rw [← hw] at FR9 HL9 ⊢
  clear hw
  have pr0 : (w9).cell? ⟨w.heap.size, 0, none⟩ = some (.string s1) := FR9.out.cell 0
  have pr1 : (w9).cell? ⟨w.heap.size, 1, none⟩ = some (.int .i64 0) := FR9.out.cell 1
  have pr2 : (w9).cell? ⟨w.heap.size, 2, none⟩ = some (.bool true) := FR9.out.cell 2
  refine bodyPost_ret (v := .tuple #[.agg #[.string s1, .int .i64 0, .bool true], .string s2, .bool true]) (by simp [results, Tryz.results37, go_sem, pr0, pr1, pr2]) rfl ?_
  rw [HR.out]
  exact ⟨_, _, by rw [HNG.out]; rfl, Lib.hid HS1.out, Lib.hid HS2.out, HL9⟩
set_option maxHeartbeats 8000000 in
theorem read11_dashD (s : ByteArray) (l : List UInt8) (w : World) (hl : s.data.toList = l) (hs : s.size ≤ 100000) (hd : l.head? = some 45) (r3 : List UInt8) (hn : (rsD l).takeWhile Nm.isDig ≠ []) (hr : (rsD l).dropWhile Nm.isDig = 46 :: r3) (hk : r3.takeWhile Nm.isDig = []) :
    Calls Tryz.prog 37 #[.string s] w (RdRP (rdR l) w) := by
  obtain ⟨lt, hlt⟩ : ∃ lt, l.tail = lt := ⟨_, rfl⟩
  obtain ⟨s', hx⟩ : ∃ s', s.extract 1 s.size = s' := ⟨_, rfl⟩
  have ht' : s'.data.toList = lt := by rw [← hx, ext_one hl, hlt]
  have hll : l.length = s.size := by rw [← hl]; rfl
  have hsz : 0 < s.size := by rw [← hll]; cases l with
    | nil => cases hd
    | cons a l => exact Nat.succ_pos _
  have hb : s[0] = 45 := byte_at hl hsz (by rw [← List.head?_eq_getElem?]; exact hd)
  have hbn : (s[0].toNat : Int) = 45 := by rw [hb]; rfl
  have hbd : decide ((s[0].toNat : Int) = 45) = true := decide_eq_true hbn
  have d0 : decide ((0 : Int) < (s.size : Int)) = true := decide_eq_true (by omega)
  have d0' : decide (0 < s.size) = true := decide_eq_true hsz
  have hs2 : s'.size ≤ 100000 := by
    have : lt.length = s'.size := by rw [← ht']; rfl
    rw [← this, ← hlt, List.length_tail]; omega
  have HT := Lib.hid ht'
  have hrs : rsD l = lt := by unfold rsD ngD; rw [hd]; exact hlt
  have hng : ngD l = true := by unfold ngD; rw [hd]; rfl
  have HRS := Lib.hid hrs
  have HNG := Lib.hid hng
  have HL := Lib.hid hl
  clear hl hll hd hlt ht' hrs hng
  rw [HRS.out] at hn
  have HR0 := Lib.hid HRS.out
  obtain ⟨ds, hds⟩ : ∃ ds, lt.takeWhile Nm.isDig = ds := ⟨_, rfl⟩
  obtain ⟨rt, hrt⟩ : ∃ rt, lt.dropWhile Nm.isDig = rt := ⟨_, rfl⟩
  obtain ⟨N, hN⟩ : ∃ N, ds.length = N := ⟨_, rfl⟩
  have hsl : lt = ds ++ rt := by rw [← hds, ← hrt]; exact (List.takeWhile_append_dropWhile ..).symm
  have hN0 : 0 < N := by
    rw [← hN]
    rw [hds] at hn
    cases ds with
    | nil => exact absurd rfl hn
    | cons a l => exact Nat.succ_pos _
  have hNs : N ≤ s'.size := by
    have : lt.length = s'.size := by rw [← HT.out]; rfl
    rw [← this, hsl, List.length_append]; omega
  obtain ⟨s1, hx1⟩ : ∃ z, s'.extract 0 N = z := ⟨_, rfl⟩
  obtain ⟨s2, hx2⟩ : ∃ z, s'.extract N s'.size = z := ⟨_, rfl⟩
  have ht1 : s1.data.toList = ds := by rw [← hx1, ext_to, HT.out, hsl, ← hN, List.take_left]
  have ht2 : s2.data.toList = rt := by rw [← hx2, Lib.extract_to_end, HT.out, hsl, ← hN, List.drop_left]
  have hz2 : rt.length = s2.size := by rw [← ht2]; rfl
  have n0 : decide ((N : Int) = 0) = false := decide_eq_false (by omega)
  have n1 : ((N : Int) == 0) = false := by rw [beq_eq_false_iff_ne]; omega
  have b0 : (0 : Int) ≤ (N : Int) := by omega
  have b1 : (N : Int) ≤ (s'.size : Int) := by omega
  have HN := Lib.hid (show (lt.takeWhile Nm.isDig).length = N by rw [hds]; exact hN)
  have HS1 := Lib.hid ht1
  have HS2 := Lib.hid ht2
  rw [HRS.out, hrt] at hr
  have hz3 : 0 < s2.size := by rw [← hz2, hr]; exact Nat.succ_pos _
  have d2 : decide ((0 : Int) < (s2.size : Int)) = true := decide_eq_true (by omega)
  have d2' : decide (0 < s2.size) = true := decide_eq_true (by omega)
  have hb2 : s2[0] = 46 := byte_at ht2 hz3 (by rw [hr]; rfl)
  obtain ⟨s3, hx3⟩ : ∃ z, s2.extract 1 s2.size = z := ⟨_, rfl⟩
  have ht3 : s3.data.toList = r3 := by rw [← hx3, ext_one ht2, hr]; rfl
  have hsz2 : s2.size ≤ s'.size := by
    have : lt.length = s'.size := by rw [← HT.out]; rfl
    rw [← this, ← hz2, hsl, List.length_append]; omega
  have hs3 : s3.size ≤ 100000 := by
    have : r3.length = s3.size := by rw [← ht3]; rfl
    have h2 : rt.length = r3.length + 1 := by rw [hr]; rfl
    omega
  have HS3 := Lib.hid ht3
  have HR := Lib.hid (show rdR l = (⟨ds, 0, ngD l⟩, rt, false) by
    unfold rdR
    rw [HRS.out, if_neg hn, hrt, hr, if_pos (show (46 :: r3 : List UInt8).head? = some 46 from rfl), if_pos (show (46 :: r3 : List UInt8).tail.takeWhile Nm.isDig = [] from hk), hds])
  have HK := Lib.hid (show (r3.takeWhile Nm.isDig).length = 0 by rw [hk]; rfl)
  clear hn hds hrt hN hsl ht1 ht2 hz2 hr hk
  go_enter Tryz.func37, Tryz.ntmps37
  go_wp2_with fail
  obtain ⟨w1, hw⟩ : ∃ z9 : World, z9 = ((w.alloc (.cells #[.string ⟨#[]⟩, .int .i64 0, .bool false] 64)).alloc (.cells #[.string ⟨#[]⟩, .int .i64 0, .bool true] 64)) := ⟨_, rfl⟩
  have HB1 := Lib.hid (show Below w.heap.size w w1 by rw [hw]; exact below_a2 _ _ _)
  have F1r := Lib.hid (show Blk w1 (w.heap.size) 64 #[.string ⟨#[]⟩, .int .i64 0, .bool false] by rw [hw]; exact (Blk.new _ _ _).alloc _)
  have F1d := Lib.hid (show Blk w1 (w.heap.size + 1) 64 #[.string ⟨#[]⟩, .int .i64 0, .bool true] by rw [hw]; exact Blk.new1 _ _ _ _)
  rw [← hw]
  clear hw
  refine (digits11 s' lt w1 HT.out hs2).mono ?_
  rw [HN.out]
  rintro e w2 ⟨rfl, HB2⟩
  have F2r := Lib.hid (F1r.out.belowW HB2.out)
  have F2d := Lib.hid (F1d.out.belowW HB2.out)
  have HL2 := Lib.hid (HB1.out.trans (HB2.out.mono HB1.out.size))
  obtain ⟨pr0, fr0, pr1, fr1, pr2, fr2⟩ := F2r.out.all3
  obtain ⟨pd0, fd0, pd1, fd1, pd2, fd2⟩ := F2d.out.all3
  go_wp2_with fail
  rw [cell0_3 F2d.out]
  have HB8 := Lib.hid (putB_below (B := w.heap.size) w2 (w.heap.size + 1) 64 #[.string s1, .int .i64 0, .bool true] (by omega))
  have F8r := Lib.hid (F2r.out.far (t' := 64) (by omega : w.heap.size ≠ w.heap.size + 1) #[.string s1, .int .i64 0, .bool true])
  have F8d := Lib.hid (F2d.out.put #[.string s1, .int .i64 0, .bool true])
  have HL8 := Lib.hid (HL2.out.trans HB8.out)
  clear pr0 fr0 pr1 fr1 pr2 fr2 pd0 fd0 pd1 fd1 pd2 fd2
  obtain ⟨w8, hw⟩ : ∃ z9 : World, z9 = putB w2 (w.heap.size + 1) 64 #[.string s1, .int .i64 0, .bool true] := ⟨_, rfl⟩
  rw [← hw] at F8r F8d HL8 HB8 ⊢
  clear hw
  refine (digits11 s3 r3 w8 HS3.out hs3).mono ?_
  rw [HK.out]
  rintro e w3 ⟨rfl, HB3⟩
  have F3r := Lib.hid (F8r.out.belowW HB3.out)
  have F3d := Lib.hid (F8d.out.belowW HB3.out)
  have HL3 := Lib.hid (HL8.out.trans (HB3.out.mono HL8.out.size))
  obtain ⟨pr0, fr0, pr1, fr1, pr2, fr2⟩ := F3r.out.all3
  obtain ⟨pd0, fd0, pd1, fd1, pd2, fd2⟩ := F3d.out.all3
  go_wp2_with fail
  rw [store3_put F3r.out]
  have FR9 := Lib.hid (F3r.out.put #[.string s1, .int .i64 0, .bool true])
  have HL9 := Lib.hid (HL3.out.trans (putB_below w3 _ 64 #[.string s1, .int .i64 0, .bool true] (Nat.le_refl _)))
  clear pr0 fr0 pr1 fr1 pr2 fr2 pd0 fd0 pd1 fd1 pd2 fd2
  obtain ⟨w9, hw⟩ : ∃ z9 : World, z9 = putB w3 (w.heap.size) 64 #[.string s1, .int .i64 0, .bool true] := ⟨_, rfl⟩
  rw [← hw] at FR9 HL9 ⊢
  clear hw
  have pr0 : (w9).cell? ⟨w.heap.size, 0, none⟩ = some (.string s1) := FR9.out.cell 0
  have pr1 : (w9).cell? ⟨w.heap.size, 1, none⟩ = some (.int .i64 0) := FR9.out.cell 1
  have pr2 : (w9).cell? ⟨w.heap.size, 2, none⟩ = some (.bool true) := FR9.out.cell 2
  refine bodyPost_ret (v := .tuple #[.agg #[.string s1, .int .i64 0, .bool true], .string s2, .bool false]) (by simp [results, Tryz.results37, go_sem, pr0, pr1, pr2]) rfl ?_
  rw [HR.out]
  exact ⟨_, _, by rw [HNG.out]; rfl, Lib.hid HS1.out, Lib.hid HS2.out, HL9⟩
set_option maxHeartbeats 8000000 in
theorem read11_dashE (s : ByteArray) (l : List UInt8) (w : World) (hl : s.data.toList = l) (hs : s.size ≤ 100000) (hd : l.head? = some 45) (r3 : List UInt8) (hn : (rsD l).takeWhile Nm.isDig ≠ []) (hr : (rsD l).dropWhile Nm.isDig = 46 :: r3) (hk : r3.takeWhile Nm.isDig ≠ []) :
    Calls Tryz.prog 37 #[.string s] w (RdRP (rdR l) w) := by
  obtain ⟨lt, hlt⟩ : ∃ lt, l.tail = lt := ⟨_, rfl⟩
  obtain ⟨s', hx⟩ : ∃ s', s.extract 1 s.size = s' := ⟨_, rfl⟩
  have ht' : s'.data.toList = lt := by rw [← hx, ext_one hl, hlt]
  have hll : l.length = s.size := by rw [← hl]; rfl
  have hsz : 0 < s.size := by rw [← hll]; cases l with
    | nil => cases hd
    | cons a l => exact Nat.succ_pos _
  have hb : s[0] = 45 := byte_at hl hsz (by rw [← List.head?_eq_getElem?]; exact hd)
  have hbn : (s[0].toNat : Int) = 45 := by rw [hb]; rfl
  have hbd : decide ((s[0].toNat : Int) = 45) = true := decide_eq_true hbn
  have d0 : decide ((0 : Int) < (s.size : Int)) = true := decide_eq_true (by omega)
  have d0' : decide (0 < s.size) = true := decide_eq_true hsz
  have hs2 : s'.size ≤ 100000 := by
    have : lt.length = s'.size := by rw [← ht']; rfl
    rw [← this, ← hlt, List.length_tail]; omega
  have HT := Lib.hid ht'
  have hrs : rsD l = lt := by unfold rsD ngD; rw [hd]; exact hlt
  have hng : ngD l = true := by unfold ngD; rw [hd]; rfl
  have HRS := Lib.hid hrs
  have HNG := Lib.hid hng
  have HL := Lib.hid hl
  clear hl hll hd hlt ht' hrs hng
  rw [HRS.out] at hn
  have HR0 := Lib.hid HRS.out
  obtain ⟨ds, hds⟩ : ∃ ds, lt.takeWhile Nm.isDig = ds := ⟨_, rfl⟩
  obtain ⟨rt, hrt⟩ : ∃ rt, lt.dropWhile Nm.isDig = rt := ⟨_, rfl⟩
  obtain ⟨N, hN⟩ : ∃ N, ds.length = N := ⟨_, rfl⟩
  have hsl : lt = ds ++ rt := by rw [← hds, ← hrt]; exact (List.takeWhile_append_dropWhile ..).symm
  have hN0 : 0 < N := by
    rw [← hN]
    rw [hds] at hn
    cases ds with
    | nil => exact absurd rfl hn
    | cons a l => exact Nat.succ_pos _
  have hNs : N ≤ s'.size := by
    have : lt.length = s'.size := by rw [← HT.out]; rfl
    rw [← this, hsl, List.length_append]; omega
  obtain ⟨s1, hx1⟩ : ∃ z, s'.extract 0 N = z := ⟨_, rfl⟩
  obtain ⟨s2, hx2⟩ : ∃ z, s'.extract N s'.size = z := ⟨_, rfl⟩
  have ht1 : s1.data.toList = ds := by rw [← hx1, ext_to, HT.out, hsl, ← hN, List.take_left]
  have ht2 : s2.data.toList = rt := by rw [← hx2, Lib.extract_to_end, HT.out, hsl, ← hN, List.drop_left]
  have hz2 : rt.length = s2.size := by rw [← ht2]; rfl
  have n0 : decide ((N : Int) = 0) = false := decide_eq_false (by omega)
  have n1 : ((N : Int) == 0) = false := by rw [beq_eq_false_iff_ne]; omega
  have b0 : (0 : Int) ≤ (N : Int) := by omega
  have b1 : (N : Int) ≤ (s'.size : Int) := by omega
  have HN := Lib.hid (show (lt.takeWhile Nm.isDig).length = N by rw [hds]; exact hN)
  have HS1 := Lib.hid ht1
  have HS2 := Lib.hid ht2
  rw [HRS.out, hrt] at hr
  have hz3 : 0 < s2.size := by rw [← hz2, hr]; exact Nat.succ_pos _
  have d2 : decide ((0 : Int) < (s2.size : Int)) = true := decide_eq_true (by omega)
  have d2' : decide (0 < s2.size) = true := decide_eq_true (by omega)
  have hb2 : s2[0] = 46 := byte_at ht2 hz3 (by rw [hr]; rfl)
  obtain ⟨s3, hx3⟩ : ∃ z, s2.extract 1 s2.size = z := ⟨_, rfl⟩
  have ht3 : s3.data.toList = r3 := by rw [← hx3, ext_one ht2, hr]; rfl
  have hsz2 : s2.size ≤ s'.size := by
    have : lt.length = s'.size := by rw [← HT.out]; rfl
    rw [← this, ← hz2, hsl, List.length_append]; omega
  have hs3 : s3.size ≤ 100000 := by
    have : r3.length = s3.size := by rw [← ht3]; rfl
    have h2 : rt.length = r3.length + 1 := by rw [hr]; rfl
    omega
  have HS3 := Lib.hid ht3
  obtain ⟨es, hes⟩ : ∃ es, r3.takeWhile Nm.isDig = es := ⟨_, rfl⟩
  obtain ⟨r4, hr4⟩ : ∃ rt, r3.dropWhile Nm.isDig = rt := ⟨_, rfl⟩
  obtain ⟨K, hK⟩ : ∃ N, es.length = N := ⟨_, rfl⟩
  have hsl3 : r3 = es ++ r4 := by rw [← hes, ← hr4]; exact (List.takeWhile_append_dropWhile ..).symm
  have hK0 : 0 < K := by
    rw [← hK]
    rw [hes] at hk
    cases es with
    | nil => exact absurd rfl hk
    | cons a l => exact Nat.succ_pos _
  have hKs : 1 + K ≤ s2.size := by
    rw [← hz2, hr, hsl3, List.length_cons, List.length_append]; omega
  obtain ⟨s4, hx4⟩ : ∃ z, s2.extract 1 (1 + K) = z := ⟨_, rfl⟩
  obtain ⟨s5, hx5⟩ : ∃ z, s2.extract (1 + K) s2.size = z := ⟨_, rfl⟩
  have ht4 : s4.data.toList = es := by
    rw [← hx4, ByteArray.data_extract, Array.toList_extract, List.extract_eq_take_drop, ht2, hr, hsl3, Nat.add_sub_cancel_left, ← hK]
    exact List.take_left
  have ht5 : s5.data.toList = r4 := by
    rw [← hx5, Lib.extract_to_end, ht2, hr, hsl3, Nat.add_comm 1 K, List.drop_succ_cons, ← hK, List.drop_left]
  have k0 : decide ((K : Int) = 0) = false := decide_eq_false (by omega)
  have k1 : ((K : Int) == 0) = false := by rw [beq_eq_false_iff_ne]; omega
  have k2 : (0 : Int) ≤ 1 + (K : Int) := by omega
  have k3 : 1 + (K : Int) ≤ (s2.size : Int) := by omega
  have k4 : (1 : Int) ≤ 1 + (K : Int) := by omega
  have k5 : IntKind.i64.wrap (1 + (K : Int)) = 1 + (K : Int) := IntWalk.i64_in _ (by omega)
  have k6 : (1 + (K : Int)).toNat = 1 + K := by omega
  have hsum : ¬ 9223372036854775807 < s1.size + s4.size := by
    have a1 : ds.length = s1.size := by rw [← ht1]; rfl
    have a2 : es.length = s4.size := by rw [← ht4]; rfl
    omega
  have HK := Lib.hid (show (r3.takeWhile Nm.isDig).length = K by rw [hes]; exact hK)
  have HS4 := Lib.hid ht4
  have HS5 := Lib.hid ht5
  have HR := Lib.hid (show rdR l = (⟨ds ++ es, K, ngD l⟩, r4, true) by
    unfold rdR
    rw [HRS.out, if_neg hn, hrt, hr, if_pos (show (46 :: r3 : List UInt8).head? = some 46 from rfl), if_neg (show (46 :: r3 : List UInt8).tail.takeWhile Nm.isDig ≠ [] from hk), hds, show (46 :: r3 : List UInt8).tail = r3 from rfl, hes, hr4, hK])
  clear hn hds hrt hN hsl ht1 ht2 hz2 hr hk hes hr4 hK ht4 ht5 hsl3
  go_enter Tryz.func37, Tryz.ntmps37
  go_wp2_with fail
  obtain ⟨w1, hw⟩ : ∃ z9 : World, z9 = ((w.alloc (.cells #[.string ⟨#[]⟩, .int .i64 0, .bool false] 64)).alloc (.cells #[.string ⟨#[]⟩, .int .i64 0, .bool true] 64)) := ⟨_, rfl⟩
  have HB1 := Lib.hid (show Below w.heap.size w w1 by rw [hw]; exact below_a2 _ _ _)
  have F1r := Lib.hid (show Blk w1 (w.heap.size) 64 #[.string ⟨#[]⟩, .int .i64 0, .bool false] by rw [hw]; exact (Blk.new _ _ _).alloc _)
  have F1d := Lib.hid (show Blk w1 (w.heap.size + 1) 64 #[.string ⟨#[]⟩, .int .i64 0, .bool true] by rw [hw]; exact Blk.new1 _ _ _ _)
  rw [← hw]
  clear hw
  refine (digits11 s' lt w1 HT.out hs2).mono ?_
  rw [HN.out]
  rintro e w2 ⟨rfl, HB2⟩
  have F2r := Lib.hid (F1r.out.belowW HB2.out)
  have F2d := Lib.hid (F1d.out.belowW HB2.out)
  have HL2 := Lib.hid (HB1.out.trans (HB2.out.mono HB1.out.size))
  obtain ⟨pr0, fr0, pr1, fr1, pr2, fr2⟩ := F2r.out.all3
  obtain ⟨pd0, fd0, pd1, fd1, pd2, fd2⟩ := F2d.out.all3
  go_wp2_with fail
  rw [cell0_3 F2d.out]
  have HB8 := Lib.hid (putB_below (B := w.heap.size) w2 (w.heap.size + 1) 64 #[.string s1, .int .i64 0, .bool true] (by omega))
  have F8r := Lib.hid (F2r.out.far (t' := 64) (by omega : w.heap.size ≠ w.heap.size + 1) #[.string s1, .int .i64 0, .bool true])
  have F8d := Lib.hid (F2d.out.put #[.string s1, .int .i64 0, .bool true])
  have HL8 := Lib.hid (HL2.out.trans HB8.out)
  clear pr0 fr0 pr1 fr1 pr2 fr2 pd0 fd0 pd1 fd1 pd2 fd2
  obtain ⟨w8, hw⟩ : ∃ z9 : World, z9 = putB w2 (w.heap.size + 1) 64 #[.string s1, .int .i64 0, .bool true] := ⟨_, rfl⟩
  rw [← hw] at F8r F8d HL8 HB8 ⊢
  clear hw
  refine (digits11 s3 r3 w8 HS3.out hs3).mono ?_
  rw [HK.out]
  rintro e w3 ⟨rfl, HB3⟩
  have F3r := Lib.hid (F8r.out.belowW HB3.out)
  have F3d := Lib.hid (F8d.out.belowW HB3.out)
  have HL3 := Lib.hid (HL8.out.trans (HB3.out.mono HL8.out.size))
  obtain ⟨pr0, fr0, pr1, fr1, pr2, fr2⟩ := F3r.out.all3
  obtain ⟨pd0, fd0, pd1, fd1, pd2, fd2⟩ := F3d.out.all3
  go_wp2_with fail
  clear pr0 fr0 pr1 fr1 pr2 fr2 pd0 fd0 pd1 fd1 pd2 fd2
  have HR4 := Lib.hid (below_dr w3)
  have R4r := Lib.hid (F3r.out.belowW HR4.out)
  have R4d := Lib.hid (F3d.out.belowW HR4.out)
  refine wp_region_held_drew (S := fun w' => True) (by kernel_rfl) ?_ (fun hHeld => ?_)
  case refine_1 => trivial
  refine wpAnyH_take (i := 0) (oi := _) (v := ?_) rfl (by kernel_rfl) (by kernel_rfl) (by kernel_rfl) (fun _ _ _ h => h) (Or.inl ⟨by rfl, ?_⟩) (by assumption) ?_
  case refine_2 =>
    intro w9 hSw
    (try dsimp only at hSw)
    go_simp
    (try with_reducible rfl)
  try simp only [Act.put, List.setIfInBounds_toArray, List.set_cons_zero, List.set_cons_succ, List.getElem_toArray, List.getElem_cons_zero]
  refine wpAnyH_take (i := 2) (oi := _) (v := ?_) rfl (by kernel_rfl) (by kernel_rfl) (by kernel_rfl) (fun _ _ _ h => h) (Or.inl ⟨by rfl, ?_⟩) (by assumption) ?_
  case refine_2 =>
    intro w9 hSw
    (try dsimp only at hSw)
    go_simp
    (try with_reducible rfl)
  try simp only [Act.put, List.setIfInBounds_toArray, List.set_cons_zero, List.set_cons_succ, List.getElem_toArray, List.getElem_cons_zero, List.getElem_cons_succ]
  refine wpAnyH_take (i := 3) (oi := _) (v := ?_) rfl (by kernel_rfl) (by kernel_rfl) (by kernel_rfl) (fun _ _ _ h => h) (Or.inl ⟨by rfl, ?_⟩) (by assumption) ?_
  case refine_2 =>
    intro w9 hSw
    (try dsimp only at hSw)
    go_simp
    (try with_reducible rfl)
  try simp only [Act.put, List.setIfInBounds_toArray, List.set_cons_zero, List.set_cons_succ, List.getElem_toArray, List.getElem_cons_zero, List.getElem_cons_succ]
  refine wpAnyH_take (i := 4) (oi := _) (v := ?_) rfl (by kernel_rfl) (by kernel_rfl) (by kernel_rfl) (fun _ _ _ h => h) (Or.inl ⟨by rfl, ?_⟩) (by assumption) ?_
  case refine_2 =>
    intro w9 hSw
    (try dsimp only at hSw)
    go_simp
    (try with_reducible rfl)
  try simp only [Act.put, List.setIfInBounds_toArray, List.set_cons_zero, List.set_cons_succ, List.getElem_toArray, List.getElem_cons_zero, List.getElem_cons_succ]
  refine wpAnyH_take (i := 5) (oi := _) (v := ?_) rfl (by kernel_rfl) (by kernel_rfl) (by kernel_rfl) (fun _ _ _ h => h) (Or.inl ⟨by rfl, ?_⟩) (by assumption) ?_
  case refine_2 =>
    intro w9 hSw
    (try dsimp only at hSw)
    go_simp
    (try with_reducible rfl)
  try simp only [Act.put, List.setIfInBounds_toArray, List.set_cons_zero, List.set_cons_succ, List.getElem_toArray, List.getElem_cons_zero, List.getElem_cons_succ]
  refine wpAnyH_ready (rs := [1]) (by kernel_rfl) (by simp) ?_
  refine AllReadyH.cons rfl (fun K hK => ?_) AllReadyH.nil
  have pd0 : (w3.drew).cell? ⟨w.heap.size + 1, 0, none⟩ = some (.string s1) := R4d.out.cell 0
  have pd1 : (w3.drew).cell? ⟨w.heap.size + 1, 1, none⟩ = some (.int .i64 0) := R4d.out.cell 1
  have pd2 : (w3.drew).cell? ⟨w.heap.size + 1, 2, none⟩ = some (.bool true) := R4d.out.cell 2
  go_simp
  clear pd0 pd1 pd2
  refine hK.out _ _ ?_ (fun hHeld => ?_)
  case refine_1 => trivial
  clear hK K
  try simp only [List.setIfInBounds_toArray, List.set_cons_zero, List.set_cons_succ]
  refine wpAnyH_take (i := 6) (oi := _) (v := ?_) rfl (by kernel_rfl) (by kernel_rfl) (by kernel_rfl) (fun _ _ _ h => h) (Or.inl ⟨by rfl, ?_⟩) (by assumption) ?_
  case refine_2 =>
    intro w9 hSw
    (try dsimp only at hSw)
    go_simp
    (try with_reducible rfl)
  try simp only [Act.put, List.setIfInBounds_toArray, List.set_cons_zero, List.set_cons_succ, List.getElem_toArray, List.getElem_cons_zero, List.getElem_cons_succ]
  refine wpAnyH_take (i := 7) (oi := _) (v := ?_) rfl (by kernel_rfl) (by kernel_rfl) (by kernel_rfl) (fun _ _ _ h => h) (Or.inl ⟨by rfl, ?_⟩) (by assumption) ?_
  case refine_2 =>
    intro w9 hSw
    (try dsimp only at hSw)
    go_simp
    (try with_reducible rfl)
  try simp only [Act.put, List.setIfInBounds_toArray, List.set_cons_zero, List.set_cons_succ, List.getElem_toArray, List.getElem_cons_zero, List.getElem_cons_succ]
  refine wpAnyH_ready (rs := [8]) (by kernel_rfl) (by simp) ?_
  refine AllReadyH.cons rfl (fun K hK => ?_) AllReadyH.nil
  have pd0 : (w3.drew).cell? ⟨w.heap.size + 1, 0, none⟩ = some (.string s1) := R4d.out.cell 0
  have fd0 : (w3.drew).frozen? ⟨w.heap.size + 1, 0, none⟩ = false := R4d.out.frozen 0
  have pd1 : (w3.drew).cell? ⟨w.heap.size + 1, 1, none⟩ = some (.int .i64 0) := R4d.out.cell 1
  have fd1 : (w3.drew).frozen? ⟨w.heap.size + 1, 1, none⟩ = false := R4d.out.frozen 1
  have pd2 : (w3.drew).cell? ⟨w.heap.size + 1, 2, none⟩ = some (.bool true) := R4d.out.cell 2
  have fd2 : (w3.drew).frozen? ⟨w.heap.size + 1, 2, none⟩ = false := R4d.out.frozen 2
  go_simp
  rw [cell0_3d R4d.out]
  have SR9 := Lib.hid (R4d.out.put #[.string (s1 ++ s4), .int .i64 0, .bool true])
  have SL8 := Lib.hid (HL3.out.trans (HR4.out.mono HL3.out.size))
  have SL9 := Lib.hid (SL8.out.trans (putB_below w3.drew _ 64 #[.string (s1 ++ s4), .int .i64 0, .bool true] (by omega : w.heap.size ≤ w.heap.size + 1)))
  have SO9r := Lib.hid (R4r.out.far (t' := 64) (by omega : w.heap.size ≠ w.heap.size + 1) #[.string (s1 ++ s4), .int .i64 0, .bool true])
  clear pd0 fd0 pd1 fd1 pd2 fd2
  obtain ⟨w9, hw⟩ : ∃ z9 : World, z9 = putB w3.drew (w.heap.size + 1) 64 #[.string (s1 ++ s4), .int .i64 0, .bool true] := ⟨_, rfl⟩
  rw [← hw] at SR9 SL9 SO9r ⊢
  clear hw hHeld
  refine hK.out _ _ ?_ (fun hHeld => ?_)
  case refine_1 => trivial
  clear hK K
  try simp only [List.setIfInBounds_toArray, List.set_cons_zero, List.set_cons_succ]
  refine wpAnyH_done (by kernel_rfl) ?_ _
  obtain ⟨pr0, fr0, pr1, fr1, pr2, fr2⟩ := SO9r.out.all3
  obtain ⟨pd0, fd0, pd1, fd1, pd2, fd2⟩ := SR9.out.all3
  go_wp2_with fail
  rw [cell1_3 SR9.out]
  have FR8 := Lib.hid (SO9r.out.far (t' := 64) (by omega : w.heap.size ≠ w.heap.size + 1) #[.string (s1 ++ s4), .int .i64 (K : Int), .bool true])
  have HL8 := Lib.hid (SL9.out.trans (putB_below w9 _ 64 #[.string (s1 ++ s4), .int .i64 (K : Int), .bool true] (by omega : w.heap.size ≤ w.heap.size + 1)))
  rw [store3_put FR8.out]
  have FR9 := Lib.hid (FR8.out.put #[.string (s1 ++ s4), .int .i64 (K : Int), .bool true])
  have HL9 := Lib.hid (HL8.out.trans (putB_below (putB w9 (w.heap.size + 1) 64 #[.string (s1 ++ s4), .int .i64 (K : Int), .bool true]) _ 64 #[.string (s1 ++ s4), .int .i64 (K : Int), .bool true] (Nat.le_refl _)))
  clear pr0 fr0 pr1 fr1 pr2 fr2 pd0 fd0 pd1 fd1 pd2 fd2
  obtain ⟨w9, hw⟩ : ∃ z9 : World, z9 = putB (putB w9 (w.heap.size + 1) 64 #[.string (s1 ++ s4), .int .i64 (K : Int), .bool true]) (w.heap.size) 64 #[.string (s1 ++ s4), .int .i64 (K : Int), .bool true] := ⟨_, rfl⟩
  rw [← hw] at FR9 HL9 ⊢
  clear hw
  have pr0 : (w9).cell? ⟨w.heap.size, 0, none⟩ = some (.string (s1 ++ s4)) := FR9.out.cell 0
  have pr1 : (w9).cell? ⟨w.heap.size, 1, none⟩ = some (.int .i64 (K : Int)) := FR9.out.cell 1
  have pr2 : (w9).cell? ⟨w.heap.size, 2, none⟩ = some (.bool true) := FR9.out.cell 2
  refine bodyPost_ret (v := .tuple #[.agg #[.string (s1 ++ s4), .int .i64 (K : Int), .bool true], .string s5, .bool true]) (by simp [results, Tryz.results37, go_sem, pr0, pr1, pr2]) rfl ?_
  rw [HR.out]
  exact ⟨_, _, by rw [HNG.out], Lib.hid (by rw [ByteArray.data_append, Array.toList_append, HS1.out, HS4.out]), Lib.hid HS5.out, HL9⟩
set_option maxHeartbeats 8000000 in
theorem read11_noA (s : ByteArray) (l : List UInt8) (w : World) (hl : s.data.toList = l) (hs : s.size ≤ 100000) (q0 : UInt8) (hd : l.head? = some q0) (hq0 : q0 ≠ 45) (hn : (rsD l).takeWhile Nm.isDig = []) :
    Calls Tryz.prog 37 #[.string s] w (RdRP (rdR l) w) := by
  have hll : l.length = s.size := by rw [← hl]; rfl
  obtain ⟨lt, hlt⟩ : ∃ lt, l = lt := ⟨_, rfl⟩
  have hs2 := hs
  have ht' : s.data.toList = lt := by rw [hl, hlt]
  have hsz : 0 < s.size := by rw [← hll]; cases l with
    | nil => cases hd
    | cons a l => exact Nat.succ_pos _
  have hb : s[0] = q0 := byte_at hl hsz (by rw [← List.head?_eq_getElem?]; exact hd)
  have hbn : (s[0].toNat : Int) ≠ 45 := by
    rw [hb]
    intro e
    exact hq0 (UInt8.toNat_inj.1 (Int.ofNat.inj e))
  have hbd : decide ((s[0].toNat : Int) = 45) = false := decide_eq_false hbn
  have hbe : ((s[0].toNat : Int) == 45) = false := by rw [beq_eq_false_iff_ne]; exact hbn
  have hqe : decide ((q0.toNat : Int) = 45) = false := by rw [← hb]; exact hbd
  have hqf : ((q0.toNat : Int) == 45) = false := by rw [← hb]; exact hbe
  have d0 : decide ((0 : Int) < (s.size : Int)) = true := decide_eq_true (by omega)
  have d0' : decide (0 < s.size) = true := decide_eq_true hsz
  have HT := Lib.hid ht'
  have hng : ngD l = false := by
    unfold ngD
    rw [hd]
    cases hx : ((some q0 : Option UInt8) == some 45) with
    | false => first | rfl | exact hx
    | true => exact absurd (by simpa using hx) hq0
  have hrs : rsD l = lt := by unfold rsD; rw [hng]; exact hlt
  have HRS := Lib.hid hrs
  have HNG := Lib.hid hng
  have HL := Lib.hid hl
  clear hl hll hd hlt ht' hrs hng hbn
  have HN := Lib.hid (show (lt.takeWhile Nm.isDig).length = 0 by rw [← HRS.out, hn]; rfl)
  have HR := Lib.hid (show rdR l = (⟨[], 0, ngD l⟩, rsD l, false) by unfold rdR; rw [if_pos hn])
  clear hn
  go_enter Tryz.func37, Tryz.ntmps37
  go_wp2_with fail
  obtain ⟨w1, hw⟩ : ∃ z9 : World, z9 = ((w.alloc (.cells #[.string ⟨#[]⟩, .int .i64 0, .bool false] 64)).alloc (.cells #[.string ⟨#[]⟩, .int .i64 0, .bool false] 64)) := ⟨_, rfl⟩
  have HB1 := Lib.hid (show Below w.heap.size w w1 by rw [hw]; exact below_a2 _ _ _)
  have F1r := Lib.hid (show Blk w1 (w.heap.size) 64 #[.string ⟨#[]⟩, .int .i64 0, .bool false] by rw [hw]; exact (Blk.new _ _ _).alloc _)
  have F1d := Lib.hid (show Blk w1 (w.heap.size + 1) 64 #[.string ⟨#[]⟩, .int .i64 0, .bool false] by rw [hw]; exact Blk.new1 _ _ _ _)
  rw [← hw]
  clear hw
  refine (digits11 s lt w1 HT.out hs2).mono ?_
  rw [HN.out]
  rintro e w2 ⟨rfl, HB2⟩
  have F2r := Lib.hid (F1r.out.belowW HB2.out)
  have F2d := Lib.hid (F1d.out.belowW HB2.out)
  have HL2 := Lib.hid (HB1.out.trans (HB2.out.mono HB1.out.size))
  obtain ⟨pr0, fr0, pr1, fr1, pr2, fr2⟩ := F2r.out.all3
  obtain ⟨pd0, fd0, pd1, fd1, pd2, fd2⟩ := F2d.out.all3
  go_wp2_with fail
  rw [store3_put F2r.out]
  have FR9 := Lib.hid (F2r.out.put #[.string ⟨#[]⟩, .int .i64 0, .bool false])
  have HL9 := Lib.hid (HL2.out.trans (putB_below w2 _ 64 #[.string ⟨#[]⟩, .int .i64 0, .bool false] (Nat.le_refl _)))
  clear pr0 fr0 pr1 fr1 pr2 fr2 pd0 fd0 pd1 fd1 pd2 fd2
  obtain ⟨w9, hw⟩ : ∃ z9 : World, z9 = putB w2 (w.heap.size) 64 #[.string ⟨#[]⟩, .int .i64 0, .bool false] := ⟨_, rfl⟩
  rw [← hw] at FR9 HL9 ⊢
  clear hw
  have pr0 : (w9).cell? ⟨w.heap.size, 0, none⟩ = some (.string ⟨#[]⟩) := FR9.out.cell 0
  have pr1 : (w9).cell? ⟨w.heap.size, 1, none⟩ = some (.int .i64 0) := FR9.out.cell 1
  have pr2 : (w9).cell? ⟨w.heap.size, 2, none⟩ = some (.bool false) := FR9.out.cell 2
  refine bodyPost_ret (v := .tuple #[.agg #[.string ⟨#[]⟩, .int .i64 0, .bool false], .string s, .bool false]) (by simp [results, Tryz.results37, go_sem, pr0, pr1, pr2]) rfl ?_
  rw [HR.out]
  exact ⟨_, _, by rw [HNG.out]; rfl, Lib.hid rfl, Lib.hid (by rw [HRS.out]; exact HT.out), HL9⟩
set_option maxHeartbeats 8000000 in
theorem read11_noB (s : ByteArray) (l : List UInt8) (w : World) (hl : s.data.toList = l) (hs : s.size ≤ 100000) (q0 : UInt8) (hd : l.head? = some q0) (hq0 : q0 ≠ 45) (hn : (rsD l).takeWhile Nm.isDig ≠ []) (hr : (rsD l).dropWhile Nm.isDig = []) :
    Calls Tryz.prog 37 #[.string s] w (RdRP (rdR l) w) := by
  have hll : l.length = s.size := by rw [← hl]; rfl
  obtain ⟨lt, hlt⟩ : ∃ lt, l = lt := ⟨_, rfl⟩
  have hs2 := hs
  have ht' : s.data.toList = lt := by rw [hl, hlt]
  have hsz : 0 < s.size := by rw [← hll]; cases l with
    | nil => cases hd
    | cons a l => exact Nat.succ_pos _
  have hb : s[0] = q0 := byte_at hl hsz (by rw [← List.head?_eq_getElem?]; exact hd)
  have hbn : (s[0].toNat : Int) ≠ 45 := by
    rw [hb]
    intro e
    exact hq0 (UInt8.toNat_inj.1 (Int.ofNat.inj e))
  have hbd : decide ((s[0].toNat : Int) = 45) = false := decide_eq_false hbn
  have hbe : ((s[0].toNat : Int) == 45) = false := by rw [beq_eq_false_iff_ne]; exact hbn
  have hqe : decide ((q0.toNat : Int) = 45) = false := by rw [← hb]; exact hbd
  have hqf : ((q0.toNat : Int) == 45) = false := by rw [← hb]; exact hbe
  have d0 : decide ((0 : Int) < (s.size : Int)) = true := decide_eq_true (by omega)
  have d0' : decide (0 < s.size) = true := decide_eq_true hsz
  have HT := Lib.hid ht'
  have hng : ngD l = false := by
    unfold ngD
    rw [hd]
    cases hx : ((some q0 : Option UInt8) == some 45) with
    | false => first | rfl | exact hx
    | true => exact absurd (by simpa using hx) hq0
  have hrs : rsD l = lt := by unfold rsD; rw [hng]; exact hlt
  have HRS := Lib.hid hrs
  have HNG := Lib.hid hng
  have HL := Lib.hid hl
  clear hl hll hd hlt ht' hrs hng hbn
  rw [HRS.out] at hn
  have HR0 := Lib.hid HRS.out
  obtain ⟨ds, hds⟩ : ∃ ds, lt.takeWhile Nm.isDig = ds := ⟨_, rfl⟩
  obtain ⟨rt, hrt⟩ : ∃ rt, lt.dropWhile Nm.isDig = rt := ⟨_, rfl⟩
  obtain ⟨N, hN⟩ : ∃ N, ds.length = N := ⟨_, rfl⟩
  have hsl : lt = ds ++ rt := by rw [← hds, ← hrt]; exact (List.takeWhile_append_dropWhile ..).symm
  have hN0 : 0 < N := by
    rw [← hN]
    rw [hds] at hn
    cases ds with
    | nil => exact absurd rfl hn
    | cons a l => exact Nat.succ_pos _
  have hNs : N ≤ s.size := by
    have : lt.length = s.size := by rw [← HT.out]; rfl
    rw [← this, hsl, List.length_append]; omega
  obtain ⟨s1, hx1⟩ : ∃ z, s.extract 0 N = z := ⟨_, rfl⟩
  obtain ⟨s2, hx2⟩ : ∃ z, s.extract N s.size = z := ⟨_, rfl⟩
  have ht1 : s1.data.toList = ds := by rw [← hx1, ext_to, HT.out, hsl, ← hN, List.take_left]
  have ht2 : s2.data.toList = rt := by rw [← hx2, Lib.extract_to_end, HT.out, hsl, ← hN, List.drop_left]
  have hz2 : rt.length = s2.size := by rw [← ht2]; rfl
  have n0 : decide ((N : Int) = 0) = false := decide_eq_false (by omega)
  have n1 : ((N : Int) == 0) = false := by rw [beq_eq_false_iff_ne]; omega
  have b0 : (0 : Int) ≤ (N : Int) := by omega
  have b1 : (N : Int) ≤ (s.size : Int) := by omega
  have HN := Lib.hid (show (lt.takeWhile Nm.isDig).length = N by rw [hds]; exact hN)
  have HS1 := Lib.hid ht1
  have HS2 := Lib.hid ht2
  have HR := Lib.hid (show rdR l = (⟨ds, 0, ngD l⟩, rt, true) by
    unfold rdR
    rw [HRS.out, if_neg hn, hrt, if_neg (by rw [← hrt, ← HRS.out, hr]; intro h; cases h), hds])
  rw [HRS.out, hrt] at hr
  subst hr
  have hz3 : s2.size = 0 := hz2.symm
  have d2 : decide ((0 : Int) < (s2.size : Int)) = false := decide_eq_false (by omega)
  have d2' : decide (0 < s2.size) = false := decide_eq_false (by omega)
  clear hn hds hrt hN hsl ht1 ht2 hz2 hz3
  go_enter Tryz.func37, Tryz.ntmps37
  go_wp2_with fail
  obtain ⟨w1, hw⟩ : ∃ z9 : World, z9 = ((w.alloc (.cells #[.string ⟨#[]⟩, .int .i64 0, .bool false] 64)).alloc (.cells #[.string ⟨#[]⟩, .int .i64 0, .bool false] 64)) := ⟨_, rfl⟩
  have HB1 := Lib.hid (show Below w.heap.size w w1 by rw [hw]; exact below_a2 _ _ _)
  have F1r := Lib.hid (show Blk w1 (w.heap.size) 64 #[.string ⟨#[]⟩, .int .i64 0, .bool false] by rw [hw]; exact (Blk.new _ _ _).alloc _)
  have F1d := Lib.hid (show Blk w1 (w.heap.size + 1) 64 #[.string ⟨#[]⟩, .int .i64 0, .bool false] by rw [hw]; exact Blk.new1 _ _ _ _)
  rw [← hw]
  clear hw
  refine (digits11 s lt w1 HT.out hs2).mono ?_
  rw [HN.out]
  rintro e w2 ⟨rfl, HB2⟩
  have F2r := Lib.hid (F1r.out.belowW HB2.out)
  have F2d := Lib.hid (F1d.out.belowW HB2.out)
  have HL2 := Lib.hid (HB1.out.trans (HB2.out.mono HB1.out.size))
  obtain ⟨pr0, fr0, pr1, fr1, pr2, fr2⟩ := F2r.out.all3
  obtain ⟨pd0, fd0, pd1, fd1, pd2, fd2⟩ := F2d.out.all3
  go_wp2_with fail
  rw [cell0_3 F2d.out]
  have FR8 := Lib.hid (F2r.out.far (t' := 64) (by omega : w.heap.size ≠ w.heap.size + 1) #[.string s1, .int .i64 0, .bool false])
  have HL8 := Lib.hid (HL2.out.trans (putB_below w2 _ 64 #[.string s1, .int .i64 0, .bool false] (by omega : w.heap.size ≤ w.heap.size + 1)))
  rw [store3_put FR8.out]
  have FR9 := Lib.hid (FR8.out.put #[.string s1, .int .i64 0, .bool false])
  have HL9 := Lib.hid (HL8.out.trans (putB_below (putB w2 (w.heap.size + 1) 64 #[.string s1, .int .i64 0, .bool false]) _ 64 #[.string s1, .int .i64 0, .bool false] (Nat.le_refl _)))
  clear pr0 fr0 pr1 fr1 pr2 fr2 pd0 fd0 pd1 fd1 pd2 fd2
  obtain ⟨w9, hw⟩ : ∃ z9 : World, z9 = putB (putB w2 (w.heap.size + 1) 64 #[.string s1, .int .i64 0, .bool false]) (w.heap.size) 64 #[.string s1, .int .i64 0, .bool false] := ⟨_, rfl⟩
  rw [← hw] at FR9 HL9 ⊢
  clear hw
  have pr0 : (w9).cell? ⟨w.heap.size, 0, none⟩ = some (.string s1) := FR9.out.cell 0
  have pr1 : (w9).cell? ⟨w.heap.size, 1, none⟩ = some (.int .i64 0) := FR9.out.cell 1
  have pr2 : (w9).cell? ⟨w.heap.size, 2, none⟩ = some (.bool false) := FR9.out.cell 2
  refine bodyPost_ret (v := .tuple #[.agg #[.string s1, .int .i64 0, .bool false], .string s2, .bool true]) (by simp [results, Tryz.results37, go_sem, pr0, pr1, pr2]) rfl ?_
  rw [HR.out]
  exact ⟨_, _, by rw [HNG.out]; rfl, Lib.hid HS1.out, Lib.hid HS2.out, HL9⟩
set_option maxHeartbeats 8000000 in
theorem read11_noC (s : ByteArray) (l : List UInt8) (w : World) (hl : s.data.toList = l) (hs : s.size ≤ 100000) (q0 : UInt8) (hd : l.head? = some q0) (hq0 : q0 ≠ 45) (q : UInt8) (hn : (rsD l).takeWhile Nm.isDig ≠ []) (hr : ((rsD l).dropWhile Nm.isDig).head? = some q) (hq : q ≠ 46) :
    Calls Tryz.prog 37 #[.string s] w (RdRP (rdR l) w) := by
  have hll : l.length = s.size := by rw [← hl]; rfl
  obtain ⟨lt, hlt⟩ : ∃ lt, l = lt := ⟨_, rfl⟩
  have hs2 := hs
  have ht' : s.data.toList = lt := by rw [hl, hlt]
  have hsz : 0 < s.size := by rw [← hll]; cases l with
    | nil => cases hd
    | cons a l => exact Nat.succ_pos _
  have hb : s[0] = q0 := byte_at hl hsz (by rw [← List.head?_eq_getElem?]; exact hd)
  have hbn : (s[0].toNat : Int) ≠ 45 := by
    rw [hb]
    intro e
    exact hq0 (UInt8.toNat_inj.1 (Int.ofNat.inj e))
  have hbd : decide ((s[0].toNat : Int) = 45) = false := decide_eq_false hbn
  have hbe : ((s[0].toNat : Int) == 45) = false := by rw [beq_eq_false_iff_ne]; exact hbn
  have hqe : decide ((q0.toNat : Int) = 45) = false := by rw [← hb]; exact hbd
  have hqf : ((q0.toNat : Int) == 45) = false := by rw [← hb]; exact hbe
  have d0 : decide ((0 : Int) < (s.size : Int)) = true := decide_eq_true (by omega)
  have d0' : decide (0 < s.size) = true := decide_eq_true hsz
  have HT := Lib.hid ht'
  have hng : ngD l = false := by
    unfold ngD
    rw [hd]
    cases hx : ((some q0 : Option UInt8) == some 45) with
    | false => first | rfl | exact hx
    | true => exact absurd (by simpa using hx) hq0
  have hrs : rsD l = lt := by unfold rsD; rw [hng]; exact hlt
  have HRS := Lib.hid hrs
  have HNG := Lib.hid hng
  have HL := Lib.hid hl
  clear hl hll hd hlt ht' hrs hng hbn
  rw [HRS.out] at hn
  have HR0 := Lib.hid HRS.out
  obtain ⟨ds, hds⟩ : ∃ ds, lt.takeWhile Nm.isDig = ds := ⟨_, rfl⟩
  obtain ⟨rt, hrt⟩ : ∃ rt, lt.dropWhile Nm.isDig = rt := ⟨_, rfl⟩
  obtain ⟨N, hN⟩ : ∃ N, ds.length = N := ⟨_, rfl⟩
  have hsl : lt = ds ++ rt := by rw [← hds, ← hrt]; exact (List.takeWhile_append_dropWhile ..).symm
  have hN0 : 0 < N := by
    rw [← hN]
    rw [hds] at hn
    cases ds with
    | nil => exact absurd rfl hn
    | cons a l => exact Nat.succ_pos _
  have hNs : N ≤ s.size := by
    have : lt.length = s.size := by rw [← HT.out]; rfl
    rw [← this, hsl, List.length_append]; omega
  obtain ⟨s1, hx1⟩ : ∃ z, s.extract 0 N = z := ⟨_, rfl⟩
  obtain ⟨s2, hx2⟩ : ∃ z, s.extract N s.size = z := ⟨_, rfl⟩
  have ht1 : s1.data.toList = ds := by rw [← hx1, ext_to, HT.out, hsl, ← hN, List.take_left]
  have ht2 : s2.data.toList = rt := by rw [← hx2, Lib.extract_to_end, HT.out, hsl, ← hN, List.drop_left]
  have hz2 : rt.length = s2.size := by rw [← ht2]; rfl
  have n0 : decide ((N : Int) = 0) = false := decide_eq_false (by omega)
  have n1 : ((N : Int) == 0) = false := by rw [beq_eq_false_iff_ne]; omega
  have b0 : (0 : Int) ≤ (N : Int) := by omega
  have b1 : (N : Int) ≤ (s.size : Int) := by omega
  have HN := Lib.hid (show (lt.takeWhile Nm.isDig).length = N by rw [hds]; exact hN)
  have HS1 := Lib.hid ht1
  have HS2 := Lib.hid ht2
  have HR := Lib.hid (show rdR l = (⟨ds, 0, ngD l⟩, rt, true) by
    unfold rdR
    rw [HRS.out, if_neg hn, hrt, if_neg (by rw [← hrt, ← HRS.out, hr]; intro h; injection h with h; exact hq h), hds])
  rw [HRS.out, hrt] at hr
  have hz3 : 0 < s2.size := by rw [← hz2]; cases rt with
    | nil => cases hr
    | cons a l => exact Nat.succ_pos _
  have d2 : decide ((0 : Int) < (s2.size : Int)) = true := decide_eq_true (by omega)
  have d2' : decide (0 < s2.size) = true := decide_eq_true (by omega)
  have hb2 : s2[0] = q := byte_at ht2 hz3 (by rw [← List.head?_eq_getElem?]; exact hr)
  have hbn2 : (q.toNat : Int) ≠ 46 := by
    intro e
    exact hq (UInt8.toNat_inj.1 (Int.ofNat.inj e))
  have hbd2 : decide ((q.toNat : Int) = 46) = false := decide_eq_false hbn2
  have hbe2 : ((q.toNat : Int) == 46) = false := by rw [beq_eq_false_iff_ne]; exact hbn2
  clear hn hds hrt hN hsl ht1 ht2 hz2 hr hbn2
  go_enter Tryz.func37, Tryz.ntmps37
  go_wp2_with fail
  obtain ⟨w1, hw⟩ : ∃ z9 : World, z9 = ((w.alloc (.cells #[.string ⟨#[]⟩, .int .i64 0, .bool false] 64)).alloc (.cells #[.string ⟨#[]⟩, .int .i64 0, .bool false] 64)) := ⟨_, rfl⟩
  have HB1 := Lib.hid (show Below w.heap.size w w1 by rw [hw]; exact below_a2 _ _ _)
  have F1r := Lib.hid (show Blk w1 (w.heap.size) 64 #[.string ⟨#[]⟩, .int .i64 0, .bool false] by rw [hw]; exact (Blk.new _ _ _).alloc _)
  have F1d := Lib.hid (show Blk w1 (w.heap.size + 1) 64 #[.string ⟨#[]⟩, .int .i64 0, .bool false] by rw [hw]; exact Blk.new1 _ _ _ _)
  rw [← hw]
  clear hw
  refine (digits11 s lt w1 HT.out hs2).mono ?_
  rw [HN.out]
  rintro e w2 ⟨rfl, HB2⟩
  have F2r := Lib.hid (F1r.out.belowW HB2.out)
  have F2d := Lib.hid (F1d.out.belowW HB2.out)
  have HL2 := Lib.hid (HB1.out.trans (HB2.out.mono HB1.out.size))
  obtain ⟨pr0, fr0, pr1, fr1, pr2, fr2⟩ := F2r.out.all3
  obtain ⟨pd0, fd0, pd1, fd1, pd2, fd2⟩ := F2d.out.all3
  go_wp2_with fail
  rw [cell0_3 F2d.out]
  have FR8 := Lib.hid (F2r.out.far (t' := 64) (by omega : w.heap.size ≠ w.heap.size + 1) #[.string s1, .int .i64 0, .bool false])
  have HL8 := Lib.hid (HL2.out.trans (putB_below w2 _ 64 #[.string s1, .int .i64 0, .bool false] (by omega : w.heap.size ≤ w.heap.size + 1)))
  rw [store3_put FR8.out]
  have FR9 := Lib.hid (FR8.out.put #[.string s1, .int .i64 0, .bool false])
  have HL9 := Lib.hid (HL8.out.trans (putB_below (putB w2 (w.heap.size + 1) 64 #[.string s1, .int .i64 0, .bool false]) _ 64 #[.string s1, .int .i64 0, .bool false] (Nat.le_refl _)))
  clear pr0 fr0 pr1 fr1 pr2 fr2 pd0 fd0 pd1 fd1 pd2 fd2
  obtain ⟨w9, hw⟩ : ∃ z9 : World, z9 = putB (putB w2 (w.heap.size + 1) 64 #[.string s1, .int .i64 0, .bool false]) (w.heap.size) 64 #[.string s1, .int .i64 0, .bool false] := ⟨_, rfl⟩
  rw [← hw] at FR9 HL9 ⊢
  clear hw
  have pr0 : (w9).cell? ⟨w.heap.size, 0, none⟩ = some (.string s1) := FR9.out.cell 0
  have pr1 : (w9).cell? ⟨w.heap.size, 1, none⟩ = some (.int .i64 0) := FR9.out.cell 1
  have pr2 : (w9).cell? ⟨w.heap.size, 2, none⟩ = some (.bool false) := FR9.out.cell 2
  refine bodyPost_ret (v := .tuple #[.agg #[.string s1, .int .i64 0, .bool false], .string s2, .bool true]) (by simp [results, Tryz.results37, go_sem, pr0, pr1, pr2]) rfl ?_
  rw [HR.out]
  exact ⟨_, _, by rw [HNG.out]; rfl, Lib.hid HS1.out, Lib.hid HS2.out, HL9⟩
set_option maxHeartbeats 8000000 in
theorem read11_noD (s : ByteArray) (l : List UInt8) (w : World) (hl : s.data.toList = l) (hs : s.size ≤ 100000) (q0 : UInt8) (hd : l.head? = some q0) (hq0 : q0 ≠ 45) (r3 : List UInt8) (hn : (rsD l).takeWhile Nm.isDig ≠ []) (hr : (rsD l).dropWhile Nm.isDig = 46 :: r3) (hk : r3.takeWhile Nm.isDig = []) :
    Calls Tryz.prog 37 #[.string s] w (RdRP (rdR l) w) := by
  have hll : l.length = s.size := by rw [← hl]; rfl
  obtain ⟨lt, hlt⟩ : ∃ lt, l = lt := ⟨_, rfl⟩
  have hs2 := hs
  have ht' : s.data.toList = lt := by rw [hl, hlt]
  have hsz : 0 < s.size := by rw [← hll]; cases l with
    | nil => cases hd
    | cons a l => exact Nat.succ_pos _
  have hb : s[0] = q0 := byte_at hl hsz (by rw [← List.head?_eq_getElem?]; exact hd)
  have hbn : (s[0].toNat : Int) ≠ 45 := by
    rw [hb]
    intro e
    exact hq0 (UInt8.toNat_inj.1 (Int.ofNat.inj e))
  have hbd : decide ((s[0].toNat : Int) = 45) = false := decide_eq_false hbn
  have hbe : ((s[0].toNat : Int) == 45) = false := by rw [beq_eq_false_iff_ne]; exact hbn
  have hqe : decide ((q0.toNat : Int) = 45) = false := by rw [← hb]; exact hbd
  have hqf : ((q0.toNat : Int) == 45) = false := by rw [← hb]; exact hbe
  have d0 : decide ((0 : Int) < (s.size : Int)) = true := decide_eq_true (by omega)
  have d0' : decide (0 < s.size) = true := decide_eq_true hsz
  have HT := Lib.hid ht'
  have hng : ngD l = false := by
    unfold ngD
    rw [hd]
    cases hx : ((some q0 : Option UInt8) == some 45) with
    | false => first | rfl | exact hx
    | true => exact absurd (by simpa using hx) hq0
  have hrs : rsD l = lt := by unfold rsD; rw [hng]; exact hlt
  have HRS := Lib.hid hrs
  have HNG := Lib.hid hng
  have HL := Lib.hid hl
  clear hl hll hd hlt ht' hrs hng hbn
  rw [HRS.out] at hn
  have HR0 := Lib.hid HRS.out
  obtain ⟨ds, hds⟩ : ∃ ds, lt.takeWhile Nm.isDig = ds := ⟨_, rfl⟩
  obtain ⟨rt, hrt⟩ : ∃ rt, lt.dropWhile Nm.isDig = rt := ⟨_, rfl⟩
  obtain ⟨N, hN⟩ : ∃ N, ds.length = N := ⟨_, rfl⟩
  have hsl : lt = ds ++ rt := by rw [← hds, ← hrt]; exact (List.takeWhile_append_dropWhile ..).symm
  have hN0 : 0 < N := by
    rw [← hN]
    rw [hds] at hn
    cases ds with
    | nil => exact absurd rfl hn
    | cons a l => exact Nat.succ_pos _
  have hNs : N ≤ s.size := by
    have : lt.length = s.size := by rw [← HT.out]; rfl
    rw [← this, hsl, List.length_append]; omega
  obtain ⟨s1, hx1⟩ : ∃ z, s.extract 0 N = z := ⟨_, rfl⟩
  obtain ⟨s2, hx2⟩ : ∃ z, s.extract N s.size = z := ⟨_, rfl⟩
  have ht1 : s1.data.toList = ds := by rw [← hx1, ext_to, HT.out, hsl, ← hN, List.take_left]
  have ht2 : s2.data.toList = rt := by rw [← hx2, Lib.extract_to_end, HT.out, hsl, ← hN, List.drop_left]
  have hz2 : rt.length = s2.size := by rw [← ht2]; rfl
  have n0 : decide ((N : Int) = 0) = false := decide_eq_false (by omega)
  have n1 : ((N : Int) == 0) = false := by rw [beq_eq_false_iff_ne]; omega
  have b0 : (0 : Int) ≤ (N : Int) := by omega
  have b1 : (N : Int) ≤ (s.size : Int) := by omega
  have HN := Lib.hid (show (lt.takeWhile Nm.isDig).length = N by rw [hds]; exact hN)
  have HS1 := Lib.hid ht1
  have HS2 := Lib.hid ht2
  rw [HRS.out, hrt] at hr
  have hz3 : 0 < s2.size := by rw [← hz2, hr]; exact Nat.succ_pos _
  have d2 : decide ((0 : Int) < (s2.size : Int)) = true := decide_eq_true (by omega)
  have d2' : decide (0 < s2.size) = true := decide_eq_true (by omega)
  have hb2 : s2[0] = 46 := byte_at ht2 hz3 (by rw [hr]; rfl)
  obtain ⟨s3, hx3⟩ : ∃ z, s2.extract 1 s2.size = z := ⟨_, rfl⟩
  have ht3 : s3.data.toList = r3 := by rw [← hx3, ext_one ht2, hr]; rfl
  have hsz2 : s2.size ≤ s.size := by
    have : lt.length = s.size := by rw [← HT.out]; rfl
    rw [← this, ← hz2, hsl, List.length_append]; omega
  have hs3 : s3.size ≤ 100000 := by
    have : r3.length = s3.size := by rw [← ht3]; rfl
    have h2 : rt.length = r3.length + 1 := by rw [hr]; rfl
    omega
  have HS3 := Lib.hid ht3
  have HR := Lib.hid (show rdR l = (⟨ds, 0, ngD l⟩, rt, false) by
    unfold rdR
    rw [HRS.out, if_neg hn, hrt, hr, if_pos (show (46 :: r3 : List UInt8).head? = some 46 from rfl), if_pos (show (46 :: r3 : List UInt8).tail.takeWhile Nm.isDig = [] from hk), hds])
  have HK := Lib.hid (show (r3.takeWhile Nm.isDig).length = 0 by rw [hk]; rfl)
  clear hn hds hrt hN hsl ht1 ht2 hz2 hr hk
  go_enter Tryz.func37, Tryz.ntmps37
  go_wp2_with fail
  obtain ⟨w1, hw⟩ : ∃ z9 : World, z9 = ((w.alloc (.cells #[.string ⟨#[]⟩, .int .i64 0, .bool false] 64)).alloc (.cells #[.string ⟨#[]⟩, .int .i64 0, .bool false] 64)) := ⟨_, rfl⟩
  have HB1 := Lib.hid (show Below w.heap.size w w1 by rw [hw]; exact below_a2 _ _ _)
  have F1r := Lib.hid (show Blk w1 (w.heap.size) 64 #[.string ⟨#[]⟩, .int .i64 0, .bool false] by rw [hw]; exact (Blk.new _ _ _).alloc _)
  have F1d := Lib.hid (show Blk w1 (w.heap.size + 1) 64 #[.string ⟨#[]⟩, .int .i64 0, .bool false] by rw [hw]; exact Blk.new1 _ _ _ _)
  rw [← hw]
  clear hw
  refine (digits11 s lt w1 HT.out hs2).mono ?_
  rw [HN.out]
  rintro e w2 ⟨rfl, HB2⟩
  have F2r := Lib.hid (F1r.out.belowW HB2.out)
  have F2d := Lib.hid (F1d.out.belowW HB2.out)
  have HL2 := Lib.hid (HB1.out.trans (HB2.out.mono HB1.out.size))
  obtain ⟨pr0, fr0, pr1, fr1, pr2, fr2⟩ := F2r.out.all3
  obtain ⟨pd0, fd0, pd1, fd1, pd2, fd2⟩ := F2d.out.all3
  go_wp2_with fail
  rw [cell0_3 F2d.out]
  have HB8 := Lib.hid (putB_below (B := w.heap.size) w2 (w.heap.size + 1) 64 #[.string s1, .int .i64 0, .bool false] (by omega))
  have F8r := Lib.hid (F2r.out.far (t' := 64) (by omega : w.heap.size ≠ w.heap.size + 1) #[.string s1, .int .i64 0, .bool false])
  have F8d := Lib.hid (F2d.out.put #[.string s1, .int .i64 0, .bool false])
  have HL8 := Lib.hid (HL2.out.trans HB8.out)
  clear pr0 fr0 pr1 fr1 pr2 fr2 pd0 fd0 pd1 fd1 pd2 fd2
  obtain ⟨w8, hw⟩ : ∃ z9 : World, z9 = putB w2 (w.heap.size + 1) 64 #[.string s1, .int .i64 0, .bool false] := ⟨_, rfl⟩
  rw [← hw] at F8r F8d HL8 HB8 ⊢
  clear hw
  refine (digits11 s3 r3 w8 HS3.out hs3).mono ?_
  rw [HK.out]
  rintro e w3 ⟨rfl, HB3⟩
  have F3r := Lib.hid (F8r.out.belowW HB3.out)
  have F3d := Lib.hid (F8d.out.belowW HB3.out)
  have HL3 := Lib.hid (HL8.out.trans (HB3.out.mono HL8.out.size))
  obtain ⟨pr0, fr0, pr1, fr1, pr2, fr2⟩ := F3r.out.all3
  obtain ⟨pd0, fd0, pd1, fd1, pd2, fd2⟩ := F3d.out.all3
  go_wp2_with fail
  rw [store3_put F3r.out]
  have FR9 := Lib.hid (F3r.out.put #[.string s1, .int .i64 0, .bool false])
  have HL9 := Lib.hid (HL3.out.trans (putB_below w3 _ 64 #[.string s1, .int .i64 0, .bool false] (Nat.le_refl _)))
  clear pr0 fr0 pr1 fr1 pr2 fr2 pd0 fd0 pd1 fd1 pd2 fd2
  obtain ⟨w9, hw⟩ : ∃ z9 : World, z9 = putB w3 (w.heap.size) 64 #[.string s1, .int .i64 0, .bool false] := ⟨_, rfl⟩
  rw [← hw] at FR9 HL9 ⊢
  clear hw
  have pr0 : (w9).cell? ⟨w.heap.size, 0, none⟩ = some (.string s1) := FR9.out.cell 0
  have pr1 : (w9).cell? ⟨w.heap.size, 1, none⟩ = some (.int .i64 0) := FR9.out.cell 1
  have pr2 : (w9).cell? ⟨w.heap.size, 2, none⟩ = some (.bool false) := FR9.out.cell 2
  refine bodyPost_ret (v := .tuple #[.agg #[.string s1, .int .i64 0, .bool false], .string s2, .bool false]) (by simp [results, Tryz.results37, go_sem, pr0, pr1, pr2]) rfl ?_
  rw [HR.out]
  exact ⟨_, _, by rw [HNG.out]; rfl, Lib.hid HS1.out, Lib.hid HS2.out, HL9⟩
set_option maxHeartbeats 8000000 in
theorem read11_noE (s : ByteArray) (l : List UInt8) (w : World) (hl : s.data.toList = l) (hs : s.size ≤ 100000) (q0 : UInt8) (hd : l.head? = some q0) (hq0 : q0 ≠ 45) (r3 : List UInt8) (hn : (rsD l).takeWhile Nm.isDig ≠ []) (hr : (rsD l).dropWhile Nm.isDig = 46 :: r3) (hk : r3.takeWhile Nm.isDig ≠ []) :
    Calls Tryz.prog 37 #[.string s] w (RdRP (rdR l) w) := by
  have hll : l.length = s.size := by rw [← hl]; rfl
  obtain ⟨lt, hlt⟩ : ∃ lt, l = lt := ⟨_, rfl⟩
  have hs2 := hs
  have ht' : s.data.toList = lt := by rw [hl, hlt]
  have hsz : 0 < s.size := by rw [← hll]; cases l with
    | nil => cases hd
    | cons a l => exact Nat.succ_pos _
  have hb : s[0] = q0 := byte_at hl hsz (by rw [← List.head?_eq_getElem?]; exact hd)
  have hbn : (s[0].toNat : Int) ≠ 45 := by
    rw [hb]
    intro e
    exact hq0 (UInt8.toNat_inj.1 (Int.ofNat.inj e))
  have hbd : decide ((s[0].toNat : Int) = 45) = false := decide_eq_false hbn
  have hbe : ((s[0].toNat : Int) == 45) = false := by rw [beq_eq_false_iff_ne]; exact hbn
  have hqe : decide ((q0.toNat : Int) = 45) = false := by rw [← hb]; exact hbd
  have hqf : ((q0.toNat : Int) == 45) = false := by rw [← hb]; exact hbe
  have d0 : decide ((0 : Int) < (s.size : Int)) = true := decide_eq_true (by omega)
  have d0' : decide (0 < s.size) = true := decide_eq_true hsz
  have HT := Lib.hid ht'
  have hng : ngD l = false := by
    unfold ngD
    rw [hd]
    cases hx : ((some q0 : Option UInt8) == some 45) with
    | false => first | rfl | exact hx
    | true => exact absurd (by simpa using hx) hq0
  have hrs : rsD l = lt := by unfold rsD; rw [hng]; exact hlt
  have HRS := Lib.hid hrs
  have HNG := Lib.hid hng
  have HL := Lib.hid hl
  clear hl hll hd hlt ht' hrs hng hbn
  rw [HRS.out] at hn
  have HR0 := Lib.hid HRS.out
  obtain ⟨ds, hds⟩ : ∃ ds, lt.takeWhile Nm.isDig = ds := ⟨_, rfl⟩
  obtain ⟨rt, hrt⟩ : ∃ rt, lt.dropWhile Nm.isDig = rt := ⟨_, rfl⟩
  obtain ⟨N, hN⟩ : ∃ N, ds.length = N := ⟨_, rfl⟩
  have hsl : lt = ds ++ rt := by rw [← hds, ← hrt]; exact (List.takeWhile_append_dropWhile ..).symm
  have hN0 : 0 < N := by
    rw [← hN]
    rw [hds] at hn
    cases ds with
    | nil => exact absurd rfl hn
    | cons a l => exact Nat.succ_pos _
  have hNs : N ≤ s.size := by
    have : lt.length = s.size := by rw [← HT.out]; rfl
    rw [← this, hsl, List.length_append]; omega
  obtain ⟨s1, hx1⟩ : ∃ z, s.extract 0 N = z := ⟨_, rfl⟩
  obtain ⟨s2, hx2⟩ : ∃ z, s.extract N s.size = z := ⟨_, rfl⟩
  have ht1 : s1.data.toList = ds := by rw [← hx1, ext_to, HT.out, hsl, ← hN, List.take_left]
  have ht2 : s2.data.toList = rt := by rw [← hx2, Lib.extract_to_end, HT.out, hsl, ← hN, List.drop_left]
  have hz2 : rt.length = s2.size := by rw [← ht2]; rfl
  have n0 : decide ((N : Int) = 0) = false := decide_eq_false (by omega)
  have n1 : ((N : Int) == 0) = false := by rw [beq_eq_false_iff_ne]; omega
  have b0 : (0 : Int) ≤ (N : Int) := by omega
  have b1 : (N : Int) ≤ (s.size : Int) := by omega
  have HN := Lib.hid (show (lt.takeWhile Nm.isDig).length = N by rw [hds]; exact hN)
  have HS1 := Lib.hid ht1
  have HS2 := Lib.hid ht2
  rw [HRS.out, hrt] at hr
  have hz3 : 0 < s2.size := by rw [← hz2, hr]; exact Nat.succ_pos _
  have d2 : decide ((0 : Int) < (s2.size : Int)) = true := decide_eq_true (by omega)
  have d2' : decide (0 < s2.size) = true := decide_eq_true (by omega)
  have hb2 : s2[0] = 46 := byte_at ht2 hz3 (by rw [hr]; rfl)
  obtain ⟨s3, hx3⟩ : ∃ z, s2.extract 1 s2.size = z := ⟨_, rfl⟩
  have ht3 : s3.data.toList = r3 := by rw [← hx3, ext_one ht2, hr]; rfl
  have hsz2 : s2.size ≤ s.size := by
    have : lt.length = s.size := by rw [← HT.out]; rfl
    rw [← this, ← hz2, hsl, List.length_append]; omega
  have hs3 : s3.size ≤ 100000 := by
    have : r3.length = s3.size := by rw [← ht3]; rfl
    have h2 : rt.length = r3.length + 1 := by rw [hr]; rfl
    omega
  have HS3 := Lib.hid ht3
  obtain ⟨es, hes⟩ : ∃ es, r3.takeWhile Nm.isDig = es := ⟨_, rfl⟩
  obtain ⟨r4, hr4⟩ : ∃ rt, r3.dropWhile Nm.isDig = rt := ⟨_, rfl⟩
  obtain ⟨K, hK⟩ : ∃ N, es.length = N := ⟨_, rfl⟩
  have hsl3 : r3 = es ++ r4 := by rw [← hes, ← hr4]; exact (List.takeWhile_append_dropWhile ..).symm
  have hK0 : 0 < K := by
    rw [← hK]
    rw [hes] at hk
    cases es with
    | nil => exact absurd rfl hk
    | cons a l => exact Nat.succ_pos _
  have hKs : 1 + K ≤ s2.size := by
    rw [← hz2, hr, hsl3, List.length_cons, List.length_append]; omega
  obtain ⟨s4, hx4⟩ : ∃ z, s2.extract 1 (1 + K) = z := ⟨_, rfl⟩
  obtain ⟨s5, hx5⟩ : ∃ z, s2.extract (1 + K) s2.size = z := ⟨_, rfl⟩
  have ht4 : s4.data.toList = es := by
    rw [← hx4, ByteArray.data_extract, Array.toList_extract, List.extract_eq_take_drop, ht2, hr, hsl3, Nat.add_sub_cancel_left, ← hK]
    exact List.take_left
  have ht5 : s5.data.toList = r4 := by
    rw [← hx5, Lib.extract_to_end, ht2, hr, hsl3, Nat.add_comm 1 K, List.drop_succ_cons, ← hK, List.drop_left]
  have k0 : decide ((K : Int) = 0) = false := decide_eq_false (by omega)
  have k1 : ((K : Int) == 0) = false := by rw [beq_eq_false_iff_ne]; omega
  have k2 : (0 : Int) ≤ 1 + (K : Int) := by omega
  have k3 : 1 + (K : Int) ≤ (s2.size : Int) := by omega
  have k4 : (1 : Int) ≤ 1 + (K : Int) := by omega
  have k5 : IntKind.i64.wrap (1 + (K : Int)) = 1 + (K : Int) := IntWalk.i64_in _ (by omega)
  have k6 : (1 + (K : Int)).toNat = 1 + K := by omega
  have hsum : ¬ 9223372036854775807 < s1.size + s4.size := by
    have a1 : ds.length = s1.size := by rw [← ht1]; rfl
    have a2 : es.length = s4.size := by rw [← ht4]; rfl
    omega
  have HK := Lib.hid (show (r3.takeWhile Nm.isDig).length = K by rw [hes]; exact hK)
  have HS4 := Lib.hid ht4
  have HS5 := Lib.hid ht5
  have HR := Lib.hid (show rdR l = (⟨ds ++ es, K, ngD l⟩, r4, true) by
    unfold rdR
    rw [HRS.out, if_neg hn, hrt, hr, if_pos (show (46 :: r3 : List UInt8).head? = some 46 from rfl), if_neg (show (46 :: r3 : List UInt8).tail.takeWhile Nm.isDig ≠ [] from hk), hds, show (46 :: r3 : List UInt8).tail = r3 from rfl, hes, hr4, hK])
  clear hn hds hrt hN hsl ht1 ht2 hz2 hr hk hes hr4 hK ht4 ht5 hsl3
  go_enter Tryz.func37, Tryz.ntmps37
  go_wp2_with fail
  obtain ⟨w1, hw⟩ : ∃ z9 : World, z9 = ((w.alloc (.cells #[.string ⟨#[]⟩, .int .i64 0, .bool false] 64)).alloc (.cells #[.string ⟨#[]⟩, .int .i64 0, .bool false] 64)) := ⟨_, rfl⟩
  have HB1 := Lib.hid (show Below w.heap.size w w1 by rw [hw]; exact below_a2 _ _ _)
  have F1r := Lib.hid (show Blk w1 (w.heap.size) 64 #[.string ⟨#[]⟩, .int .i64 0, .bool false] by rw [hw]; exact (Blk.new _ _ _).alloc _)
  have F1d := Lib.hid (show Blk w1 (w.heap.size + 1) 64 #[.string ⟨#[]⟩, .int .i64 0, .bool false] by rw [hw]; exact Blk.new1 _ _ _ _)
  rw [← hw]
  clear hw
  refine (digits11 s lt w1 HT.out hs2).mono ?_
  rw [HN.out]
  rintro e w2 ⟨rfl, HB2⟩
  have F2r := Lib.hid (F1r.out.belowW HB2.out)
  have F2d := Lib.hid (F1d.out.belowW HB2.out)
  have HL2 := Lib.hid (HB1.out.trans (HB2.out.mono HB1.out.size))
  obtain ⟨pr0, fr0, pr1, fr1, pr2, fr2⟩ := F2r.out.all3
  obtain ⟨pd0, fd0, pd1, fd1, pd2, fd2⟩ := F2d.out.all3
  go_wp2_with fail
  rw [cell0_3 F2d.out]
  have HB8 := Lib.hid (putB_below (B := w.heap.size) w2 (w.heap.size + 1) 64 #[.string s1, .int .i64 0, .bool false] (by omega))
  have F8r := Lib.hid (F2r.out.far (t' := 64) (by omega : w.heap.size ≠ w.heap.size + 1) #[.string s1, .int .i64 0, .bool false])
  have F8d := Lib.hid (F2d.out.put #[.string s1, .int .i64 0, .bool false])
  have HL8 := Lib.hid (HL2.out.trans HB8.out)
  clear pr0 fr0 pr1 fr1 pr2 fr2 pd0 fd0 pd1 fd1 pd2 fd2
  obtain ⟨w8, hw⟩ : ∃ z9 : World, z9 = putB w2 (w.heap.size + 1) 64 #[.string s1, .int .i64 0, .bool false] := ⟨_, rfl⟩
  rw [← hw] at F8r F8d HL8 HB8 ⊢
  clear hw
  refine (digits11 s3 r3 w8 HS3.out hs3).mono ?_
  rw [HK.out]
  rintro e w3 ⟨rfl, HB3⟩
  have F3r := Lib.hid (F8r.out.belowW HB3.out)
  have F3d := Lib.hid (F8d.out.belowW HB3.out)
  have HL3 := Lib.hid (HL8.out.trans (HB3.out.mono HL8.out.size))
  obtain ⟨pr0, fr0, pr1, fr1, pr2, fr2⟩ := F3r.out.all3
  obtain ⟨pd0, fd0, pd1, fd1, pd2, fd2⟩ := F3d.out.all3
  go_wp2_with fail
  clear pr0 fr0 pr1 fr1 pr2 fr2 pd0 fd0 pd1 fd1 pd2 fd2
  have HR4 := Lib.hid (below_dr w3)
  have R4r := Lib.hid (F3r.out.belowW HR4.out)
  have R4d := Lib.hid (F3d.out.belowW HR4.out)
  refine wp_region_held_drew (S := fun w' => True) (by kernel_rfl) ?_ (fun hHeld => ?_)
  case refine_1 => trivial
  refine wpAnyH_take (i := 0) (oi := _) (v := ?_) rfl (by kernel_rfl) (by kernel_rfl) (by kernel_rfl) (fun _ _ _ h => h) (Or.inl ⟨by rfl, ?_⟩) (by assumption) ?_
  case refine_2 =>
    intro w9 hSw
    (try dsimp only at hSw)
    go_simp
    (try with_reducible rfl)
  try simp only [Act.put, List.setIfInBounds_toArray, List.set_cons_zero, List.set_cons_succ, List.getElem_toArray, List.getElem_cons_zero]
  refine wpAnyH_take (i := 2) (oi := _) (v := ?_) rfl (by kernel_rfl) (by kernel_rfl) (by kernel_rfl) (fun _ _ _ h => h) (Or.inl ⟨by rfl, ?_⟩) (by assumption) ?_
  case refine_2 =>
    intro w9 hSw
    (try dsimp only at hSw)
    go_simp
    (try with_reducible rfl)
  try simp only [Act.put, List.setIfInBounds_toArray, List.set_cons_zero, List.set_cons_succ, List.getElem_toArray, List.getElem_cons_zero, List.getElem_cons_succ]
  refine wpAnyH_take (i := 3) (oi := _) (v := ?_) rfl (by kernel_rfl) (by kernel_rfl) (by kernel_rfl) (fun _ _ _ h => h) (Or.inl ⟨by rfl, ?_⟩) (by assumption) ?_
  case refine_2 =>
    intro w9 hSw
    (try dsimp only at hSw)
    go_simp
    (try with_reducible rfl)
  try simp only [Act.put, List.setIfInBounds_toArray, List.set_cons_zero, List.set_cons_succ, List.getElem_toArray, List.getElem_cons_zero, List.getElem_cons_succ]
  refine wpAnyH_take (i := 4) (oi := _) (v := ?_) rfl (by kernel_rfl) (by kernel_rfl) (by kernel_rfl) (fun _ _ _ h => h) (Or.inl ⟨by rfl, ?_⟩) (by assumption) ?_
  case refine_2 =>
    intro w9 hSw
    (try dsimp only at hSw)
    go_simp
    (try with_reducible rfl)
  try simp only [Act.put, List.setIfInBounds_toArray, List.set_cons_zero, List.set_cons_succ, List.getElem_toArray, List.getElem_cons_zero, List.getElem_cons_succ]
  refine wpAnyH_take (i := 5) (oi := _) (v := ?_) rfl (by kernel_rfl) (by kernel_rfl) (by kernel_rfl) (fun _ _ _ h => h) (Or.inl ⟨by rfl, ?_⟩) (by assumption) ?_
  case refine_2 =>
    intro w9 hSw
    (try dsimp only at hSw)
    go_simp
    (try with_reducible rfl)
  try simp only [Act.put, List.setIfInBounds_toArray, List.set_cons_zero, List.set_cons_succ, List.getElem_toArray, List.getElem_cons_zero, List.getElem_cons_succ]
  refine wpAnyH_ready (rs := [1]) (by kernel_rfl) (by simp) ?_
  refine AllReadyH.cons rfl (fun K hK => ?_) AllReadyH.nil
  have pd0 : (w3.drew).cell? ⟨w.heap.size + 1, 0, none⟩ = some (.string s1) := R4d.out.cell 0
  have pd1 : (w3.drew).cell? ⟨w.heap.size + 1, 1, none⟩ = some (.int .i64 0) := R4d.out.cell 1
  have pd2 : (w3.drew).cell? ⟨w.heap.size + 1, 2, none⟩ = some (.bool false) := R4d.out.cell 2
  go_simp
  clear pd0 pd1 pd2
  refine hK.out _ _ ?_ (fun hHeld => ?_)
  case refine_1 => trivial
  clear hK K
  try simp only [List.setIfInBounds_toArray, List.set_cons_zero, List.set_cons_succ]
  refine wpAnyH_take (i := 6) (oi := _) (v := ?_) rfl (by kernel_rfl) (by kernel_rfl) (by kernel_rfl) (fun _ _ _ h => h) (Or.inl ⟨by rfl, ?_⟩) (by assumption) ?_
  case refine_2 =>
    intro w9 hSw
    (try dsimp only at hSw)
    go_simp
    (try with_reducible rfl)
  try simp only [Act.put, List.setIfInBounds_toArray, List.set_cons_zero, List.set_cons_succ, List.getElem_toArray, List.getElem_cons_zero, List.getElem_cons_succ]
  refine wpAnyH_take (i := 7) (oi := _) (v := ?_) rfl (by kernel_rfl) (by kernel_rfl) (by kernel_rfl) (fun _ _ _ h => h) (Or.inl ⟨by rfl, ?_⟩) (by assumption) ?_
  case refine_2 =>
    intro w9 hSw
    (try dsimp only at hSw)
    go_simp
    (try with_reducible rfl)
  try simp only [Act.put, List.setIfInBounds_toArray, List.set_cons_zero, List.set_cons_succ, List.getElem_toArray, List.getElem_cons_zero, List.getElem_cons_succ]
  refine wpAnyH_ready (rs := [8]) (by kernel_rfl) (by simp) ?_
  refine AllReadyH.cons rfl (fun K hK => ?_) AllReadyH.nil
  have pd0 : (w3.drew).cell? ⟨w.heap.size + 1, 0, none⟩ = some (.string s1) := R4d.out.cell 0
  have fd0 : (w3.drew).frozen? ⟨w.heap.size + 1, 0, none⟩ = false := R4d.out.frozen 0
  have pd1 : (w3.drew).cell? ⟨w.heap.size + 1, 1, none⟩ = some (.int .i64 0) := R4d.out.cell 1
  have fd1 : (w3.drew).frozen? ⟨w.heap.size + 1, 1, none⟩ = false := R4d.out.frozen 1
  have pd2 : (w3.drew).cell? ⟨w.heap.size + 1, 2, none⟩ = some (.bool false) := R4d.out.cell 2
  have fd2 : (w3.drew).frozen? ⟨w.heap.size + 1, 2, none⟩ = false := R4d.out.frozen 2
  go_simp
  rw [cell0_3d R4d.out]
  have SR9 := Lib.hid (R4d.out.put #[.string (s1 ++ s4), .int .i64 0, .bool false])
  have SL8 := Lib.hid (HL3.out.trans (HR4.out.mono HL3.out.size))
  have SL9 := Lib.hid (SL8.out.trans (putB_below w3.drew _ 64 #[.string (s1 ++ s4), .int .i64 0, .bool false] (by omega : w.heap.size ≤ w.heap.size + 1)))
  have SO9r := Lib.hid (R4r.out.far (t' := 64) (by omega : w.heap.size ≠ w.heap.size + 1) #[.string (s1 ++ s4), .int .i64 0, .bool false])
  clear pd0 fd0 pd1 fd1 pd2 fd2
  obtain ⟨w9, hw⟩ : ∃ z9 : World, z9 = putB w3.drew (w.heap.size + 1) 64 #[.string (s1 ++ s4), .int .i64 0, .bool false] := ⟨_, rfl⟩
  rw [← hw] at SR9 SL9 SO9r ⊢
  clear hw hHeld
  refine hK.out _ _ ?_ (fun hHeld => ?_)
  case refine_1 => trivial
  clear hK K
  try simp only [List.setIfInBounds_toArray, List.set_cons_zero, List.set_cons_succ]
  refine wpAnyH_done (by kernel_rfl) ?_ _
  obtain ⟨pr0, fr0, pr1, fr1, pr2, fr2⟩ := SO9r.out.all3
  obtain ⟨pd0, fd0, pd1, fd1, pd2, fd2⟩ := SR9.out.all3
  go_wp2_with fail
  rw [cell1_3 SR9.out]
  have FR8 := Lib.hid (SO9r.out.far (t' := 64) (by omega : w.heap.size ≠ w.heap.size + 1) #[.string (s1 ++ s4), .int .i64 (K : Int), .bool false])
  have HL8 := Lib.hid (SL9.out.trans (putB_below w9 _ 64 #[.string (s1 ++ s4), .int .i64 (K : Int), .bool false] (by omega : w.heap.size ≤ w.heap.size + 1)))
  rw [store3_put FR8.out]
  have FR9 := Lib.hid (FR8.out.put #[.string (s1 ++ s4), .int .i64 (K : Int), .bool false])
  have HL9 := Lib.hid (HL8.out.trans (putB_below (putB w9 (w.heap.size + 1) 64 #[.string (s1 ++ s4), .int .i64 (K : Int), .bool false]) _ 64 #[.string (s1 ++ s4), .int .i64 (K : Int), .bool false] (Nat.le_refl _)))
  clear pr0 fr0 pr1 fr1 pr2 fr2 pd0 fd0 pd1 fd1 pd2 fd2
  obtain ⟨w9, hw⟩ : ∃ z9 : World, z9 = putB (putB w9 (w.heap.size + 1) 64 #[.string (s1 ++ s4), .int .i64 (K : Int), .bool false]) (w.heap.size) 64 #[.string (s1 ++ s4), .int .i64 (K : Int), .bool false] := ⟨_, rfl⟩
  rw [← hw] at FR9 HL9 ⊢
  clear hw
  have pr0 : (w9).cell? ⟨w.heap.size, 0, none⟩ = some (.string (s1 ++ s4)) := FR9.out.cell 0
  have pr1 : (w9).cell? ⟨w.heap.size, 1, none⟩ = some (.int .i64 (K : Int)) := FR9.out.cell 1
  have pr2 : (w9).cell? ⟨w.heap.size, 2, none⟩ = some (.bool false) := FR9.out.cell 2
  refine bodyPost_ret (v := .tuple #[.agg #[.string (s1 ++ s4), .int .i64 (K : Int), .bool false], .string s5, .bool true]) (by simp [results, Tryz.results37, go_sem, pr0, pr1, pr2]) rfl ?_
  rw [HR.out]
  exact ⟨_, _, by rw [HNG.out], Lib.hid (by rw [ByteArray.data_append, Array.toList_append, HS1.out, HS4.out]), Lib.hid HS5.out, HL9⟩
set_option maxHeartbeats 8000000 in
theorem read11_noneA (s : ByteArray) (l : List UInt8) (w : World) (hl : s.data.toList = l) (hs : s.size ≤ 100000) (hd : l = []) (hn : (rsD l).takeWhile Nm.isDig = []) :
    Calls Tryz.prog 37 #[.string s] w (RdRP (rdR l) w) := by
  have hll : l.length = s.size := by rw [← hl]; rfl
  obtain ⟨lt, hlt⟩ : ∃ lt, l = lt := ⟨_, rfl⟩
  have hs2 := hs
  have ht' : s.data.toList = lt := by rw [hl, hlt]
  have hsz : s.size = 0 := by rw [← hll, hd]; rfl
  have d0 : decide ((0 : Int) < (s.size : Int)) = false := decide_eq_false (by omega)
  have d0' : decide (0 < s.size) = false := decide_eq_false (by omega)
  have HT := Lib.hid ht'
  have hng : ngD l = false := by rw [hd]; rfl
  have hrs : rsD l = lt := by unfold rsD; rw [hng]; exact hlt
  have HRS := Lib.hid hrs
  have HNG := Lib.hid hng
  have HL := Lib.hid hl
  clear hl hll hd hlt ht' hrs hng hsz
  have HN := Lib.hid (show (lt.takeWhile Nm.isDig).length = 0 by rw [← HRS.out, hn]; rfl)
  have HR := Lib.hid (show rdR l = (⟨[], 0, ngD l⟩, rsD l, false) by unfold rdR; rw [if_pos hn])
  clear hn
  go_enter Tryz.func37, Tryz.ntmps37
  go_wp2_with fail
  obtain ⟨w1, hw⟩ : ∃ z9 : World, z9 = ((w.alloc (.cells #[.string ⟨#[]⟩, .int .i64 0, .bool false] 64)).alloc (.cells #[.string ⟨#[]⟩, .int .i64 0, .bool false] 64)) := ⟨_, rfl⟩
  have HB1 := Lib.hid (show Below w.heap.size w w1 by rw [hw]; exact below_a2 _ _ _)
  have F1r := Lib.hid (show Blk w1 (w.heap.size) 64 #[.string ⟨#[]⟩, .int .i64 0, .bool false] by rw [hw]; exact (Blk.new _ _ _).alloc _)
  have F1d := Lib.hid (show Blk w1 (w.heap.size + 1) 64 #[.string ⟨#[]⟩, .int .i64 0, .bool false] by rw [hw]; exact Blk.new1 _ _ _ _)
  rw [← hw]
  clear hw
  refine (digits11 s lt w1 HT.out hs2).mono ?_
  rw [HN.out]
  rintro e w2 ⟨rfl, HB2⟩
  have F2r := Lib.hid (F1r.out.belowW HB2.out)
  have F2d := Lib.hid (F1d.out.belowW HB2.out)
  have HL2 := Lib.hid (HB1.out.trans (HB2.out.mono HB1.out.size))
  obtain ⟨pr0, fr0, pr1, fr1, pr2, fr2⟩ := F2r.out.all3
  obtain ⟨pd0, fd0, pd1, fd1, pd2, fd2⟩ := F2d.out.all3
  go_wp2_with fail
  rw [store3_put F2r.out]
  have FR9 := Lib.hid (F2r.out.put #[.string ⟨#[]⟩, .int .i64 0, .bool false])
  have HL9 := Lib.hid (HL2.out.trans (putB_below w2 _ 64 #[.string ⟨#[]⟩, .int .i64 0, .bool false] (Nat.le_refl _)))
  clear pr0 fr0 pr1 fr1 pr2 fr2 pd0 fd0 pd1 fd1 pd2 fd2
  obtain ⟨w9, hw⟩ : ∃ z9 : World, z9 = putB w2 (w.heap.size) 64 #[.string ⟨#[]⟩, .int .i64 0, .bool false] := ⟨_, rfl⟩
  rw [← hw] at FR9 HL9 ⊢
  clear hw
  have pr0 : (w9).cell? ⟨w.heap.size, 0, none⟩ = some (.string ⟨#[]⟩) := FR9.out.cell 0
  have pr1 : (w9).cell? ⟨w.heap.size, 1, none⟩ = some (.int .i64 0) := FR9.out.cell 1
  have pr2 : (w9).cell? ⟨w.heap.size, 2, none⟩ = some (.bool false) := FR9.out.cell 2
  refine bodyPost_ret (v := .tuple #[.agg #[.string ⟨#[]⟩, .int .i64 0, .bool false], .string s, .bool false]) (by simp [results, Tryz.results37, go_sem, pr0, pr1, pr2]) rfl ?_
  rw [HR.out]
  exact ⟨_, _, by rw [HNG.out]; rfl, Lib.hid rfl, Lib.hid (by rw [HRS.out]; exact HT.out), HL9⟩
theorem read11_any (s : ByteArray) (l : List UInt8) (w : World) (hl : s.data.toList = l) (hs : s.size ≤ 100000) :
    Calls Tryz.prog 37 #[.string s] w (RdRP (rdR l) w) := by
  cases hd : l.head? with
  | none =>
    have h0 : l = [] := List.head?_eq_none_iff.1 hd
    exact read11_noneA s l w hl hs h0 (by rw [h0]; rfl)
  | some q0 =>
    by_cases hn : (rsD l).takeWhile Nm.isDig = []
    · by_cases hq : q0 = 45
      · subst hq; exact read11_dashA s l w hl hs hd hn
      · exact read11_noA s l w hl hs q0 hd hq hn
    · cases hr : (rsD l).dropWhile Nm.isDig with
      | nil =>
        by_cases hq : q0 = 45
        · subst hq; exact read11_dashB s l w hl hs hd hn hr
        · exact read11_noB s l w hl hs q0 hd hq hn hr
      | cons q r3 =>
        by_cases hp : q = 46
        · subst hp
          by_cases hk : r3.takeWhile Nm.isDig = []
          · by_cases hq : q0 = 45
            · subst hq; exact read11_dashD s l w hl hs hd r3 hn hr hk
            · exact read11_noD s l w hl hs q0 hd hq r3 hn hr hk
          · by_cases hq : q0 = 45
            · subst hq; exact read11_dashE s l w hl hs hd r3 hn hr hk
            · exact read11_noE s l w hl hs q0 hd hq r3 hn hr hk
        · by_cases hq : q0 = 45
          · subst hq; exact read11_dashC s l w hl hs hd q hn (by rw [hr]; rfl) hp
          · exact read11_noC s l w hl hs q0 hd hq q hn (by rw [hr]; rfl) hp
end Go.Proofs.YtffdkakogeofmaaGreatDoor
