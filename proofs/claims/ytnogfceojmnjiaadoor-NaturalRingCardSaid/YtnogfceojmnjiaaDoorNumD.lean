/-
  Walks of Cmp, done; new slices.
-/
import Derived.Test.YtnogfceojmnjiaaDoorNumC
namespace Go.Proofs.YtnogfceojmnjiaaDoor
open Go.RowKit Go.Fl Go.Fl.Nm

theorem drewN_drewN (w : World) (a b : Nat) : (w.drewN a).drewN b = w.drewN (a + b) := by
  unfold World.drewN; simp [Nat.add_assoc]

theorem drew1 {w wr : World} (h : ∃ q, wr = w.drewN q) (k : Nat) : ∃ q, wr.drewN k = w.drewN q := by
  obtain ⟨q, rfl⟩ := h
  exact ⟨_, drewN_drewN w q k⟩

def CmpPost (w : World) (r : Int) (e : Ending) (w' : World) : Prop := e = .returned (.int .i64 r) ∧ ∃ q, w' = w.drewN q

set_option maxHeartbeats 800000 in
set_option maxRecDepth 100000 in
theorem cmp_any (A B : Option Addr) (n c m d : Nat) (a b : List Nat) (w : World) (ha : Sl w A n c a) (hb : Sl w B m d b) :
    Calls Tryd.prog 11 #[.slice A n c, .slice B m d] w (CmpPost w (cmpN (val a) (val b))) := by
  have hna := ha.max
  have hmb := hb.max
  unfold maxLen at hna hmb
  have HA := Lib.hid ha
  have HB := Lib.hid hb
  have hta : tl a ≤ n := by rw [← ha.len]; exact tl_le a
  have htb : tl b ≤ m := by rw [← hb.len]; exact tl_le b
  clear ha hb
  generalize hx : tl a = x at *
  generalize hy : tl b = y at *
  have HX := Lib.hid hx
  have HY := Lib.hid hy
  clear hx hy
  by_cases hlt : x < y
  · have HV := Lib.hid (cmpN_lt (val_lt_of_len HA.out.ok (show tl a < tl b by rw [HX.out, HY.out]; exact hlt)))
    have hne : ((x : Int) != y) = true := by rw [bne_iff_ne]; omega
    go_enter Tryd.func11, Tryd.ntmps11
    go_wp2_with fail
    refine (trim_any A n c a w HA.out).mono ?_
    rintro e w1 ⟨rfl, rfl⟩
    rw [HX.out]
    go_wp2_with fail
    refine (trim_any B m d b w HB.out).mono ?_
    rintro e w1 ⟨rfl, rfl⟩
    rw [HY.out]
    go_wp2_with fail
    go_ret
    exact ⟨ret_int HV.out.symm, 0, rfl⟩
  by_cases hgt : y < x
  · have HV := Lib.hid (cmpN_gt (val_lt_of_len HB.out.ok (show tl b < tl a by rw [HX.out, HY.out]; exact hgt)))
    have hne : ((x : Int) != y) = true := by rw [bne_iff_ne]; omega
    go_enter Tryd.func11, Tryd.ntmps11
    go_wp2_with fail
    refine (trim_any A n c a w HA.out).mono ?_
    rintro e w1 ⟨rfl, rfl⟩
    rw [HX.out]
    go_wp2_with fail
    refine (trim_any B m d b w HB.out).mono ?_
    rintro e w1 ⟨rfl, rfl⟩
    rw [HY.out]
    go_wp2_with fail
    go_ret
    exact ⟨ret_int HV.out.symm, 0, rfl⟩
  obtain rfl : y = x := by omega
  have hne : ((y : Int) != y) = false := by simp
  clear hlt hgt
  go_enter Tryd.func11, Tryd.ntmps11
  go_wp2_with fail
  refine (trim_any A n c a w HA.out).mono ?_
  rintro e w1 ⟨rfl, rfl⟩
  rw [HX.out]
  go_wp2_with fail
  refine (trim_any B m d b w HB.out).mono ?_
  rintro e w1 ⟨rfl, rfl⟩
  rw [HY.out]
  go_wp2_with fail
  go_loopg [5] y (fun k i wr => i = .int .i64 ((k : Int) - 1) ∧ k ≤ y ∧ Hid ((a.take y).drop k = (b.take y).drop k) ∧ Hid (∃ q, wr = w.drewN q))
  case atStart => exact ⟨rfl, by omega, Lib.hid (by rw [List.drop_eq_nil_of_le (List.length_take_le _ _), List.drop_eq_nil_of_le (List.length_take_le _ _)]), Lib.hid ⟨0, rfl⟩⟩
  case round =>
    obtain ⟨rfl, hk, HD, HQ⟩ := hrel
    cases gk with
    | zero =>
      have HV := Lib.hid (cmpN_eq (show val a = val b by
        have := HD.out
        rw [List.drop_zero, List.drop_zero] at this
        rw [← val_trim a, ← val_trim b, HX.out, HY.out, this]))
      rw [show ((0 : Nat) : Int) - 1 = -1 by omega]
      go_wp2_with fail
      go_ret
      exact ⟨ret_int HV.out.symm, HQ.out⟩
    | succ j =>
      rw [show ((j + 1 : Nat) : Int) - 1 = j by omega]
      obtain ⟨b1, o1, x1, hA, hb1, hx1, hxB1, hcell1⟩ := HA.out.at_ (i := j) (by omega)
      obtain ⟨b2, o2, x2, hB, hb2, hx2, hxB2, hcell2⟩ := HB.out.at_ (i := j) (by omega)
      subst hA hB
      have hc1 : wr.cell? ⟨b1, o1 + j, none⟩ = some (.int .u32 x1) := by obtain ⟨q, rfl⟩ := HQ.out; exact hcell1
      have hc2 : wr.cell? ⟨b2, o2 + j, none⟩ = some (.int .u32 x2) := by obtain ⟨q, rfl⟩ := HQ.out; exact hcell2
      clear hcell1 hcell2
      have HX1 := Lib.hid (show (a.take y)[j]? = some x1 by rw [List.getElem?_take_of_lt (by omega)]; exact hx1)
      have HX2 := Lib.hid (show (b.take y)[j]? = some x2 by rw [List.getElem?_take_of_lt (by omega)]; exact hx2)
      have HVA := Lib.hid (show val (a.take y) = val a by have := val_trim a; rwa [HX.out] at this)
      have HVB := Lib.hid (show val (b.take y) = val b by have := val_trim b; rwa [HY.out] at this)
      have i0 : (0 : Int) ≤ j := by omega
      have i1 : (j : Int) < y := by omega
      unfold BB at hxB1 hxB2
      clear hx1 hx2
      by_cases hl : x1 < x2
      · have HV := Lib.hid (cmpN_lt (val_lt_of_top (ok_take HA.out.ok y) HX1.out HX2.out hl HD.out))
        rw [HVA.out, HVB.out] at HV
        go_wp2_with fail
        go_quiet (fail)
        go_wp2_with fail
        go_ret
        exact ⟨ret_int HV.out.symm, drew1 HQ.out _⟩
      by_cases hg : x2 < x1
      · have HV := Lib.hid (cmpN_gt (val_lt_of_top (ok_take HB.out.ok y) HX2.out HX1.out hg HD.out.symm))
        rw [HVA.out, HVB.out] at HV
        have d1 : decide (x1 < x2) = false := by simp; omega
        go_wp2_with fail
        go_quiet (fail)
        go_wp2_with fail
        go_quiet (fail)
        go_wp2_with fail
        go_ret
        exact ⟨ret_int HV.out.symm, by first | exact drew1 (drew1 HQ.out _) _ | exact drew1 HQ.out _⟩
      · obtain rfl : x1 = x2 := by omega
        have HD' := Lib.hid (show (a.take y).drop j = (b.take y).drop j by rw [drop_at HX1.out, drop_at HX2.out, HD.out])
        have d1 : decide (x1 < x1) = false := by simp
        clear hl hg
        go_wp2_with fail
        go_quiet (fail)
        go_wp2_with fail
        go_quiet (fail)
        go_wp2_with fail
        go_roundg j
        case measure => omega
        case rel => exact ⟨by first | rfl | go_num, by omega, HD', Lib.hid (by first | exact drew1 (drew1 HQ.out _) _ | exact drew1 HQ.out _)⟩
end Go.Proofs.YtnogfceojmnjiaaDoor
