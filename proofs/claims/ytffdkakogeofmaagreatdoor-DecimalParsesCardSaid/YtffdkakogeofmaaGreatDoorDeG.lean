/-
  The walk of the reference's value.
-/
import Derived.Test.YtffdkakogeofmaaGreatDoorDeF
set_option linter.unusedVariables false
namespace Go.Proofs.YtffdkakogeofmaaGreatDoor
open Go.RowKit Go.Fl Go.Fl.Nm Go.Fl.Dy
theorem take_snoc {l : List UInt8} {j : Nat} {q : UInt8} (h : l[j]? = some q) : l.take (j + 1) = l.take j ++ [q] := by
  rw [List.take_add_one, h]; rfl
theorem all_take {l : List UInt8} (h : l.all Nm.isDig = true) (j : Nat) : (l.take j).all Nm.isDig = true := by
  rw [List.all_eq_true]
  intro x hx
  exact List.all_eq_true.1 h x (List.mem_of_mem_take hx)
theorem dval_bits {l : List UInt8} (h : l.all Nm.isDig = true) (hs : l.length ≤ 600) : blen (dval l) ≤ 3200 := by
  have h1 := blen_mono (Nat.le_of_lt (dval_lt l h))
  have h2 := blen_ten l.length
  omega
def ValRel (w w0 : World) (l : List UInt8) (k : Nat) (iv ov : Value) (wr : World) : Prop :=
  ∃ (A : Option Addr) (m c j : Nat), ov = .slice A m c ∧ iv = .int .i64 (j : Int) ∧ l.length - j = k ∧ j ≤ l.length ∧ Hid (Sl wr A m c (limbs (dval (l.take j)))) ∧ Hid (Below w0.heap.size w0 wr)
set_option maxHeartbeats 4000000 in
theorem value11 (s : ByteArray) (l : List UInt8) (b : Int) (neg : Bool) (w : World) (hl : s.data.toList = l) (hd : l.all Nm.isDig = true) (hs : l.length ≤ 600) :
    Calls Tryz.prog 71 #[.agg #[.string s, .int .i64 b, .bool neg]] w (SlQ (dval l) w) := by
  have hll : l.length = s.size := by rw [← hl]; rfl
  have HL0 := Lib.hid hl
  have HD0 := Lib.hid hd
  have HBT := Lib.hid (fun (j : Nat) => show blen (dval (l.take j)) ≤ 32 * 100 from dval_bits (all_take hd j) (Nat.le_trans (by rw [List.length_take]; omega) hs))
  have HBE := Lib.hid (show blen (dval l) ≤ 32 * 100 from dval_bits hd hs)
  have K1 := Lib.hid (show 100 ≤ 100000 by omega)
  have K2 := Lib.hid (show 100 ≤ 1000000 by omega)
  have K3 := Lib.hid (show 1 ≤ 100000 by omega)
  have K4 := Lib.hid (show 1 ≤ 900000 by omega)
  have K5 := Lib.hid (show 200 ≤ 900000 by omega)
  clear hd
  go_enter Tryz.func71, Tryz.ntmps71
  go_wp2_with fail
  obtain ⟨w1, hw⟩ : ∃ z9 : World, z9 = (w.alloc (.cells #[.string s, .int .i64 b, .bool neg] 64)) := ⟨_, rfl⟩
  have HB1 := Lib.hid (show Below w.heap.size w w1 by rw [hw]; exact below_a1 _ _)
  have F1d := Lib.hid (show Blk w1 (w.heap.size) 64 #[.string s, .int .i64 b, .bool neg] by rw [hw]; exact Blk.new _ _ _)
  rw [← hw]
  clear hw
  go_loopg [4, 3] l.length (ValRel w w1 l)
  case atStart => exact ⟨none, 0, 0, 0, rfl, rfl, rfl, Nat.zero_le _, Lib.hid (by rw [List.take_zero, show dval [] = 0 from rfl, limbs_zero]; exact Sl.none_ _), Lib.hid (Below.refl _ _)⟩
  case round =>
    obtain ⟨A, m, c, j, rfl, rfl, hk, hj, HS, HL⟩ := hrel
    have FWd := Lib.hid (F1d.out.belowW HL.out)
    have HLL := Lib.hid (HB1.out.trans (HL.out.mono HB1.out.size))
    have HLS := Lib.hid hll
    by_cases hjl : j < l.length
    case pos =>
      have d1 : decide ((j : Int) < (s.size : Int)) = true := decide_eq_true (by omega)
      have d1' : decide (j < s.size) = true := decide_eq_true (by omega)
      have hjs : j < s.size := by omega
      have b0 : (0 : Int) ≤ (j : Int) := by omega
      have b1 : (j : Int) < (s.size : Int) := by omega
      obtain ⟨q, hq⟩ : ∃ q, s[j] = q := ⟨_, rfl⟩
      have hlq : l[j]? = some q := by
        rw [← hq, ← HL0.out]
        exact List.getElem?_eq_getElem (l := s.data.toList) hjs
      have hdq : Nm.isDig q = true := List.all_eq_true.1 HD0.out q (List.mem_of_getElem? hlq)
      have hq1 : 48 ≤ q.toNat ∧ q.toNat ≤ 57 := by
        unfold Nm.isDig at hdq
        rw [Bool.and_eq_true] at hdq
        exact ⟨of_decide_eq_true hdq.1, of_decide_eq_true hdq.2⟩
      have HSN := Lib.hid (show dval (l.take (j + 1)) = 10 * dval (l.take j) + (q.toNat - 48) by rw [take_snoc hlq, dval_snoc])
      have HPM := Lib.hid (show val (limbs (dval (l.take j))) * val [10] = 10 * dval (l.take j) by rw [val_limbs, val_cons, val_nil, Nat.mul_zero, Nat.add_zero, Nat.mul_comm])
      have HPA := Lib.hid (show val (limbs (10 * dval (l.take j))) + val [q.toNat - 48] = dval (l.take (j + 1)) by rw [val_limbs, val_cons, val_nil, HSN.out, Nat.mul_zero, Nat.add_zero])
      have HBM := Lib.hid (show blen (10 * dval (l.take j)) ≤ 32 * 200 by have := blen_mul_le' 10 (dval (l.take j)); have := HBT.out j; have : blen 10 ≤ 4 := blen_le (by omega); omega)
      have q2 : IntKind.u8.wrap ((q.toNat : Int) - 48) = ((q.toNat - 48 : Nat) : Int) := by rw [IntKind.wrap_u8]; omega
      have q3 : IntKind.u32.wrap ((q.toNat - 48 : Nat) : Int) = ((q.toNat - 48 : Nat) : Int) := by rw [IntKind.wrap_u32]; omega
      clear hdq hlq
      obtain ⟨pd0, fd0, pd1, fd1, pd2, fd2⟩ := FWd.out.all3
      go_wp2_with fail
      clear pd0 fd0 pd1 fd1 pd2 fd2
      have HR6 := Lib.hid (below_dr wr)
      have R6d := Lib.hid (FWd.out.belowW HR6.out)
      have R6o := Lib.hid (HS.out.belowW HR6.out)
      refine wp_region_held_drew (S := fun w' => w'.cell? ⟨w.heap.size, 0, none⟩ = some (.string s) ∧ w'.cell? ⟨w.heap.size, 1, none⟩ = some (.int .i64 b) ∧ w'.cell? ⟨w.heap.size, 2, none⟩ = some (.bool neg)) (by kernel_rfl) ?_ (fun hHeld => ?_)
      case refine_1 => exact ⟨R6d.out.cell 0, R6d.out.cell 1, R6d.out.cell 2⟩
      obtain ⟨wd6, hwd⟩ : ∃ z9 : World, z9 = wr.drew := ⟨_, rfl⟩
      rw [← hwd] at HR6 R6d R6o hHeld ⊢
      clear hwd
      refine wpAnyH_take (i := 0) (oi := _) (v := ?_) rfl (by kernel_rfl) (by kernel_rfl) (by kernel_rfl) (fun _ _ _ h => h) (Or.inl ⟨by rfl, ?_⟩) (by assumption) ?_
      case refine_2 =>
        intro w9 hSw
        (try dsimp only at hSw)
        go_simp
        (try with_reducible rfl)
      try simp only [Act.put, List.setIfInBounds_toArray, List.set_cons_zero, List.set_cons_succ, List.getElem_toArray, List.getElem_cons_zero]
      refine wpAnyH_take (i := 3) (oi := _) (v := ?_) rfl (by kernel_rfl) (by kernel_rfl) (by kernel_rfl) (fun _ _ _ h => h) (Or.inl ⟨by rfl, ?_⟩) (by assumption) ?_
      case refine_2 =>
        intro w9 hSw
        (try dsimp only at hSw)
        go_simp
        (try with_reducible rfl)
      try simp only [Act.put, List.setIfInBounds_toArray, List.set_cons_zero, List.set_cons_succ, List.getElem_toArray, List.getElem_cons_zero, List.getElem_cons_succ]
      refine wpAnyH_take (i := 4) (oi := _) (v := ?_) rfl (by kernel_rfl) (by kernel_rfl) (by kernel_rfl) (fun _ _ _ h => h) (Or.inl ⟨by rfl, ?_⟩) (by assumption) ?_
      case refine_2 =>
        intro w9 hSw
        (try dsimp only at hSw)
        go_simp
        (try with_reducible rfl)
      try simp only [Act.put, List.setIfInBounds_toArray, List.set_cons_zero, List.set_cons_succ, List.getElem_toArray, List.getElem_cons_zero, List.getElem_cons_succ]
      refine wpAnyH_take (i := 5) (oi := _) (v := ?_) rfl (by kernel_rfl) (by kernel_rfl) (by kernel_rfl) (fun _ _ _ h => h) (Or.inl ⟨by rfl, ?_⟩) (by assumption) ?_
      case refine_2 =>
        intro w9 hSw
        (try dsimp only at hSw)
        go_simp
        (try with_reducible rfl)
      try simp only [Act.put, List.setIfInBounds_toArray, List.set_cons_zero, List.set_cons_succ, List.getElem_toArray, List.getElem_cons_zero, List.getElem_cons_succ]
      refine wpAnyH_take (i := 6) (oi := _) (v := ?_) rfl (by kernel_rfl) (by kernel_rfl) (by kernel_rfl) (fun _ _ _ h => h) (Or.inl ⟨by rfl, ?_⟩) (by assumption) ?_
      case refine_2 =>
        intro w9 hSw
        (try dsimp only at hSw)
        go_simp
        (try with_reducible rfl)
      try simp only [Act.put, List.setIfInBounds_toArray, List.set_cons_zero, List.set_cons_succ, List.getElem_toArray, List.getElem_cons_zero, List.getElem_cons_succ]
      refine wpAnyH_take (i := 7) (oi := _) (v := ?_) rfl (by kernel_rfl) (by kernel_rfl) (by kernel_rfl) (fun _ _ _ h => h) (Or.inl ⟨by rfl, ?_⟩) (by assumption) ?_
      case refine_2 =>
        intro w9 hSw
        (try dsimp only at hSw)
        go_simp
        (try with_reducible rfl)
      try simp only [Act.put, List.setIfInBounds_toArray, List.set_cons_zero, List.set_cons_succ, List.getElem_toArray, List.getElem_cons_zero, List.getElem_cons_succ]
      refine wpAnyH_take (i := 8) (oi := _) (v := ?_) rfl (by kernel_rfl) (by kernel_rfl) (by kernel_rfl) (fun _ _ _ h => h) (Or.inl ⟨by rfl, ?_⟩) (by assumption) ?_
      case refine_2 =>
        intro w9 hSw
        (try dsimp only at hSw)
        go_simp
        (try with_reducible rfl)
      try simp only [Act.put, List.setIfInBounds_toArray, List.set_cons_zero, List.set_cons_succ, List.getElem_toArray, List.getElem_cons_zero, List.getElem_cons_succ]
      refine wpAnyH_ready (rs := [1, 9]) (by kernel_rfl) (by simp) ?_
      refine (AllReadyH.cons rfl (fun K hK => ?_) (AllReadyH.cons rfl (fun K hK => ?_) AllReadyH.nil))
      · go_simp
        obtain ⟨w7, hw⟩ : ∃ z9 : World, z9 = (wd6).alloc (.cells #[.int .u32 10] 49) := ⟨_, rfl⟩
        have HC7 := Lib.hid (show Below (wd6).heap.size (wd6) w7 by rw [hw]; exact below_a1 _ _)
        have R7d := Lib.hid (R6d.out.belowW HC7.out)
        have R7o := Lib.hid (R6o.out.belowW HC7.out)
        have HR7 := Lib.hid (HR6.out.trans (HC7.out.mono HR6.out.size))
        have R7t := Lib.hid (show Sl w7 (some ⟨(wd6.heap.size), 0, none⟩) 1 1 [10] by rw [hw]; exact Sl.one (x := 10) (Blk.new _ _ _) (by unfold BB; omega))
        rw [← hw]
        clear hw
        refine hK.out _ _ ?_ (fun hHeld => ?_)
        case refine_1 => exact ⟨R7d.out.cell 0, R7d.out.cell 1, R7d.out.cell 2⟩
        clear hK K
        try simp only [List.setIfInBounds_toArray, List.set_cons_zero, List.set_cons_succ]
        refine wpAnyH_ready (rs := [2, 9]) (by kernel_rfl) (by simp) ?_
        refine (AllReadyH.cons rfl (fun K hK => ?_) (AllReadyH.cons rfl (fun K hK => ?_) AllReadyH.nil))
        · go_simp
          (with_reducible refine (rMul A (some ⟨(wd6.heap.size), 0, none⟩) m c 1 1 (limbs (dval (l.take j))) [10] _ R7o.out R7t.out (Nat.le_trans (R7o.out.lim (HBT.out j)) K1.out) K3.out).mono ?_)
          rw [HPM.out]
          rintro e w8 ⟨P, p, pc, rfl, HP, HC8⟩
          have R8d := Lib.hid (R7d.out.belowW HC8.out)
          have R8o := Lib.hid (R7o.out.belowW HC8.out)
          have R8t := Lib.hid (R7t.out.belowW HC8.out)
          have HR8 := Lib.hid (HR7.out.trans (HC8.out.mono HR7.out.size))
          have R8m := Lib.hid (HP.out.sl)
          go_wp2_with fail
          clear hHeld
          refine hK.out _ _ ?_ (fun hHeld => ?_)
          case refine_1 => exact ⟨R8d.out.cell 0, R8d.out.cell 1, R8d.out.cell 2⟩
          clear hK K
          try simp only [List.setIfInBounds_toArray, List.set_cons_zero, List.set_cons_succ]
          refine wpAnyH_ready (rs := [9]) (by kernel_rfl) (by simp) ?_
          refine (AllReadyH.cons rfl (fun K hK => ?_) AllReadyH.nil)
          go_simp
          obtain ⟨w9, hw⟩ : ∃ z9 : World, z9 = (w8).alloc (.cells #[.int .u32 ((q.toNat - 48 : Nat) : Int)] 49) := ⟨_, rfl⟩
          have HC9 := Lib.hid (show Below (w8).heap.size (w8) w9 by rw [hw]; exact below_a1 _ _)
          have R9d := Lib.hid (R8d.out.belowW HC9.out)
          have R9o := Lib.hid (R8o.out.belowW HC9.out)
          have R9t := Lib.hid (R8t.out.belowW HC9.out)
          have R9m := Lib.hid (R8m.out.belowW HC9.out)
          have HR9 := Lib.hid (HR8.out.trans (HC9.out.mono HR8.out.size))
          have R9q := Lib.hid (show Sl w9 (some ⟨(w8.heap.size), 0, none⟩) 1 1 [q.toNat - 48] by rw [hw]; exact Sl.one (x := q.toNat - 48) (Blk.new _ _ _) (by unfold BB; omega))
          rw [← hw]
          clear hw
          refine hK.out _ _ ?_ (fun hHeld => ?_)
          case refine_1 => exact ⟨R9d.out.cell 0, R9d.out.cell 1, R9d.out.cell 2⟩
          clear hK K
          try simp only [List.setIfInBounds_toArray, List.set_cons_zero, List.set_cons_succ]
          refine wpAnyH_ready (rs := [10]) (by kernel_rfl) (by simp) ?_
          refine (AllReadyH.cons rfl (fun K hK => ?_) AllReadyH.nil)
          go_simp
          (with_reducible refine (rAdd P (some ⟨(w8.heap.size), 0, none⟩) p pc 1 1 (limbs (10 * dval (l.take j))) [q.toNat - 48] _ R9m.out R9q.out (Nat.le_trans (R9m.out.lim HBM.out) K5.out) K4.out).mono ?_)
          rw [HPA.out]
          rintro e w10 ⟨U, u, uc, rfl, HU, HC10⟩
          have R10d := Lib.hid (R9d.out.belowW HC10.out)
          have R10o := Lib.hid (R9o.out.belowW HC10.out)
          have R10t := Lib.hid (R9t.out.belowW HC10.out)
          have R10m := Lib.hid (R9m.out.belowW HC10.out)
          have R10q := Lib.hid (R9q.out.belowW HC10.out)
          have HR10 := Lib.hid (HR9.out.trans (HC10.out.mono HR9.out.size))
          have R10u := Lib.hid (HU.out.sl)
          go_wp2_with fail
          clear hHeld
          refine hK.out _ _ ?_ (fun hHeld => ?_)
          case refine_1 => exact ⟨R10d.out.cell 0, R10d.out.cell 1, R10d.out.cell 2⟩
          clear hK K
          try simp only [List.setIfInBounds_toArray, List.set_cons_zero, List.set_cons_succ]
          refine wpAnyH_take (i := 11) (oi := _) (v := ?_) rfl (by kernel_rfl) (by kernel_rfl) (by kernel_rfl) (fun _ _ _ h => h) (Or.inl ⟨by rfl, ?_⟩) (by assumption) ?_
          case refine_2 =>
            intro w9 hSw
            (try dsimp only at hSw)
            go_simp
            (try with_reducible rfl)
          try simp only [Act.put, List.setIfInBounds_toArray, List.set_cons_zero, List.set_cons_succ, List.getElem_toArray, List.getElem_cons_zero, List.getElem_cons_succ]
          refine wpAnyH_done (by kernel_rfl) ?_ _
          have HL11 := Lib.hid (HLL.out.trans (HR10.out.mono HLL.out.size))
          go_wp2_with fail
          go_roundg (l.length - (j + 1))
          case measure => omega
          case rel => exact ⟨U, u, uc, j + 1, rfl, by go_num, rfl, by omega, R10u, Lib.hid (HL.out.trans (HR10.out.mono HL.out.size))⟩
        · go_simp
          obtain ⟨w8, hw⟩ : ∃ z9 : World, z9 = (w7).alloc (.cells #[.int .u32 ((q.toNat - 48 : Nat) : Int)] 49) := ⟨_, rfl⟩
          have HC8 := Lib.hid (show Below (w7).heap.size (w7) w8 by rw [hw]; exact below_a1 _ _)
          have R8d := Lib.hid (R7d.out.belowW HC8.out)
          have R8o := Lib.hid (R7o.out.belowW HC8.out)
          have R8t := Lib.hid (R7t.out.belowW HC8.out)
          have HR8 := Lib.hid (HR7.out.trans (HC8.out.mono HR7.out.size))
          have R8q := Lib.hid (show Sl w8 (some ⟨(w7.heap.size), 0, none⟩) 1 1 [q.toNat - 48] by rw [hw]; exact Sl.one (x := q.toNat - 48) (Blk.new _ _ _) (by unfold BB; omega))
          rw [← hw]
          clear hw
          refine hK.out _ _ ?_ (fun hHeld => ?_)
          case refine_1 => exact ⟨R8d.out.cell 0, R8d.out.cell 1, R8d.out.cell 2⟩
          clear hK K
          try simp only [List.setIfInBounds_toArray, List.set_cons_zero, List.set_cons_succ]
          refine wpAnyH_ready (rs := [2]) (by kernel_rfl) (by simp) ?_
          refine (AllReadyH.cons rfl (fun K hK => ?_) AllReadyH.nil)
          go_simp
          (with_reducible refine (rMul A (some ⟨(wd6.heap.size), 0, none⟩) m c 1 1 (limbs (dval (l.take j))) [10] _ R8o.out R8t.out (Nat.le_trans (R8o.out.lim (HBT.out j)) K1.out) K3.out).mono ?_)
          rw [HPM.out]
          rintro e w9 ⟨P, p, pc, rfl, HP, HC9⟩
          have R9d := Lib.hid (R8d.out.belowW HC9.out)
          have R9o := Lib.hid (R8o.out.belowW HC9.out)
          have R9t := Lib.hid (R8t.out.belowW HC9.out)
          have R9q := Lib.hid (R8q.out.belowW HC9.out)
          have HR9 := Lib.hid (HR8.out.trans (HC9.out.mono HR8.out.size))
          have R9m := Lib.hid (HP.out.sl)
          go_wp2_with fail
          clear hHeld
          refine hK.out _ _ ?_ (fun hHeld => ?_)
          case refine_1 => exact ⟨R9d.out.cell 0, R9d.out.cell 1, R9d.out.cell 2⟩
          clear hK K
          try simp only [List.setIfInBounds_toArray, List.set_cons_zero, List.set_cons_succ]
          refine wpAnyH_ready (rs := [10]) (by kernel_rfl) (by simp) ?_
          refine (AllReadyH.cons rfl (fun K hK => ?_) AllReadyH.nil)
          go_simp
          (with_reducible refine (rAdd P (some ⟨(w7.heap.size), 0, none⟩) p pc 1 1 (limbs (10 * dval (l.take j))) [q.toNat - 48] _ R9m.out R9q.out (Nat.le_trans (R9m.out.lim HBM.out) K5.out) K4.out).mono ?_)
          rw [HPA.out]
          rintro e w10 ⟨U, u, uc, rfl, HU, HC10⟩
          have R10d := Lib.hid (R9d.out.belowW HC10.out)
          have R10o := Lib.hid (R9o.out.belowW HC10.out)
          have R10t := Lib.hid (R9t.out.belowW HC10.out)
          have R10q := Lib.hid (R9q.out.belowW HC10.out)
          have R10m := Lib.hid (R9m.out.belowW HC10.out)
          have HR10 := Lib.hid (HR9.out.trans (HC10.out.mono HR9.out.size))
          have R10u := Lib.hid (HU.out.sl)
          go_wp2_with fail
          clear hHeld
          refine hK.out _ _ ?_ (fun hHeld => ?_)
          case refine_1 => exact ⟨R10d.out.cell 0, R10d.out.cell 1, R10d.out.cell 2⟩
          clear hK K
          try simp only [List.setIfInBounds_toArray, List.set_cons_zero, List.set_cons_succ]
          refine wpAnyH_take (i := 11) (oi := _) (v := ?_) rfl (by kernel_rfl) (by kernel_rfl) (by kernel_rfl) (fun _ _ _ h => h) (Or.inl ⟨by rfl, ?_⟩) (by assumption) ?_
          case refine_2 =>
            intro w9 hSw
            (try dsimp only at hSw)
            go_simp
            (try with_reducible rfl)
          try simp only [Act.put, List.setIfInBounds_toArray, List.set_cons_zero, List.set_cons_succ, List.getElem_toArray, List.getElem_cons_zero, List.getElem_cons_succ]
          refine wpAnyH_done (by kernel_rfl) ?_ _
          have HL11 := Lib.hid (HLL.out.trans (HR10.out.mono HLL.out.size))
          go_wp2_with fail
          go_roundg (l.length - (j + 1))
          case measure => omega
          case rel => exact ⟨U, u, uc, j + 1, rfl, by go_num, rfl, by omega, R10u, Lib.hid (HL.out.trans (HR10.out.mono HL.out.size))⟩
      · go_simp
        obtain ⟨w7, hw⟩ : ∃ z9 : World, z9 = (wd6).alloc (.cells #[.int .u32 ((q.toNat - 48 : Nat) : Int)] 49) := ⟨_, rfl⟩
        have HC7 := Lib.hid (show Below (wd6).heap.size (wd6) w7 by rw [hw]; exact below_a1 _ _)
        have R7d := Lib.hid (R6d.out.belowW HC7.out)
        have R7o := Lib.hid (R6o.out.belowW HC7.out)
        have HR7 := Lib.hid (HR6.out.trans (HC7.out.mono HR6.out.size))
        have R7q := Lib.hid (show Sl w7 (some ⟨(wd6.heap.size), 0, none⟩) 1 1 [q.toNat - 48] by rw [hw]; exact Sl.one (x := q.toNat - 48) (Blk.new _ _ _) (by unfold BB; omega))
        rw [← hw]
        clear hw
        refine hK.out _ _ ?_ (fun hHeld => ?_)
        case refine_1 => exact ⟨R7d.out.cell 0, R7d.out.cell 1, R7d.out.cell 2⟩
        clear hK K
        try simp only [List.setIfInBounds_toArray, List.set_cons_zero, List.set_cons_succ]
        refine wpAnyH_ready (rs := [1]) (by kernel_rfl) (by simp) ?_
        refine (AllReadyH.cons rfl (fun K hK => ?_) AllReadyH.nil)
        go_simp
        obtain ⟨w8, hw⟩ : ∃ z9 : World, z9 = (w7).alloc (.cells #[.int .u32 10] 49) := ⟨_, rfl⟩
        have HC8 := Lib.hid (show Below (w7).heap.size (w7) w8 by rw [hw]; exact below_a1 _ _)
        have R8d := Lib.hid (R7d.out.belowW HC8.out)
        have R8o := Lib.hid (R7o.out.belowW HC8.out)
        have R8q := Lib.hid (R7q.out.belowW HC8.out)
        have HR8 := Lib.hid (HR7.out.trans (HC8.out.mono HR7.out.size))
        have R8t := Lib.hid (show Sl w8 (some ⟨(w7.heap.size), 0, none⟩) 1 1 [10] by rw [hw]; exact Sl.one (x := 10) (Blk.new _ _ _) (by unfold BB; omega))
        rw [← hw]
        clear hw
        refine hK.out _ _ ?_ (fun hHeld => ?_)
        case refine_1 => exact ⟨R8d.out.cell 0, R8d.out.cell 1, R8d.out.cell 2⟩
        clear hK K
        try simp only [List.setIfInBounds_toArray, List.set_cons_zero, List.set_cons_succ]
        refine wpAnyH_ready (rs := [2]) (by kernel_rfl) (by simp) ?_
        refine (AllReadyH.cons rfl (fun K hK => ?_) AllReadyH.nil)
        go_simp
        (with_reducible refine (rMul A (some ⟨(w7.heap.size), 0, none⟩) m c 1 1 (limbs (dval (l.take j))) [10] _ R8o.out R8t.out (Nat.le_trans (R8o.out.lim (HBT.out j)) K1.out) K3.out).mono ?_)
        rw [HPM.out]
        rintro e w9 ⟨P, p, pc, rfl, HP, HC9⟩
        have R9d := Lib.hid (R8d.out.belowW HC9.out)
        have R9o := Lib.hid (R8o.out.belowW HC9.out)
        have R9q := Lib.hid (R8q.out.belowW HC9.out)
        have R9t := Lib.hid (R8t.out.belowW HC9.out)
        have HR9 := Lib.hid (HR8.out.trans (HC9.out.mono HR8.out.size))
        have R9m := Lib.hid (HP.out.sl)
        go_wp2_with fail
        clear hHeld
        refine hK.out _ _ ?_ (fun hHeld => ?_)
        case refine_1 => exact ⟨R9d.out.cell 0, R9d.out.cell 1, R9d.out.cell 2⟩
        clear hK K
        try simp only [List.setIfInBounds_toArray, List.set_cons_zero, List.set_cons_succ]
        refine wpAnyH_ready (rs := [10]) (by kernel_rfl) (by simp) ?_
        refine (AllReadyH.cons rfl (fun K hK => ?_) AllReadyH.nil)
        go_simp
        (with_reducible refine (rAdd P (some ⟨(wd6.heap.size), 0, none⟩) p pc 1 1 (limbs (10 * dval (l.take j))) [q.toNat - 48] _ R9m.out R9q.out (Nat.le_trans (R9m.out.lim HBM.out) K5.out) K4.out).mono ?_)
        rw [HPA.out]
        rintro e w10 ⟨U, u, uc, rfl, HU, HC10⟩
        have R10d := Lib.hid (R9d.out.belowW HC10.out)
        have R10o := Lib.hid (R9o.out.belowW HC10.out)
        have R10q := Lib.hid (R9q.out.belowW HC10.out)
        have R10t := Lib.hid (R9t.out.belowW HC10.out)
        have R10m := Lib.hid (R9m.out.belowW HC10.out)
        have HR10 := Lib.hid (HR9.out.trans (HC10.out.mono HR9.out.size))
        have R10u := Lib.hid (HU.out.sl)
        go_wp2_with fail
        clear hHeld
        refine hK.out _ _ ?_ (fun hHeld => ?_)
        case refine_1 => exact ⟨R10d.out.cell 0, R10d.out.cell 1, R10d.out.cell 2⟩
        clear hK K
        try simp only [List.setIfInBounds_toArray, List.set_cons_zero, List.set_cons_succ]
        refine wpAnyH_take (i := 11) (oi := _) (v := ?_) rfl (by kernel_rfl) (by kernel_rfl) (by kernel_rfl) (fun _ _ _ h => h) (Or.inl ⟨by rfl, ?_⟩) (by assumption) ?_
        case refine_2 =>
          intro w9 hSw
          (try dsimp only at hSw)
          go_simp
          (try with_reducible rfl)
        try simp only [Act.put, List.setIfInBounds_toArray, List.set_cons_zero, List.set_cons_succ, List.getElem_toArray, List.getElem_cons_zero, List.getElem_cons_succ]
        refine wpAnyH_done (by kernel_rfl) ?_ _
        have HL11 := Lib.hid (HLL.out.trans (HR10.out.mono HLL.out.size))
        go_wp2_with fail
        go_roundg (l.length - (j + 1))
        case measure => omega
        case rel => exact ⟨U, u, uc, j + 1, rfl, by go_num, rfl, by omega, R10u, Lib.hid (HL.out.trans (HR10.out.mono HL.out.size))⟩
    case neg =>
      obtain rfl : j = l.length := by omega
      have d1 : decide ((l.length : Int) < (s.size : Int)) = false := decide_eq_false (by omega)
      have d1' : decide (l.length < s.size) = false := decide_eq_false (by omega)
      have HTK := Lib.hid (show l.take l.length = l from List.take_length)
      rw [HTK.out] at HS
      have hm : m ≤ 1000000 := Nat.le_trans (HS.out.lim HBE.out) K2.out
      clear hk hj hjl hll
      obtain ⟨pd0, fd0, pd1, fd1, pd2, fd2⟩ := FWd.out.all3
      go_wp2_with fail
      refine (rTrim A m c (limbs (dval l)) wr HS.out hm).mono ?_
      rw [val_limbs]
      rintro e w6 ⟨P, p, pc, rfl, HP, HB6⟩
      have F6d := Lib.hid (FWd.out.belowW HB6.out)
      have F6o := Lib.hid (HS.out.belowW HB6.out)
      have HL6 := Lib.hid (HLL.out.trans (HB6.out.mono HLL.out.size))
      go_wp2_with fail
      go_ret
      exact ⟨P, p, pc, rfl, Lib.hid HP.out.sl, HL6⟩
end Go.Proofs.YtffdkakogeofmaaGreatDoor
