/-
  The walks of dyadic.Make, Valid, Int, Bits, Top, Sign, shifted.
-/
import Derived.Test.YtffdkakogeofmaaGreatDoorDyB
import Derived.Deep.RegionHeld3
set_option linter.unusedVariables false
namespace Go.Fl.Dy
open Go.Fl.Nm
theorem limbs_len_of {l : List Nat} (h : ok l) : (limbs (val l)).length ≤ l.length := by
  rw [← trim_limbs h, List.length_take]; omega
theorem canon_len {neg : Bool} {k : Nat} {e : Int} (h : (limbs k).length ≤ 256) : (limbs (canon neg k e).k).length ≤ 256 := by
  have h1 := bits_limbs h
  by_cases h0 : k = 0
  · subst h0; rw [canon_zero, limbs_zero]; simp
  · rw [canon_pos h0]
    have := blen_od h0
    exact limbs_bits (by simp only; omega)
theorem vld_len {d : D} (h : vld d) : (limbs d.k).length ≤ 256 := by
  rcases h with ⟨h, _⟩ | ⟨_, h, _⟩
  · rw [h, limbs_zero]; simp
  · exact limbs_bits (by omega)
theorem vld_ebd {d : D} (h : vld d) : -16384 ≤ d.e ∧ d.e ≤ 16384 := by
  rcases h with ⟨_, _, h⟩ | ⟨_, _, h1, h2, _⟩ <;> omega
theorem vld_bits {d : D} (h : vld d) : blen d.k ≤ 4096 := by
  rcases h with ⟨h, _, _⟩ | ⟨_, h1, _⟩
  · rw [h, blen_zero]; omega
  · exact h1
theorem limbs_two (x : Nat) (h : x < 18446744073709551616) : val [x % 4294967296, x / 4294967296 % 4294967296] = x := by
  rw [val_cons, val_cons, val_nil, BB_eq]; omega
end Go.Fl.Dy
namespace Go.Proofs.YtffdkakogeofmaaGreatDoor
open Go.RowKit Go.Fl Go.Fl.Nm Go.Fl.Dy

set_option maxHeartbeats 400000 in
theorem exponent_ok (k : Int) (w : World) (h1 : -32768 ≤ k) (h2 : k ≤ 32768) :
    Calls Tryz.prog 104 #[.int .i64 k] w fun e w' => e = .returned (.bool true) ∧ w = w' := by
  have d1 : decide (-32768 ≤ k) = true := decide_eq_true h1
  have d2 : decide (k ≤ 32768) = true := decide_eq_true h2
  go_enter Tryz.func104, Tryz.ntmps104
  go_wp2
  go_ret
  exact ⟨rfl, rfl⟩

set_option maxHeartbeats 1000000 in
theorem make_ok' (ng : Bool) (A : Option Addr) (n c : Nat) (ex : Int) (l : List Nat) (w : World) (h : Sl w A n c l) (hT : RB w) (hn : n ≤ 256) (h1 : -32768 ≤ ex) (h2 : ex ≤ 32768) :
    Calls Tryz.prog 66 #[.bool ng, .slice A n c, .int .i64 ex] w (DyE (chk (canon ng (val l) ex)) w) := by
  have H := Lib.hid h
  have HT := Lib.hid hT
  have HLN := Lib.hid (canon_len (neg := ng) (e := ex) (Nat.le_trans (limbs_len_of h.ok) (by rw [h.len]; exact hn)))
  clear h hT
  have dn : decide ((256 : Int) < n) = false := decide_eq_false (by omega)
  have dn' : decide (256 < n) = false := decide_eq_false (by omega)
  go_enter Tryz.func66, Tryz.ntmps66
  go_wp2_with fail
  obtain ⟨w1, hw⟩ : ∃ x, x = (w.alloc (.cells #[.bool false, .slice none 0 0, .int .i64 0] 25)) := ⟨_, rfl⟩
  have HB1 := Lib.hid (show Below w.heap.size w w1 by rw [hw]; exact below_a1 _ _)
  have F1a := Lib.hid (H.out.belowW HB1.out)
  have F1t := Lib.hid (HT.out.belowW HB1.out)
  have F1r := Lib.hid (show Blk w1 (w.heap.size) 25 #[.bool false, .slice none 0 0, .int .i64 0] by rw [hw]; exact Blk.new _ _ _)
  rw [← hw]
  clear hw
  refine (exponent_ok ex w1 h1 h2).mono ?_
  rintro e w' ⟨rfl, rfl⟩
  go_wp2_with fail
  refine (canonical_any ng A n c l ex w1 F1a.out F1t.out hn (by omega) (by omega)).mono ?_
  rintro e w2 ⟨X, x, cx, rfl, HX, HB2⟩
  have F2a := Lib.hid (F1a.out.belowW HB2.out)
  have F2t := Lib.hid (F1t.out.belowW HB2.out)
  have F2r := Lib.hid (F1r.out.belowW HB2.out)
  have HL2 := Lib.hid (HB1.out.trans (HB2.out.mono HB1.out.size))
  have F2x := Lib.hid (HX.out)
  have hx : x ≤ 256 := by rw [← HX.out.len]; exact HLN.out
  go_wp2_with fail
  refine (checked_any (canon ng (val l) ex) X x cx w2 F2x.out hx).mono ?_
  rintro e w3 ⟨Y, y, cy, rfl, HY, HB3⟩
  have F3a := Lib.hid (F2a.out.belowW HB3.out)
  have F3t := Lib.hid (F2t.out.belowW HB3.out)
  have F3r := Lib.hid (F2r.out.belowW HB3.out)
  have F3x := Lib.hid (F2x.out.belowW HB3.out)
  have HL3 := Lib.hid (HL2.out.trans (HB3.out.mono HL2.out.size))
  have F3y := Lib.hid (HY.out)
  have pr0 : (w3).cell? ⟨w.heap.size, 0, none⟩ = some (.bool false) := F3r.out.cell 0
  have fr0 : (w3).frozen? ⟨w.heap.size, 0, none⟩ = false := F3r.out.frozen 0
  have pr1 : (w3).cell? ⟨w.heap.size, 1, none⟩ = some (.slice none 0 0) := F3r.out.cell 1
  have fr1 : (w3).frozen? ⟨w.heap.size, 1, none⟩ = false := F3r.out.frozen 1
  have pr2 : (w3).cell? ⟨w.heap.size, 2, none⟩ = some (.int .i64 0) := F3r.out.cell 2
  have fr2 : (w3).frozen? ⟨w.heap.size, 2, none⟩ = false := F3r.out.frozen 2
  go_wp2_with fail
  refine bodyPost_ret (v := .tuple #[.agg #[.bool (chk (canon ng (val l) ex)).1.neg, .slice Y y cy, .int .i64 (chk (canon ng (val l) ex)).1.e], .int .i64 (chk (canon ng (val l) ex)).2]) (by simp [results, Tryz.results66, go_sem, pr0, pr1, pr2]) rfl ?_
  exact ⟨Y, y, cy, rfl, Lib.hid (store3_sl F3y.out F3r.out noU3 _ _ _), Lib.hid (store3_below HL3.out F3r.out _ _ _ (Nat.le_refl _))⟩

set_option maxHeartbeats 1000000 in
theorem valid_any (ng : Bool) (A : Option Addr) (n c : Nat) (ex : Int) (l : List Nat) (w : World) (h : Sl w A n c l) :
    Calls Tryz.prog 48 #[.agg #[.bool ng, .slice A n c, .int .i64 ex]] w (Ret (.bool (vldL ng l ex)) w) := by
  have H := Lib.hid h
  have hmx := h.max
  unfold maxLen at hmx
  have HLN := Lib.hid h.len
  have HOK := Lib.hid h.ok
  clear h
  by_cases hn0 : n = 0
  · subst hn0
    have HL0 := Lib.hid (List.eq_nil_of_length_eq_zero HLN.out)
    have HR := Lib.hid (show vldL ng l ex = (!ng && decide (ex = 0)) by rw [HL0.out]; exact vldL_nil ng ex)
    cases ng with
    | true =>
      go_enter Tryz.func48, Tryz.ntmps48
      go_wp2_with fail
      obtain ⟨w1, hw⟩ : ∃ x, x = (w.alloc (.cells #[.bool true, .slice A 0 c, .int .i64 ex] 25)) := ⟨_, rfl⟩
      have HB1 := Lib.hid (show Below w.heap.size w w1 by rw [hw]; exact below_a1 _ _)
      have F1a := Lib.hid (H.out.belowW HB1.out)
      have F1d := Lib.hid (show Blk w1 (w.heap.size) 25 #[.bool true, .slice A 0 c, .int .i64 ex] by rw [hw]; exact Blk.new _ _ _)
      rw [← hw]
      clear hw
      have pd0 : (w1).cell? ⟨w.heap.size, 0, none⟩ = some (.bool true) := F1d.out.cell 0
      have fd0 : (w1).frozen? ⟨w.heap.size, 0, none⟩ = false := F1d.out.frozen 0
      have pd1 : (w1).cell? ⟨w.heap.size, 1, none⟩ = some (.slice A 0 c) := F1d.out.cell 1
      have fd1 : (w1).frozen? ⟨w.heap.size, 1, none⟩ = false := F1d.out.frozen 1
      have pd2 : (w1).cell? ⟨w.heap.size, 2, none⟩ = some (.int .i64 ex) := F1d.out.cell 2
      have fd2 : (w1).frozen? ⟨w.heap.size, 2, none⟩ = false := F1d.out.frozen 2
      go_wp2_with fail
      go_ret
      exact ⟨ret_bool (by rw [HR.out]; rfl), HB1⟩
    | false =>
      by_cases he : ex = 0
      · have de : (ex == 0) = true := by simp [he]
        have HR2 := Lib.hid (show vldL false l ex = true by rw [HR.out]; simp [he])
        clear he
        go_enter Tryz.func48, Tryz.ntmps48
        go_wp2_with fail
        obtain ⟨w1, hw⟩ : ∃ x, x = (w.alloc (.cells #[.bool false, .slice A 0 c, .int .i64 ex] 25)) := ⟨_, rfl⟩
        have HB1 := Lib.hid (show Below w.heap.size w w1 by rw [hw]; exact below_a1 _ _)
        have F1a := Lib.hid (H.out.belowW HB1.out)
        have F1d := Lib.hid (show Blk w1 (w.heap.size) 25 #[.bool false, .slice A 0 c, .int .i64 ex] by rw [hw]; exact Blk.new _ _ _)
        rw [← hw]
        clear hw
        have pd0 : (w1).cell? ⟨w.heap.size, 0, none⟩ = some (.bool false) := F1d.out.cell 0
        have fd0 : (w1).frozen? ⟨w.heap.size, 0, none⟩ = false := F1d.out.frozen 0
        have pd1 : (w1).cell? ⟨w.heap.size, 1, none⟩ = some (.slice A 0 c) := F1d.out.cell 1
        have fd1 : (w1).frozen? ⟨w.heap.size, 1, none⟩ = false := F1d.out.frozen 1
        have pd2 : (w1).cell? ⟨w.heap.size, 2, none⟩ = some (.int .i64 ex) := F1d.out.cell 2
        have fd2 : (w1).frozen? ⟨w.heap.size, 2, none⟩ = false := F1d.out.frozen 2
        go_wp2_with fail
        go_ret
        exact ⟨ret_bool (by rw [HR2.out]), HB1⟩
      · have de : (ex == 0) = false := by simp [he]
        have HR2 := Lib.hid (show vldL false l ex = false by rw [HR.out]; simp [he])
        clear he
        go_enter Tryz.func48, Tryz.ntmps48
        go_wp2_with fail
        obtain ⟨w1, hw⟩ : ∃ x, x = (w.alloc (.cells #[.bool false, .slice A 0 c, .int .i64 ex] 25)) := ⟨_, rfl⟩
        have HB1 := Lib.hid (show Below w.heap.size w w1 by rw [hw]; exact below_a1 _ _)
        have F1a := Lib.hid (H.out.belowW HB1.out)
        have F1d := Lib.hid (show Blk w1 (w.heap.size) 25 #[.bool false, .slice A 0 c, .int .i64 ex] by rw [hw]; exact Blk.new _ _ _)
        rw [← hw]
        clear hw
        have pd0 : (w1).cell? ⟨w.heap.size, 0, none⟩ = some (.bool false) := F1d.out.cell 0
        have fd0 : (w1).frozen? ⟨w.heap.size, 0, none⟩ = false := F1d.out.frozen 0
        have pd1 : (w1).cell? ⟨w.heap.size, 1, none⟩ = some (.slice A 0 c) := F1d.out.cell 1
        have fd1 : (w1).frozen? ⟨w.heap.size, 1, none⟩ = false := F1d.out.frozen 1
        have pd2 : (w1).cell? ⟨w.heap.size, 2, none⟩ = some (.int .i64 ex) := F1d.out.cell 2
        have fd2 : (w1).frozen? ⟨w.heap.size, 2, none⟩ = false := F1d.out.frozen 2
        go_wp2_with fail
        go_ret
        exact ⟨ret_bool (by rw [HR2.out]), HB1⟩
  · have dn0 : ((n : Int) == 0) = false := by rw [beq_eq_false_iff_ne]; omega
    obtain ⟨b, off, x, hA, hb, hx, hxB, hx0⟩ := H.out.at_ (i := 0) (by omega)
    obtain ⟨b', off', y, hA', hb', hy, hyB, hy0⟩ := H.out.at_ (i := n - 1) (by omega)
    rw [hA] at hA'
    injection hA' with hA'
    injection hA' with e1 e2
    subst e1 e2 hA
    have HV := Lib.hid (vldL_pos (neg := ng) (e := ex) HOK.out hx (by rw [HLN.out]; exact hy))
    rw [HLN.out] at HV
    clear hx hy hb'
    unfold BB at hxB hyB
    rw [Nat.add_zero] at hx0
    have b0 : (0 : Int) ≤ (n : Int) - 1 := by omega
    have b1 : (n : Int) - 1 < n := by omega
    have b2 : ((n : Int) - 1).toNat = n - 1 := by omega
    by_cases t1 : n ≤ 256
    case neg =>
      have d1 : decide ((n : Int) ≤ 256) = false := decide_eq_false (by omega)
      have d1' : decide (n ≤ 256) = false := decide_eq_false t1
      have HR := Lib.hid (show vldL ng l ex = false by rw [HV.out, d1']; rfl)
      go_enter Tryz.func48, Tryz.ntmps48
      go_wp2_with fail
      obtain ⟨w1, hw⟩ : ∃ x, x = (w.alloc (.cells #[.bool ng, .slice (some ⟨b, off, none⟩) n c, .int .i64 ex] 25)) := ⟨_, rfl⟩
      have HB1 := Lib.hid (show Below w.heap.size w w1 by rw [hw]; exact below_a1 _ _)
      have F1a := Lib.hid (H.out.belowW HB1.out)
      have F1d := Lib.hid (show Blk w1 (w.heap.size) 25 #[.bool ng, .slice (some ⟨b, off, none⟩) n c, .int .i64 ex] by rw [hw]; exact Blk.new _ _ _)
      rw [← hw]
      clear hw
      have pd0 : (w1).cell? ⟨w.heap.size, 0, none⟩ = some (.bool ng) := F1d.out.cell 0
      have fd0 : (w1).frozen? ⟨w.heap.size, 0, none⟩ = false := F1d.out.frozen 0
      have pd1 : (w1).cell? ⟨w.heap.size, 1, none⟩ = some (.slice (some ⟨b, off, none⟩) n c) := F1d.out.cell 1
      have fd1 : (w1).frozen? ⟨w.heap.size, 1, none⟩ = false := F1d.out.frozen 1
      have pd2 : (w1).cell? ⟨w.heap.size, 2, none⟩ = some (.int .i64 ex) := F1d.out.cell 2
      have fd2 : (w1).frozen? ⟨w.heap.size, 2, none⟩ = false := F1d.out.frozen 2
      have c0 : w1.cell? ⟨b, off, none⟩ = some (.int .u32 x) := HB1.out.cell (p := ⟨b, off, none⟩) hb ▸ hx0
      have c1 : w1.cell? ⟨b, off + (n - 1), none⟩ = some (.int .u32 y) := HB1.out.cell (p := ⟨b, off + (n - 1), none⟩) hb ▸ hy0
      go_wp2_with fail
      go_ret
      exact ⟨ret_bool (by rw [HR.out]), HB1⟩
    have d1 : decide ((n : Int) ≤ 256) = true := decide_eq_true (by omega)
    have d1' : decide (n ≤ 256) = true := decide_eq_true t1
    by_cases t2 : x % 2 = 1
    case neg =>
      have d2 : ((x : Int) % 2 == 1) = false := by rw [beq_eq_false_iff_ne]; omega
      have d2'' : decide (x % 2 = 1) = false := decide_eq_false t2
      have HR := Lib.hid (show vldL ng l ex = false by rw [HV.out, d1', d2'']; rfl)
      clear d2''
      go_enter Tryz.func48, Tryz.ntmps48
      go_wp2_with fail
      obtain ⟨w1, hw⟩ : ∃ x, x = (w.alloc (.cells #[.bool ng, .slice (some ⟨b, off, none⟩) n c, .int .i64 ex] 25)) := ⟨_, rfl⟩
      have HB1 := Lib.hid (show Below w.heap.size w w1 by rw [hw]; exact below_a1 _ _)
      have F1a := Lib.hid (H.out.belowW HB1.out)
      have F1d := Lib.hid (show Blk w1 (w.heap.size) 25 #[.bool ng, .slice (some ⟨b, off, none⟩) n c, .int .i64 ex] by rw [hw]; exact Blk.new _ _ _)
      rw [← hw]
      clear hw
      have pd0 : (w1).cell? ⟨w.heap.size, 0, none⟩ = some (.bool ng) := F1d.out.cell 0
      have fd0 : (w1).frozen? ⟨w.heap.size, 0, none⟩ = false := F1d.out.frozen 0
      have pd1 : (w1).cell? ⟨w.heap.size, 1, none⟩ = some (.slice (some ⟨b, off, none⟩) n c) := F1d.out.cell 1
      have fd1 : (w1).frozen? ⟨w.heap.size, 1, none⟩ = false := F1d.out.frozen 1
      have pd2 : (w1).cell? ⟨w.heap.size, 2, none⟩ = some (.int .i64 ex) := F1d.out.cell 2
      have fd2 : (w1).frozen? ⟨w.heap.size, 2, none⟩ = false := F1d.out.frozen 2
      have c0 : w1.cell? ⟨b, off, none⟩ = some (.int .u32 x) := HB1.out.cell (p := ⟨b, off, none⟩) hb ▸ hx0
      have c1 : w1.cell? ⟨b, off + (n - 1), none⟩ = some (.int .u32 y) := HB1.out.cell (p := ⟨b, off + (n - 1), none⟩) hb ▸ hy0
      go_wp2_with fail
      go_ret
      exact ⟨ret_bool (by rw [HR.out]), HB1⟩
    have d2 : ((x : Int) % 2 == 1) = true := by simp; omega
    have d2'' : decide (x % 2 = 1) = true := decide_eq_true t2
    by_cases t3 : y = 0
    case pos =>
      have HR := Lib.hid (show vldL ng l ex = false by rw [HV.out, d1', d2'', t3]; rfl)
      have d3 : ((y : Int) != 0) = false := by simp [t3]
      clear d2'' t3
      go_enter Tryz.func48, Tryz.ntmps48
      go_wp2_with fail
      obtain ⟨w1, hw⟩ : ∃ x, x = (w.alloc (.cells #[.bool ng, .slice (some ⟨b, off, none⟩) n c, .int .i64 ex] 25)) := ⟨_, rfl⟩
      have HB1 := Lib.hid (show Below w.heap.size w w1 by rw [hw]; exact below_a1 _ _)
      have F1a := Lib.hid (H.out.belowW HB1.out)
      have F1d := Lib.hid (show Blk w1 (w.heap.size) 25 #[.bool ng, .slice (some ⟨b, off, none⟩) n c, .int .i64 ex] by rw [hw]; exact Blk.new _ _ _)
      rw [← hw]
      clear hw
      have pd0 : (w1).cell? ⟨w.heap.size, 0, none⟩ = some (.bool ng) := F1d.out.cell 0
      have fd0 : (w1).frozen? ⟨w.heap.size, 0, none⟩ = false := F1d.out.frozen 0
      have pd1 : (w1).cell? ⟨w.heap.size, 1, none⟩ = some (.slice (some ⟨b, off, none⟩) n c) := F1d.out.cell 1
      have fd1 : (w1).frozen? ⟨w.heap.size, 1, none⟩ = false := F1d.out.frozen 1
      have pd2 : (w1).cell? ⟨w.heap.size, 2, none⟩ = some (.int .i64 ex) := F1d.out.cell 2
      have fd2 : (w1).frozen? ⟨w.heap.size, 2, none⟩ = false := F1d.out.frozen 2
      have c0 : w1.cell? ⟨b, off, none⟩ = some (.int .u32 x) := HB1.out.cell (p := ⟨b, off, none⟩) hb ▸ hx0
      have c1 : w1.cell? ⟨b, off + (n - 1), none⟩ = some (.int .u32 y) := HB1.out.cell (p := ⟨b, off + (n - 1), none⟩) hb ▸ hy0
      go_wp2_with fail
      go_ret
      exact ⟨ret_bool (by rw [HR.out]), HB1⟩
    have d3 : ((y : Int) != 0) = true := by simp; exact t3
    have HR := Lib.hid (show vldL ng l ex = inR (val l) ex by rw [HV.out, d1', d2'']; simp [t3])
    clear d2''
    go_enter Tryz.func48, Tryz.ntmps48
    go_wp2_with fail
    obtain ⟨w1, hw⟩ : ∃ x, x = (w.alloc (.cells #[.bool ng, .slice (some ⟨b, off, none⟩) n c, .int .i64 ex] 25)) := ⟨_, rfl⟩
    have HB1 := Lib.hid (show Below w.heap.size w w1 by rw [hw]; exact below_a1 _ _)
    have F1a := Lib.hid (H.out.belowW HB1.out)
    have F1d := Lib.hid (show Blk w1 (w.heap.size) 25 #[.bool ng, .slice (some ⟨b, off, none⟩) n c, .int .i64 ex] by rw [hw]; exact Blk.new _ _ _)
    rw [← hw]
    clear hw
    have pd0 : (w1).cell? ⟨w.heap.size, 0, none⟩ = some (.bool ng) := F1d.out.cell 0
    have fd0 : (w1).frozen? ⟨w.heap.size, 0, none⟩ = false := F1d.out.frozen 0
    have pd1 : (w1).cell? ⟨w.heap.size, 1, none⟩ = some (.slice (some ⟨b, off, none⟩) n c) := F1d.out.cell 1
    have fd1 : (w1).frozen? ⟨w.heap.size, 1, none⟩ = false := F1d.out.frozen 1
    have pd2 : (w1).cell? ⟨w.heap.size, 2, none⟩ = some (.int .i64 ex) := F1d.out.cell 2
    have fd2 : (w1).frozen? ⟨w.heap.size, 2, none⟩ = false := F1d.out.frozen 2
    have c0 : w1.cell? ⟨b, off, none⟩ = some (.int .u32 x) := HB1.out.cell (p := ⟨b, off, none⟩) hb ▸ hx0
    have c1 : w1.cell? ⟨b, off + (n - 1), none⟩ = some (.int .u32 y) := HB1.out.cell (p := ⟨b, off + (n - 1), none⟩) hb ▸ hy0
    go_wp2_with fail
    refine (inRange_any ng (some ⟨b, off, none⟩) n c ex l w1 F1a.out (by omega)).mono ?_
    rintro e w2 ⟨rfl, HB2⟩
    have F2a := Lib.hid (F1a.out.belowW HB2.out)
    have F2d := Lib.hid (F1d.out.belowW HB2.out)
    have HL2 := Lib.hid (HB1.out.trans (HB2.out.mono HB1.out.size))
    go_wp2_with fail
    go_ret
    exact ⟨ret_bool (by rw [HR.out]), HL2⟩

theorem valid_yes (d : D) (A : Option Addr) (n c : Nat) (w : World) (h : Sl w A n c (limbs d.k)) (hv : vld d) : Calls Tryz.prog 48 #[.agg #[.bool d.neg, .slice A n c, .int .i64 d.e]] w (Ret (.bool true) w) := by
  have := valid_any d.neg A n c d.e (limbs d.k) w h
  rwa [vldL_of hv] at this
end Go.Proofs.YtffdkakogeofmaaGreatDoor
