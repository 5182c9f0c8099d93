/-
  The walks of round.signed, div, DivDown, DivUp, Is.
-/
import Derived.Test.YtffdkakogeofmaaGreatDoorRoB
import Derived.Deep.DeepCutAuto
set_option linter.unusedVariables false
namespace Go.Proofs.YtffdkakogeofmaaGreatDoor
open Go.RowKit Go.Fl Go.Fl.Nm Go.Fl.Dy

theorem cutR_err (m : Nat) (e : Int) (more : Bool) (p : Nat) (up : Bool) : (cutR m e more p up).2 = 0 ∨ (cutR m e more p up).2 = 9 := by
  unfold cutR chk
  split
  · split
    · exact .inr rfl
    · split
      · exact .inl rfl
      · exact .inr rfl
  · split
    · exact .inl rfl
    · exact .inr rfl
set_option maxHeartbeats 2000000 in
theorem signed_any (neg : Bool) (A : Option Addr) (n c : Nat) (l : List Nat) (ex : Int) (more up : Bool) (p : Nat) (w : World) (h : Sl w A n c l) (hT : RB w) (hn : n ≤ 256) (h1 : -1000000 ≤ ex) (h2 : ex ≤ 40000) (hp : 8 ≤ p) (hp2 : p ≤ 512) :
    Calls Tryz.prog 144 #[.bool neg, .agg #[.slice A n c, .int .i64 ex, .bool more], .int .i64 p, .bool up] w (DyE (sgnR neg (val l) ex more p up) w) := by
  have H := Lib.hid h
  have HT := Lib.hid hT
  clear h hT
  obtain ⟨un, hun⟩ : ∃ x, x = (up != neg) := ⟨_, rfl⟩
  have HUN := Lib.hid hun.symm
  have HUN2 := Lib.hid (show (!(up == neg)) = un from hun.symm)
  obtain ⟨r, hr⟩ : ∃ x, x = cutR (val l) ex more p un := ⟨_, rfl⟩
  have HR := Lib.hid hr.symm
  have HVR := Lib.hid (show vld r.1 by rw [hr]; exact cutR_vld _ _ _ _ _)
  have HS := Lib.hid (show sgnR neg (val l) ex more p up = if r.2 = 0 ∧ neg = true then (negD r.1, 0) else r by rw [hr, hun]; rfl)
  have hre := cutR_err (val l) ex more p un
  rw [← hr] at hre
  clear hun hr
  go_enter Tryz.func144, Tryz.ntmps144
  go_wp2_with fail
  obtain ⟨w1, hw⟩ : ∃ z9 : World, z9 = ((w.alloc (.cells #[.slice A n c, .int .i64 ex, .bool more] 141)).alloc (.cells #[.bool false, .slice none 0 0, .int .i64 0] 25)) := ⟨_, rfl⟩
  have HB1 := Lib.hid (show Below w.heap.size w w1 by rw [hw]; exact below_a2 _ _ _)
  have F1a := Lib.hid (H.out.belowW HB1.out)
  have F1t := Lib.hid (HT.out.belowW HB1.out)
  have F1k := Lib.hid (show Blk w1 (w.heap.size) 141 #[.slice A n c, .int .i64 ex, .bool more] by rw [hw]; exact (Blk.new _ _ _).alloc _)
  have F1r := Lib.hid (show Blk w1 (w.heap.size + 1) 25 #[.bool false, .slice none 0 0, .int .i64 0] by rw [hw]; exact Blk.new1 _ _ _ _)
  rw [← hw]
  clear hw
  have pk0 : (w1).cell? ⟨w.heap.size, 0, none⟩ = some (.slice A n c) := F1k.out.cell 0
  have fk0 : (w1).frozen? ⟨w.heap.size, 0, none⟩ = false := F1k.out.frozen 0
  have pk1 : (w1).cell? ⟨w.heap.size, 1, none⟩ = some (.int .i64 ex) := F1k.out.cell 1
  have fk1 : (w1).frozen? ⟨w.heap.size, 1, none⟩ = false := F1k.out.frozen 1
  have pk2 : (w1).cell? ⟨w.heap.size, 2, none⟩ = some (.bool more) := F1k.out.cell 2
  have fk2 : (w1).frozen? ⟨w.heap.size, 2, none⟩ = false := F1k.out.frozen 2
  go_wp2_with fail
  rw [HUN2.out]
  refine (cut_any A n c l ex more un p w1 F1a.out F1t.out hn h1 h2 hp hp2).mono ?_
  rw [HR.out]
  rintro e w2 ⟨X, x, xc, rfl, HX, HB2⟩
  have F2a := Lib.hid (F1a.out.belowW HB2.out)
  have F2t := Lib.hid (F1t.out.belowW HB2.out)
  have F2k := Lib.hid (F1k.out.belowW HB2.out)
  have F2r := Lib.hid (F1r.out.belowW HB2.out)
  have HL2 := Lib.hid (HB1.out.trans (HB2.out.mono HB1.out.size))
  have F2x := Lib.hid (HX.out)
  clear pk0 pk1 pk2 fk0 fk1 fk2
  have hsz : w.heap.size + 1 < w2.heap.size := Nat.lt_of_lt_of_le F2r.out.lt (Nat.le_refl _)
  obtain ⟨d, er⟩ := r
  rcases hre with h0 | h0
  · change er = 0 at h0
    subst h0
    cases neg with
    | true =>
      go_wp2_with fail
      obtain ⟨w3, hw⟩ : ∃ z9 : World, z9 = w2.alloc (.cells #[.bool d.neg, .slice X x xc, .int .i64 d.e] 25) := ⟨_, rfl⟩
      have HB3 := Lib.hid (show Below w2.heap.size w2 w3 by rw [hw]; exact below_a1 _ _)
      have F3d := Lib.hid (show Blk w3 w2.heap.size 25 #[.bool d.neg, .slice X x xc, .int .i64 d.e] by rw [hw]; exact Blk.new _ _ _)
      rw [← hw]
      clear hw
      have F3a := Lib.hid (F2a.out.belowW HB3.out)
      have F3t := Lib.hid (F2t.out.belowW HB3.out)
      have F3k := Lib.hid (F2k.out.belowW HB3.out)
      have F3r := Lib.hid (F2r.out.belowW HB3.out)
      have F3x := Lib.hid (F2x.out.belowW HB3.out)
      have HL3 := Lib.hid (HL2.out.trans (HB3.out.mono HL2.out.size))
      have hsz3 : w.heap.size + 1 ≠ w2.heap.size := by omega
      refine (neg_any d X x xc w3 F3x.out HVR.out).mono ?_
      rintro e w4 ⟨Y, y, yc, rfl, HY, HB4⟩
      have F4a := Lib.hid (F3a.out.belowW HB4.out)
      have F4t := Lib.hid (F3t.out.belowW HB4.out)
      have F4k := Lib.hid (F3k.out.belowW HB4.out)
      have F4r := Lib.hid (F3r.out.belowW HB4.out)
      have F4x := Lib.hid (F3x.out.belowW HB4.out)
      have F4d := Lib.hid (F3d.out.belowW HB4.out)
      have HL4 := Lib.hid (HL3.out.trans (HB4.out.mono HL3.out.size))
      have F4y := Lib.hid (HY.out)
      have pd0 : (w4).cell? ⟨w2.heap.size, 0, none⟩ = some (.bool d.neg) := F4d.out.cell 0
      have fd0 : (w4).frozen? ⟨w2.heap.size, 0, none⟩ = false := F4d.out.frozen 0
      have pd1 : (w4).cell? ⟨w2.heap.size, 1, none⟩ = some (.slice X x xc) := F4d.out.cell 1
      have fd1 : (w4).frozen? ⟨w2.heap.size, 1, none⟩ = false := F4d.out.frozen 1
      have pd2 : (w4).cell? ⟨w2.heap.size, 2, none⟩ = some (.int .i64 d.e) := F4d.out.cell 2
      have fd2 : (w4).frozen? ⟨w2.heap.size, 2, none⟩ = false := F4d.out.frozen 2
      go_upto_region 4 with (fail)
      rw [store3_put F4d.out]
      obtain ⟨w9, hw⟩ : ∃ z9 : World, z9 = putB w4 (w2.heap.size) 25 #[.bool (negD d).neg, .slice Y y yc, .int .i64 (negD d).e] := ⟨_, rfl⟩
      have FD9 := Lib.hid (show Blk w9 (w2.heap.size) 25 #[.bool (negD d).neg, .slice Y y yc, .int .i64 (negD d).e] by rw [hw]; exact F4d.out.put _)
      have FR9 := Lib.hid (show Blk w9 (w.heap.size + 1) 25 #[.bool false, .slice none 0 0, .int .i64 0] by rw [hw]; exact F4r.out.far hsz3 _)
      have FY9 := Lib.hid (show Sl w9 Y y yc (limbs (negD d).k) by rw [hw]; exact F4y.out.far F4d.out noU3 (putB_grown _ _ _ _))
      have HL9 := Lib.hid (show Below w.heap.size w w9 by rw [hw]; exact HL4.out.trans (putB_below _ _ _ _ (by omega)))
      rw [← hw]
      clear hw pd0 pd1 pd2 fd0 fd1 fd2
      have pd0 : (w9).cell? ⟨w2.heap.size, 0, none⟩ = some (.bool (negD d).neg) := FD9.out.cell 0
      have fd0 : (w9).frozen? ⟨w2.heap.size, 0, none⟩ = false := FD9.out.frozen 0
      have pd1 : (w9).cell? ⟨w2.heap.size, 1, none⟩ = some (.slice Y y yc) := FD9.out.cell 1
      have fd1 : (w9).frozen? ⟨w2.heap.size, 1, none⟩ = false := FD9.out.frozen 1
      have pd2 : (w9).cell? ⟨w2.heap.size, 2, none⟩ = some (.int .i64 (negD d).e) := FD9.out.cell 2
      have fd2 : (w9).frozen? ⟨w2.heap.size, 2, none⟩ = false := FD9.out.frozen 2
      have pr0 : (w9).cell? ⟨w.heap.size + 1, 0, none⟩ = some (.bool false) := FR9.out.cell 0
      have fr0 : (w9).frozen? ⟨w.heap.size + 1, 0, none⟩ = false := FR9.out.frozen 0
      have pr1 : (w9).cell? ⟨w.heap.size + 1, 1, none⟩ = some (.slice none 0 0) := FR9.out.cell 1
      have fr1 : (w9).frozen? ⟨w.heap.size + 1, 1, none⟩ = false := FR9.out.frozen 1
      have pr2 : (w9).cell? ⟨w.heap.size + 1, 2, none⟩ = some (.int .i64 0) := FR9.out.cell 2
      have fr2 : (w9).frozen? ⟨w.heap.size + 1, 2, none⟩ = false := FR9.out.frozen 2
      go_wp2_with fail
      refine bodyPost_ret (v := .tuple #[.agg #[.bool (negD d).neg, .slice Y y yc, .int .i64 (negD d).e], .int .i64 0]) (by simp [results, Tryz.results144, go_sem, pr0, pr1, pr2]) rfl ?_
      rw [show sgnR true (val l) ex more p up = (negD d, 0) from HS.out.trans (by simp)]
      exact ⟨Y, y, yc, rfl, Lib.hid (store3_sl FY9.out FR9.out noU3 _ _ _), Lib.hid (store3_below HL9.out FR9.out _ _ _ (by omega))⟩
    | false =>
      go_upto_region 2 with (fail)
      obtain ⟨w3, hw⟩ : ∃ z9 : World, z9 = w2.alloc (.cells #[.bool d.neg, .slice X x xc, .int .i64 d.e] 25) := ⟨_, rfl⟩
      have HB3 := Lib.hid (show Below w2.heap.size w2 w3 by rw [hw]; exact below_a1 _ _)
      have F3d := Lib.hid (show Blk w3 w2.heap.size 25 #[.bool d.neg, .slice X x xc, .int .i64 d.e] by rw [hw]; exact Blk.new _ _ _)
      rw [← hw]
      clear hw
      have F3a := Lib.hid (F2a.out.belowW HB3.out)
      have F3t := Lib.hid (F2t.out.belowW HB3.out)
      have F3k := Lib.hid (F2k.out.belowW HB3.out)
      have F3r := Lib.hid (F2r.out.belowW HB3.out)
      have F3x := Lib.hid (F2x.out.belowW HB3.out)
      have HL3 := Lib.hid (HL2.out.trans (HB3.out.mono HL2.out.size))
      have pd0 : (w3).cell? ⟨w2.heap.size, 0, none⟩ = some (.bool d.neg) := F3d.out.cell 0
      have fd0 : (w3).frozen? ⟨w2.heap.size, 0, none⟩ = false := F3d.out.frozen 0
      have pd1 : (w3).cell? ⟨w2.heap.size, 1, none⟩ = some (.slice X x xc) := F3d.out.cell 1
      have fd1 : (w3).frozen? ⟨w2.heap.size, 1, none⟩ = false := F3d.out.frozen 1
      have pd2 : (w3).cell? ⟨w2.heap.size, 2, none⟩ = some (.int .i64 d.e) := F3d.out.cell 2
      have fd2 : (w3).frozen? ⟨w2.heap.size, 2, none⟩ = false := F3d.out.frozen 2
      have pr0 : (w3).cell? ⟨w.heap.size + 1, 0, none⟩ = some (.bool false) := F3r.out.cell 0
      have fr0 : (w3).frozen? ⟨w.heap.size + 1, 0, none⟩ = false := F3r.out.frozen 0
      have pr1 : (w3).cell? ⟨w.heap.size + 1, 1, none⟩ = some (.slice none 0 0) := F3r.out.cell 1
      have fr1 : (w3).frozen? ⟨w.heap.size + 1, 1, none⟩ = false := F3r.out.frozen 1
      have pr2 : (w3).cell? ⟨w.heap.size + 1, 2, none⟩ = some (.int .i64 0) := F3r.out.cell 2
      have fr2 : (w3).frozen? ⟨w.heap.size + 1, 2, none⟩ = false := F3r.out.frozen 2
      clear hsz
      go_wp2_with fail
      refine bodyPost_ret (v := .tuple #[.agg #[.bool d.neg, .slice X x xc, .int .i64 d.e], .int .i64 0]) (by simp [results, Tryz.results144, go_sem, pr0, pr1, pr2]) rfl ?_
      rw [show sgnR false (val l) ex more p up = (d, 0) from HS.out.trans (by simp)]
      exact ⟨X, x, xc, rfl, Lib.hid (store3_sl F3x.out F3r.out noU3 _ _ _), Lib.hid (store3_below HL3.out F3r.out _ _ _ (by omega))⟩
  · change er = 9 at h0
    subst h0
    go_upto_region 2 with (fail)
    obtain ⟨w3, hw⟩ : ∃ z9 : World, z9 = w2.alloc (.cells #[.bool d.neg, .slice X x xc, .int .i64 d.e] 25) := ⟨_, rfl⟩
    have HB3 := Lib.hid (show Below w2.heap.size w2 w3 by rw [hw]; exact below_a1 _ _)
    have F3d := Lib.hid (show Blk w3 w2.heap.size 25 #[.bool d.neg, .slice X x xc, .int .i64 d.e] by rw [hw]; exact Blk.new _ _ _)
    rw [← hw]
    clear hw
    have F3a := Lib.hid (F2a.out.belowW HB3.out)
    have F3t := Lib.hid (F2t.out.belowW HB3.out)
    have F3k := Lib.hid (F2k.out.belowW HB3.out)
    have F3r := Lib.hid (F2r.out.belowW HB3.out)
    have F3x := Lib.hid (F2x.out.belowW HB3.out)
    have HL3 := Lib.hid (HL2.out.trans (HB3.out.mono HL2.out.size))
    have pd0 : (w3).cell? ⟨w2.heap.size, 0, none⟩ = some (.bool d.neg) := F3d.out.cell 0
    have fd0 : (w3).frozen? ⟨w2.heap.size, 0, none⟩ = false := F3d.out.frozen 0
    have pd1 : (w3).cell? ⟨w2.heap.size, 1, none⟩ = some (.slice X x xc) := F3d.out.cell 1
    have fd1 : (w3).frozen? ⟨w2.heap.size, 1, none⟩ = false := F3d.out.frozen 1
    have pd2 : (w3).cell? ⟨w2.heap.size, 2, none⟩ = some (.int .i64 d.e) := F3d.out.cell 2
    have fd2 : (w3).frozen? ⟨w2.heap.size, 2, none⟩ = false := F3d.out.frozen 2
    have pr0 : (w3).cell? ⟨w.heap.size + 1, 0, none⟩ = some (.bool false) := F3r.out.cell 0
    have fr0 : (w3).frozen? ⟨w.heap.size + 1, 0, none⟩ = false := F3r.out.frozen 0
    have pr1 : (w3).cell? ⟨w.heap.size + 1, 1, none⟩ = some (.slice none 0 0) := F3r.out.cell 1
    have fr1 : (w3).frozen? ⟨w.heap.size + 1, 1, none⟩ = false := F3r.out.frozen 1
    have pr2 : (w3).cell? ⟨w.heap.size + 1, 2, none⟩ = some (.int .i64 0) := F3r.out.cell 2
    have fr2 : (w3).frozen? ⟨w.heap.size + 1, 2, none⟩ = false := F3r.out.frozen 2
    clear hsz
    go_wp2_with fail
    refine bodyPost_ret (v := .tuple #[.agg #[.bool d.neg, .slice X x xc, .int .i64 d.e], .int .i64 9]) (by simp [results, Tryz.results144, go_sem, pr0, pr1, pr2]) rfl ?_
    rw [show sgnR neg (val l) ex more p up = (d, 9) from HS.out.trans (by simp)]
    exact ⟨X, x, xc, rfl, Lib.hid (store3_sl F3x.out F3r.out noU3 _ _ _), Lib.hid (store3_below HL3.out F3r.out _ _ _ (by omega))⟩
end Go.Proofs.YtffdkakogeofmaaGreatDoor
