/-
  The walks of slices.Equal at limbs, and of the law's helpers: none, is, awake.
-/
import Derived.Test.YtnogfceojmnjiaaDoorNumS
set_option linter.unusedVariables false
namespace Go.Fl.Nm
open Go.RowKit Go.Fl Go.Lib
theorem limbs_one {x : Nat} (h0 : 0 < x) (h : x < BB) : limbs x = [x] := by
  rw [limbs_pos (by omega), Nat.mod_eq_of_lt h, Nat.div_eq_of_lt h, limbs_zero]
theorem limbs_inj {a b : Nat} (h : limbs a = limbs b) : a = b := by rw [← val_limbs a, ← val_limbs b, h]
theorem root_unique {a r s : Nat} (h1 : r * r ≤ a) (h2 : a < (r + 1) * (r + 1)) (h3 : s * s ≤ a) (h4 : a < (s + 1) * (s + 1)) : r = s := by
  rcases Nat.lt_trichotomy r s with h | h | h
  · have : (r + 1) * (r + 1) ≤ s * s := Nat.mul_le_mul h h
    omega
  · exact h
  · have : (s + 1) * (s + 1) ≤ r * r := Nat.mul_le_mul h h
    omega
theorem dec_example : decDigits 4294967297 = [52, 50, 57, 52, 57, 54, 55, 50, 57, 55] := by
  rw [dec_big (by omega), dec_big (by omega), dec_big (by omega), dec_big (by omega), dec_big (by omega), dec_big (by omega), dec_big (by omega), dec_big (by omega), dec_big (by omega), decDigits_one (by omega)]
  rfl
theorem Sl.new {w : World} {t : TypeId} {l : List Nat} (n : Nat) (hok : Go.Fl.Nm.ok l) (hn : l.length = n) (hm : n ≤ maxLen) : Sl (w.alloc (.cells (UA l) t)) (some ⟨w.heap.size, 0, none⟩) n n l :=
  (Nw.of_blk (base := 0) (Blk.new w t _) hok (Nat.zero_le _) hn hm).sl
end Go.Fl.Nm

namespace Go.Proofs.YtnogfceojmnjiaaDoor
open Go.RowKit Go.Fl Go.Fl.Nm Go.Lib

def BoolQ (b : Bool) (w : World) (e : Ending) (w' : World) : Prop := e = .returned (.bool b) ∧ Hid (∃ q, w' = w.drewN q)

set_option maxHeartbeats 400000 in
theorem eq_any (A B : Option Addr) (n c m d : Nat) (a b : List Nat) (w : World) (ha : Sl w A n c a) (hb : Sl w B m d b) :
    Calls Tryd.prog 10 #[.slice A n c, .slice B m d] w (BoolQ (decide (a = b)) w) := by
  have HA := Lib.hid ha
  have HB := Lib.hid hb
  have hnm := ha.max
  have hmm := hb.max
  unfold maxLen at hnm hmm
  by_cases hl : n = m
  · subst hl
    have heq : ((n : Int) != n) = false := by simp
    clear ha hb
    go_enter Tryd.func10, Tryd.ntmps10
    go_wp2_with fail
    go_loopg [13] n (fun k i wr => ∃ d j : Nat, wr = w.drewN d ∧ i = .int .i64 j ∧ j ≤ n ∧ k = n - j ∧ Hid (a.take j = b.take j))
    case atStart => exact ⟨0, 0, rfl, rfl, by omega, by omega, Lib.hid rfl⟩
    case round =>
      obtain ⟨d, j, rfl, rfl, hj, rfl, HP⟩ := hrel
      by_cases hlt : j < n
      · obtain ⟨b1, o1, x, hA, _, hx, hxB, x0⟩ := HA.out.at_ hlt
        obtain ⟨b2, o2, y, hB, _, hy, hyB, y0⟩ := HB.out.at_ hlt
        subst hA hB
        have HX := Lib.hid hx
        have HY := Lib.hid hy
        clear hx hy
        have b0 : (0 : Int) ≤ j := by omega
        have b1 : (j : Int) < n := by omega
        by_cases hxy : x = y
        · subst hxy
          have HP2 := Lib.hid (show a.take (j + 1) = b.take (j + 1) by rw [take_succ_at HX.out, take_succ_at HY.out, HP.out])
          have hne : ((x : Int) != x) = false := by simp
          go_wp2_with fail
          go_quiet (fail)
          go_wp2_with fail
          go_roundg (n - (j + 1))
          case measure => omega
          case rel => exact ⟨_, j + 1, rfl, by go_num, by omega, rfl, HP2⟩
        · have hne : ((x : Int) != y) = true := by rw [bne_iff_ne]; omega
          have HF := Lib.hid (show decide (a = b) = false by
            rw [decide_eq_false_iff_not]
            intro h
            have := HX.out
            rw [h, HY.out] at this
            injection this with this
            exact hxy this.symm)
          clear hxy
          go_wp2_with fail
          go_quiet (fail)
          go_wp2_with fail
          go_ret
          exact ⟨by rw [HF.out]; rfl, Lib.hid ⟨_, drewN_drewN _ _ _⟩⟩
      · have HF := Lib.hid (show decide (a = b) = true by
          rw [decide_eq_true_eq]
          have := HP.out
          rwa [List.take_of_length_le (by rw [HA.out.len]; omega), List.take_of_length_le (by rw [HB.out.len]; omega)] at this)
        go_wp2_with fail
        go_ret
        exact ⟨by rw [HF.out]; rfl, Lib.hid ⟨_, rfl⟩⟩
  · have hne : ((n : Int) != m) = true := by rw [bne_iff_ne]; omega
    have HF := Lib.hid (show decide (a = b) = false by
      rw [decide_eq_false_iff_not]
      intro h
      have h1 := ha.len
      have h2 := hb.len
      rw [h] at h1
      omega)
    clear ha hb hl
    go_enter Tryd.func10, Tryd.ntmps10
    go_wp2_with fail
    go_ret
    exact ⟨by rw [HF.out]; rfl, Lib.hid ⟨0, rfl⟩⟩

theorem eq_same (A B : Option Addr) (n c m d : Nat) (a b : List Nat) (w : World) (ha : Sl w A n c a) (hb : Sl w B m d b) (h : a = b) :
    Calls Tryd.prog 10 #[.slice A n c, .slice B m d] w (BoolQ true w) := by
  have := eq_any A B n c m d a b w ha hb
  rwa [show decide (a = b) = true by simpa using h] at this

def Awk (w : World) (e : Ending) (w' : World) : Prop := e = .returned (.bool true) ∧ Hid (Below w.heap.size w w')
theorem ResV.small {v : Nat} {l : List Nat} {er : Int} (h : ResV v l er) (hl : (limbs v).length ≤ 256) : er = 0 ∧ l = limbs v := by
  rcases h with ⟨h1, h2, _⟩ | ⟨_, _, h3⟩
  · exact ⟨h1, h2⟩
  · omega

set_option maxHeartbeats 1600000 in
set_option maxRecDepth 100000 in
theorem awake_any (w : World) (ht : TB w) : Calls Tryd.prog 4 #[] w (Awk w) := by
  have HT := Lib.hid ht
  clear ht
  have ok1 : ok [1, 1] := by intro x hx; simp at hx; subst hx; decide
  have ok3 : ok [3] := by intro x hx; simp at hx; subst hx; decide
  have HA1 := Lib.hid (Sl.new (w := w) (t := tU) (l := [1, 1]) 2 ok1 rfl (by unfold maxLen; omega))
  have HL1 := Lib.hid ((Below.refl w.heap.size w).alloc (Nat.le_refl _) (.cells (UA [1, 1]) tU))
  have hU1 : (.cells #[.int .u32 1, .int .u32 1] tU : Obj) = .cells (UA [1, 1]) tU := rfl
  have hU3 : (.cells #[.int .u32 3] tU : Obj) = .cells (UA [3]) tU := rfl
  have HV := Lib.hid (show val [1, 1] = 4294967297 from rfl)
  have HV3 := Lib.hid (show val [3] = 3 from rfl)
  have HO3 := Lib.hid ok3
  go_enter Tryd.func4, Tryd.ntmps4
  go_wp2_with fail
  have HB2 := Lib.hid (Sl.new (w := w.alloc (.cells (UA [1, 1]) tU)) (t := tU) (l := [3]) 1 ok3 rfl (by unfold maxLen; omega))
  rw [show (w.alloc (.cells (UA [1, 1]) tU)).heap.size = w.heap.size + 1 by simp] at HB2
  generalize hw2 : (w.alloc (.cells (UA [1, 1]) tU)).alloc (.cells (UA [3]) tU) = w2 at *
  have HA2 := Lib.hid (show Sl w2 (some ⟨w.heap.size, 0, none⟩) 2 2 [1, 1] by rw [← hw2]; exact HA1.out.alloc _)
  have HL2 := Lib.hid (show Below w.heap.size w w2 by rw [← hw2]; exact HL1.out.alloc (by simp) _)
  clear hw2 hU1 hU3 ok1 ok3
  refine (nDivMod_ok _ _ 2 2 1 1 [1, 1] [3] w2 HA2.out HB2.out (by omega) (by omega) (by rw [HV3.out]; omega)).mono ?_
  rw [HV.out, HV3.out]
  rintro e w3 ⟨Q, R, nq, nr, rfl, HQ, HR, HL3⟩
  have HQ' := Lib.hid (show Nw w3 tU w2.heap.size Q nq nq [1431655765] by rw [← limbs_one (x := 1431655765) (by omega) (by unfold BB; omega)]; exact HQ.out)
  have HR' := Lib.hid (show Nw w3 tU w2.heap.size R nr nr [2] by rw [← limbs_one (x := 2) (by omega) (by unfold BB; omega)]; exact HR.out)
  clear HQ HR
  have HL3' := Lib.hid (HL2.out.trans (HL3.out.mono HL2.out.size))
  have HA3 := Lib.hid (HA2.out.below HL3.out)
  go_wp2_with fail
  refine (nSqrt_ok _ 2 2 [1, 1] w3 HA3.out (by omega)).mono ?_
  rw [HV.out]
  rintro e w4 ⟨r, h1, h2, S, ns, ls, er, rfl, HS, HRS, HL4⟩
  obtain rfl : r = 65536 := root_unique h1 h2 (by omega) (by omega)
  clear h1 h2
  have HS' := HRS.out.small (by rw [limbs_one (by omega) (by unfold BB; omega)]; simp)
  rw [limbs_one (by omega) (by unfold BB; omega)] at HS'
  obtain ⟨rfl, rfl⟩ := HS'
  clear HRS
  have HL4' := Lib.hid (HL3'.out.trans (HL4.out.mono HL3'.out.size))
  have HA4 := Lib.hid (HA3.out.below HL4.out)
  have HQ4 := Lib.hid (HQ'.out.sl.below HL4.out)
  have HR4 := Lib.hid (HR'.out.sl.below HL4.out)
  go_wp2_with fail
  refine (nText_ok _ 2 2 [1, 1] w4 HA4.out (by omega) (HT.out.below HL4'.out)).mono ?_
  rw [HV.out]
  rintro e w5 ⟨rfl, HL5⟩
  rw [dec_example]
  have HL5' := Lib.hid (HL4'.out.trans (HL5.out.mono HL4'.out.size))
  have HA5 := Lib.hid (HA4.out.below HL5.out)
  have HQ5 := Lib.hid (HQ4.out.below HL5.out)
  have HR5 := Lib.hid (HR4.out.below HL5.out)
  have HS5 := Lib.hid (HS.out.sl.below HL5.out)
  have hq : (.cells #[.int .u32 1431655765] tU : Obj) = .cells (UA [1431655765]) tU := rfl
  have hr : (.cells #[.int .u32 2] tU : Obj) = .cells (UA [2]) tU := rfl
  have hs : (.cells #[.int .u32 65536] tU : Obj) = .cells (UA [65536]) tU := rfl
  go_wp2_with fail
  refine (eq_same Q _ nq nq 1 1 _ [1431655765] _ (HQ5.out.alloc _) (Sl.new 1 (by intro x hx; simp at hx; subst hx; decide) rfl (by unfold maxLen; omega)) rfl).mono ?_
  rintro e w6 ⟨rfl, HQ6⟩
  have HL6 := Lib.hid (show Below w.heap.size w w6 by obtain ⟨q, hq⟩ := HQ6.out; rw [hq]; exact below_drewN (HL5'.out.alloc HL5'.out.size _) q)
  have HL56 := Lib.hid (show Below w5.heap.size w5 w6 by obtain ⟨q, hq⟩ := HQ6.out; rw [hq]; exact below_drewN ((Below.refl _ _).alloc (Nat.le_refl _) _) q)
  clear HQ6
  have HR6 := Lib.hid (HR5.out.below HL56.out)
  have HS6 := Lib.hid (HS5.out.below HL56.out)
  have HA6 := Lib.hid (HA5.out.below HL56.out)
  go_wp2_with fail
  refine (eq_same R _ nr nr 1 1 _ [2] _ (HR6.out.alloc _) (Sl.new 1 (by intro x hx; simp at hx; subst hx; decide) rfl (by unfold maxLen; omega)) rfl).mono ?_
  rintro e w7 ⟨rfl, HQ7⟩
  have HL7 := Lib.hid (show Below w.heap.size w w7 by obtain ⟨q, hq⟩ := HQ7.out; rw [hq]; exact below_drewN (HL6.out.alloc HL6.out.size _) q)
  have HL67 := Lib.hid (show Below w6.heap.size w6 w7 by obtain ⟨q, hq⟩ := HQ7.out; rw [hq]; exact below_drewN ((Below.refl _ _).alloc (Nat.le_refl _) _) q)
  clear HQ7
  have HS7 := Lib.hid (HS6.out.below HL67.out)
  have HA7 := Lib.hid (HA6.out.below HL67.out)
  go_wp2_with fail
  refine (eq_same S _ ns ns 1 1 _ [65536] _ (HS7.out.alloc _) (Sl.new 1 (by intro x hx; simp at hx; subst hx; decide) rfl (by unfold maxLen; omega)) rfl).mono ?_
  rintro e w8 ⟨rfl, HQ8⟩
  have HL8 := Lib.hid (show Below w.heap.size w w8 by obtain ⟨q, hq⟩ := HQ8.out; rw [hq]; exact below_drewN (HL7.out.alloc HL7.out.size _) q)
  have HL78 := Lib.hid (show Below w7.heap.size w7 w8 by obtain ⟨q, hq⟩ := HQ8.out; rw [hq]; exact below_drewN ((Below.refl _ _).alloc (Nat.le_refl _) _) q)
  clear HQ8
  have HA8 := Lib.hid (HA7.out.below HL78.out)
  have HBL := Lib.hid (show blen 4294967297 = 33 by unfold blen; rw [if_neg (by omega)]; decide)
  go_wp2_with fail
  refine (bits_any _ 2 2 [1, 1] w8 HA8.out (by omega)).mono ?_
  rw [HV.out, HBL.out]
  rintro e w9 ⟨rfl, rfl⟩
  go_wp2_with fail
  go_ret
  exact ⟨rfl, HL8⟩
end Go.Proofs.YtnogfceojmnjiaaDoor
