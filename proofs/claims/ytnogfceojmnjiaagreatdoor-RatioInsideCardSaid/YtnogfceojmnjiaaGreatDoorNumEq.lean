/-
  The walk of slices.Equal at limbs.
-/
import Derived.Test.YtnogfceojmnjiaaGreatDoorNumQ
set_option linter.unusedVariables false
namespace Go.Proofs.YtnogfceojmnjiaaGreatDoor
open Go.RowKit Go.Fl Go.Fl.Nm Go.Lib
def BoolQ (b : Bool) (w : World) (e : Ending) (w' : World) : Prop := e = .returned (.bool b) ∧ Hid (∃ q, w' = w.drewN q)

set_option maxHeartbeats 400000 in
theorem eq_any (A B : Option Addr) (n c m d : Nat) (a b : List Nat) (w : World) (ha : Sl w A n c a) (hb : Sl w B m d b) :
    Calls Tryz.prog 86 #[.slice A n c, .slice B m d] w (BoolQ (decide (a = b)) w) := by
  have HA := Lib.hid ha
  have HB := Lib.hid hb
  have hnm := ha.max
  have hmm := hb.max
  unfold maxLen at hnm hmm
  by_cases hl : n = m
  · subst hl
    have heq : ((n : Int) != n) = false := by simp
    clear ha hb
    go_enter Tryz.func86, Tryz.ntmps86
    go_wp2_with fail
    go_loopg [13] n (fun k i wr => ∃ d j : Nat, wr = w.drewN d ∧ i = .int .i64 j ∧ j ≤ n ∧ k = n - j ∧ Hid (a.take j = b.take j))
    case atStart => exact ⟨0, 0, rfl, rfl, by omega, by omega, Lib.hid rfl⟩
    case round =>
      obtain ⟨d, j, rfl, rfl, hj, rfl, HP⟩ := hrel
      by_cases hlt : j < n
      · obtain ⟨b1, o1, x, hA, _, hx, hxB, x0⟩ := HA.out.at_ hlt
        obtain ⟨b2, o2, y, hB, _, hy, hyB, y0⟩ := HB.out.at_ hlt
        subst hA hB
        have HX := Lib.hid hx
        have HY := Lib.hid hy
        clear hx hy
        have b0 : (0 : Int) ≤ j := by omega
        have b1 : (j : Int) < n := by omega
        by_cases hxy : x = y
        · subst hxy
          have HP2 := Lib.hid (show a.take (j + 1) = b.take (j + 1) by rw [take_succ_at HX.out, take_succ_at HY.out, HP.out])
          have hne : ((x : Int) != x) = false := by simp
          go_wp2_with fail
          go_quiet (fail)
          go_wp2_with fail
          go_roundg (n - (j + 1))
          case measure => omega
          case rel => exact ⟨_, j + 1, rfl, by go_num, by omega, rfl, HP2⟩
        · have hne : ((x : Int) != y) = true := by rw [bne_iff_ne]; omega
          have HF := Lib.hid (show decide (a = b) = false by
            rw [decide_eq_false_iff_not]
            intro h
            have := HX.out
            rw [h, HY.out] at this
            injection this with this
            exact hxy this.symm)
          clear hxy
          go_wp2_with fail
          go_quiet (fail)
          go_wp2_with fail
          go_ret
          exact ⟨by rw [HF.out]; rfl, Lib.hid ⟨_, drewN_drewN _ _ _⟩⟩
      · have HF := Lib.hid (show decide (a = b) = true by
          rw [decide_eq_true_eq]
          have := HP.out
          rwa [List.take_of_length_le (by rw [HA.out.len]; omega), List.take_of_length_le (by rw [HB.out.len]; omega)] at this)
        go_wp2_with fail
        go_ret
        exact ⟨by rw [HF.out]; rfl, Lib.hid ⟨_, rfl⟩⟩
  · have hne : ((n : Int) != m) = true := by rw [bne_iff_ne]; omega
    have HF := Lib.hid (show decide (a = b) = false by
      rw [decide_eq_false_iff_not]
      intro h
      have h1 := ha.len
      have h2 := hb.len
      rw [h] at h1
      omega)
    clear ha hb hl
    go_enter Tryz.func86, Tryz.ntmps86
    go_wp2_with fail
    go_ret
    exact ⟨by rw [HF.out]; rfl, Lib.hid ⟨0, rfl⟩⟩

theorem eq_same (A B : Option Addr) (n c m d : Nat) (a b : List Nat) (w : World) (ha : Sl w A n c a) (hb : Sl w B m d b) (h : a = b) :
    Calls Tryz.prog 86 #[.slice A n c, .slice B m d] w (BoolQ true w) := by
  have := eq_any A B n c m d a b w ha hb
  rwa [show decide (a = b) = true by simpa using h] at this

def Awk (w : World) (e : Ending) (w' : World) : Prop := e = .returned (.bool true) ∧ Hid (Below w.heap.size w w')
end Go.Proofs.YtnogfceojmnjiaaGreatDoor
