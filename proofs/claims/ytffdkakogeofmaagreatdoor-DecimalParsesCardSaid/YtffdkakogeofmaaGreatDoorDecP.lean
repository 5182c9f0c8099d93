/-
  The walks of the reference's limbs: trim, left, minus, compare.
-/
import Derived.Test.YtffdkakogeofmaaGreatDoorNumY
import Derived.Test.YtffdkakogeofmaaGreatDoorDyD
set_option linter.unusedVariables false
namespace Go.Fl.Nm
end Go.Fl.Nm
namespace Go.Proofs.YtffdkakogeofmaaGreatDoor
open Go.RowKit Go.Fl Go.Fl.Nm Go.Fl.Dy
set_option maxHeartbeats 800000 in
set_option maxRecDepth 100000 in
theorem uTrim (A : Option Addr) (n c : Nat) (l : List Nat) (w : World) (h : Sl w A n c l) (hn : n ≤ 1000000) :
    Calls Tryz.prog 146 #[.slice A n c] w (RP (val l) w) := by
  have hm := h.max
  have hcap := h.cap
  have hcm := h.capMax
  unfold maxLen at hm hcm
  have H := Lib.hid h
  have hlen : l.length = n := h.len
  have HL := Lib.hid hlen
  have HTL := Lib.hid (trim_limbs h.ok)
  have HLO := Lib.hid (limbs_ok (val l))
  have HOWN := Lib.hid (show (w.alloc (.cells #[] tU)).ownsRow w.heap.size tU 1 (.slice (some ⟨w.heap.size, 0, none⟩) 0 0) 0 [] from ⟨rfl, .inr ⟨w.heap.size, 0, #[], rfl, Nat.le_refl _, Blk.new _ _ _, Nat.le_refl _, by unfold maxLen; omega, rfl, rfl⟩⟩)
  have HL0 := Lib.hid ((Below.refl w.heap.size w).alloc (Nat.le_refl _) (.cells #[] tU))
  obtain ⟨i0, ti, tz0, tz1, tz2⟩ := info_parts Tryz.infoU32
  cases A with
  | none =>
    have := h.nil rfl
    subst this
    obtain rfl : n = 0 := by omega
    have : l = [] := List.eq_nil_of_length_eq_zero hlen
    subst this
    clear h hlen
    go_enter Tryz.func146, Tryz.ntmps146
    go_wp2
    go_loop [3] (fun i => i = .int .i64 0) (fun _ => 0)
    case atStart => rfl
    case round =>
      subst hrel
      go_wp2_with (at_builtin; refine wpList_append_own_none rfl _ _ _ rfl w.heap.size 49 i0 1 Tryz.underlying23 ti (.slice (some ⟨w.heap.size, 0, none⟩) 0 0) 0 [] rfl (by exact HOWN.out) rfl ?_)
      go_ret
      refine ⟨_, 0, 0, rfl, Lib.hid ?_, HL0⟩
      rw [val_nil, limbs_zero]
      exact Nw.empty _ _ _ _
  | some ad =>
    clear h hlen
    go_enter Tryz.func146, Tryz.ntmps146
    go_wp2_with fail
    go_loop [3] (fun i => ∃ k : Nat, i = .int .i64 k ∧ k ≤ n ∧ Hid (∀ x ∈ l.drop k, x = 0)) (fun i => (intOf i).toNat)
    case atStart => exact ⟨n, rfl, by omega, Lib.hid (by rw [List.drop_eq_nil_of_le (by rw [HL.out]; omega)]; simp)⟩
    case round =>
      obtain ⟨k, rfl, hk, HZ⟩ := hrel
      by_cases hk0 : k = 0
      · subst hk0
        have HT := Lib.hid (tl_unique (by omega) HZ.out (fun x h => absurd h (by omega)))
        have HRD := Lib.hid ((H.out.cut (m := 0) (c' := c) (by omega) (by omega) (by unfold maxLen; omega) (fun h => by cases h)).rd.alloc (.cells #[] tU))
        have hd : decide ((0 : Int) < 0) = false := rfl
        go_wp2_with (at_builtin; refine wpList_append_rd _ rfl _ _ _ rfl w.heap.size 49 i0 _ 1 4 Tryz.underlying23 ti tz0 tz1 tz2 rfl (by omega) (.slice (some ⟨w.heap.size, 0, none⟩) 0 0) 0 [] rfl (by exact HOWN.out) (some ad) (0) c (by simp) (U (l.take (0))) rfl (by exact HRD.out) (U_one _) (by unfold maxLen; omega) (by omega) (by simp) ?_)
        intro v' w2 hown2 hgrow
        have HO2 := Lib.hid (show w2.ownsRow w.heap.size tU 1 v' (0) (U (limbs (val l))) by
          rw [← HTL.out, HT.out]
          simpa using hown2)
        have HL2 := Lib.hid (HL0.out.trans (below_of_grown hgrow (by
          intro g hg
          have : w.heap.size = g := by simpa [Value.ownBlock] using hg
          omega) (by simp)))
        clear hown2 hgrow ti tz0 tz1 tz2
        go_wp2_with fail
        go_ret
        obtain ⟨A', c', rfl, hnw⟩ := Nw.of_own HO2.out HLO.out
        exact ⟨A', _, c', rfl, Lib.hid hnw, HL2⟩
      · obtain ⟨j, rfl⟩ : ∃ j, k = j + 1 := ⟨k - 1, by omega⟩
        obtain ⟨b, off, x, hA, hb, hx, hxB, hcell⟩ := H.out.at_ (i := j) (by omega)
        injection hA with hA
        subst hA
        have HX := Lib.hid hx
        clear hx hk0
        unfold BB at hxB
        by_cases hx0 : x = 0
        · subst hx0
          have HZ' := Lib.hid (show ∀ x ∈ l.drop j, x = 0 by
            rw [drop_at HX.out]
            intro y hy
            rcases List.mem_cons.1 hy with rfl | hy
            · rfl
            · exact HZ.out y hy)
          clear ti tz0 tz1 tz2
          go_wp2_with fail
          go_round
          case rel => exact ⟨j, by go_num, by omega, HZ'⟩
          case measure => simp [intOf]
        · have HT := Lib.hid (tl_unique (by rw [HL.out]; exact hk) HZ.out (fun y _ hy => by
            rw [show j + 1 - 1 = j by omega, HX.out] at hy
            injection hy with hy
            rw [← hy]; exact hx0))
          have hxd : ((x : Int) == 0) = false := by rw [beq_eq_false_iff_ne]; omega
          have HRD := Lib.hid ((H.out.cut (m := j + 1) (c' := c) hk (by omega) (by unfold maxLen; omega) (fun h => by cases h)).rd.alloc (.cells #[] tU))
          clear hx0
          go_wp2_with (at_builtin; refine wpList_append_rd _ rfl _ _ _ rfl w.heap.size 49 i0 _ 1 4 Tryz.underlying23 ti tz0 tz1 tz2 rfl (by omega) (.slice (some ⟨w.heap.size, 0, none⟩) 0 0) 0 [] rfl (by exact HOWN.out) (some ⟨b, off, none⟩) (j + 1) c (by simp) (U (l.take (j + 1))) rfl (by exact HRD.out) (U_one _) (by unfold maxLen; omega) (by omega) (by simp) ?_)
          intro v' w2 hown2 hgrow
          have HO2 := Lib.hid (show w2.ownsRow w.heap.size tU 1 v' (j + 1) (U (limbs (val l))) by
            rw [← HTL.out, HT.out]
            simpa using hown2)
          have HL2 := Lib.hid (HL0.out.trans (below_of_grown hgrow (by
            intro g hg
            have : w.heap.size = g := by simpa [Value.ownBlock] using hg
            omega) (by simp)))
          clear hown2 hgrow ti tz0 tz1 tz2
          go_wp2_with fail
          go_ret
          obtain ⟨A', c', rfl, hnw⟩ := Nw.of_own HO2.out HLO.out
          exact ⟨A', _, c', rfl, Lib.hid hnw, HL2⟩


end Go.Proofs.YtffdkakogeofmaaGreatDoor
