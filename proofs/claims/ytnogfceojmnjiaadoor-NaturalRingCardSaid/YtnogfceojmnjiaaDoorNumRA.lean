/-
  The walk of the law NaturalRing: its closures.
-/
import Derived.Test.YtnogfceojmnjiaaDoorNumOA
import Derived.Deep.RegionWith
set_option linter.unusedVariables false
namespace Go.Proofs.YtnogfceojmnjiaaDoor
open Go.RowKit Go.Fl Go.Fl.Nm

abbrev ofV (g7 : Nat) : Value := .func (.func 5) #[] #[.pointer (some ⟨g7, 0, none⟩)]
/-- 'ok' is true, and 'of' lies in its cell. -/
def OkC (w : World) (g7 g8 : Nat) : Prop := Blk w g7 4 #[.bool true] ∧ Blk w g8 25 #[ofV g7]
theorem OkC.below {w w' : World} {g7 g8 : Nat} (h : OkC w g7 g8) (hb : Below w.heap.size w w') : OkC w' g7 g8 := ⟨h.1.below hb h.1.lt, h.2.below hb h.2.lt⟩

set_option maxHeartbeats 400000 in
theorem of_any (g7 g8 : Nat) (A : Option Addr) (n c : Nat) (w : World) (hk : OkC w g7 g8) :
    Calls Tryd.prog 5 #[.slice A n c, .int .i64 0, .pointer (some ⟨g7, 0, none⟩)] w fun e w' => e = .returned (.slice A n c) ∧ w = w' := by
  have HB := Lib.hid hk.1
  have hc0 : w.cell? ⟨g7, 0, none⟩ = some (.bool true) := hk.1.cell 0
  have hf0 : w.frozen? ⟨g7, 0, none⟩ = false := hk.1.frozen 0
  clear hk
  go_enter Tryd.func5, Tryd.ntmps5
  go_wp2_with fail
  go_ret
  refine ⟨rfl, ?_⟩
  rw [HB.out.setCell_eq]
  exact HB.out.put_self.symm

def ClP (v : Nat) (w : World) (e : Ending) (w' : World) : Prop :=
  ∃ (A : Option Addr) (n : Nat), e = .returned (.slice A n n) ∧ Hid (Nw w' tU w.heap.size A n n (limbs v)) ∧ Hid (Below w.heap.size w w')

set_option maxHeartbeats 800000 in
theorem addC (g7 g8 : Nat) (A B : Option Addr) (n c m d : Nat) (a b : List Nat) (w : World) (hk : OkC w g7 g8) (ha : Sl w A n c a) (hb : Sl w B m d b) (hn : n ≤ 256) (hm : m ≤ 256) (hl : (limbs (val a + val b)).length ≤ 256) :
    Calls Tryd.prog 6 #[.slice A n c, .slice B m d, .pointer (some ⟨g8, 0, none⟩)] w (ClP (val a + val b) w) := by
  have HK := Lib.hid hk
  have HA := Lib.hid ha
  have HB := Lib.hid hb
  have HLM := Lib.hid hl
  have hc0 : w.drew.cell? ⟨g8, 0, none⟩ = some (ofV g7) := hk.2.cell 0
  clear hk ha hb hl
  go_enter Tryd.func6, Tryd.ntmps6
  go_wp2_with fail
  go_region_with (first
    | (go_at_call 7
       refine (nAdd_ok A B n c m d a b _ (HA.out.drewN 1) (HB.out.drewN 1) hn hm).mono ?_
       rintro e w2 ⟨P, np, lp, er, rfl, HP, HR, HB2⟩
       obtain ⟨he, hlp⟩ := HR.out.small HLM.out
       subst he hlp
       have HK2 := Lib.hid (show OkC w2 g7 g8 from OkC.below (w := w.drew) HK.out HB2.out)
       have hc2 : w2.cell? ⟨g8, 0, none⟩ = some (ofV g7) := HK2.out.2.cell 0)
    | (go_at_call 5
       refine (of_any g7 g8 P np np _ HK2.out).mono ?_
       rintro e w3 ⟨rfl, rfl⟩))
  all_goals
    (go_wp2_with fail
     go_ret
     exact ⟨P, np, rfl, Lib.hid HP.out, Lib.hid ⟨HB2.out.os, HB2.out.tape, HB2.out.output, HB2.out.size, HB2.out.block⟩⟩)
set_option maxHeartbeats 800000 in
theorem mulC (g7 g8 : Nat) (A B : Option Addr) (n c m d : Nat) (a b : List Nat) (w : World) (hk : OkC w g7 g8) (ha : Sl w A n c a) (hb : Sl w B m d b) (hn : n ≤ 256) (hm : m ≤ 256) (hl : (limbs (val a * val b)).length ≤ 256) :
    Calls Tryd.prog 8 #[.slice A n c, .slice B m d, .pointer (some ⟨g8, 0, none⟩)] w (ClP (val a * val b) w) := by
  have HK := Lib.hid hk
  have HA := Lib.hid ha
  have HB := Lib.hid hb
  have HLM := Lib.hid hl
  have hc0 : w.drew.cell? ⟨g8, 0, none⟩ = some (ofV g7) := hk.2.cell 0
  clear hk ha hb hl
  go_enter Tryd.func8, Tryd.ntmps8
  go_wp2_with fail
  go_region_with (first
    | (go_at_call 9
       refine (nMul_ok A B n c m d a b _ (HA.out.drewN 1) (HB.out.drewN 1) hn hm).mono ?_
       rintro e w2 ⟨P, np, lp, er, rfl, HP, HR, HB2⟩
       obtain ⟨he, hlp⟩ := HR.out.small HLM.out
       subst he hlp
       have HK2 := Lib.hid (show OkC w2 g7 g8 from OkC.below (w := w.drew) HK.out HB2.out)
       have hc2 : w2.cell? ⟨g8, 0, none⟩ = some (ofV g7) := HK2.out.2.cell 0)
    | (go_at_call 5
       refine (of_any g7 g8 P np np _ HK2.out).mono ?_
       rintro e w3 ⟨rfl, rfl⟩))
  all_goals
    (go_wp2_with fail
     go_ret
     exact ⟨P, np, rfl, Lib.hid HP.out, Lib.hid ⟨HB2.out.os, HB2.out.tape, HB2.out.output, HB2.out.size, HB2.out.block⟩⟩)

theorem add_len (a b k : Nat) (ha : (limbs a).length ≤ k) (hb : (limbs b).length ≤ k) : (limbs (a + b)).length ≤ k + 1 := by
  apply limbs_len_le
  have h1 := limbs_lt ha
  have h2 := limbs_lt hb
  have h3 : BB ^ k * 2 ≤ BB ^ k * BB := Nat.mul_le_mul_left _ (by unfold BB; omega)
  rw [Nat.pow_succ]
  omega
theorem mul_len2 (a b j k : Nat) (ha : (limbs a).length ≤ j) (hb : (limbs b).length ≤ k) : (limbs (a * b)).length ≤ j + k := Nat.le_trans (mul_len a b) (by omega)
end Go.Proofs.YtnogfceojmnjiaaDoor
