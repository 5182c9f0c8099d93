/-
  The walk of divide: small numbers, and one limb.
-/
import Derived.Test.YtnogfceojmnjiaaDoorNumM
import Derived.Lib.LazyBuf
set_option linter.unusedVariables false
namespace Go.Proofs.YtnogfceojmnjiaaDoor
open Go.RowKit Go.Fl Go.Fl.Nm

def ClonePost (n : Nat) (l : List Nat) (w : World) (e : Ending) (w' : World) : Prop :=
  ∃ (A : Option Addr) (c : Nat), e = .returned (.slice A n c) ∧ Hid (Nw w' tU w.heap.size A n c l) ∧ Hid (Below w.heap.size w w')
theorem U_one (l : List Nat) : ∀ u ∈ U l, u.oneCell' = true := by
  intro u hu
  unfold U at hu
  obtain ⟨x, _, rfl⟩ := List.mem_map.1 hu
  rfl
set_option maxRecDepth 100000 in
theorem clone_any (A : Option Addr) (n c : Nat) (l : List Nat) (w : World) (h : Sl w A n c l) (hn : n ≤ 1000000) :
    Calls Tryd.prog 37 #[.slice A n c] w (ClonePost n l w) := by
  cases A with
  | none =>
    have hc := h.nil rfl
    have hcap := h.cap
    obtain rfl : n = 0 := by omega
    obtain rfl : l = [] := List.eq_nil_of_length_eq_zero h.len
    refine (Tryd.slices_Clone_nil 0 c w).mono ?_
    rintro e w' ⟨rfl, rfl⟩
    exact ⟨none, 0, rfl, Lib.hid (Nw.none_ _ _ _), Lib.hid (Below.refl _ _)⟩
  | some ad =>
    obtain ⟨i0, ti, tz0, tz1, tz2⟩ := info_parts Tryd.infoU32
    have H := Lib.hid h
    clear h
    have HOWN := Lib.hid (show (w.alloc (.cells #[] tU)).ownsRow w.heap.size tU 1 (.slice (some ⟨w.heap.size, 0, none⟩) 0 0) 0 [] from ⟨rfl, .inr ⟨w.heap.size, 0, #[], rfl, Nat.le_refl _, Blk.new _ _ _, Nat.le_refl _, by unfold maxLen; omega, rfl, rfl⟩⟩)
    have hnil : ∀ w : World, (binOp .eql 22 (.slice (some ad) n c) (.slice none 0 0)).run Tryd.prog w = .ok (.bool false) w := fun w => Lib.run_eql_slice_nil (h := Tryd.underlying22) ..
    go_enter Tryd.func37, Tryd.ntmps37
    go_wp2_with (at_builtin; refine wpList_append_rd _ rfl _ _ _ rfl w.heap.size 30 i0 _ 1 4 Tryd.underlying22 ti tz0 tz1 tz2 rfl (by omega) (.slice (some ⟨w.heap.size, 0, none⟩) 0 0) 0 [] rfl (by exact HOWN.out) (some ad) n c (by simp) (U l) rfl (by exact H.out.rd.alloc _) (U_one l) (by unfold maxLen; omega) (by omega) (by simp) ?_)
    intro v' w2 hown2 hgrow
    have HO2 := Lib.hid (show w2.ownsRow w.heap.size tU 1 v' n (U l) by simpa using hown2)
    have HL2 := Lib.hid (((Below.refl w.heap.size w).alloc (Nat.le_refl _) (.cells #[] tU)).trans (below_of_grown hgrow (by
      intro g hg
      have : w.heap.size = g := by simpa [Value.ownBlock] using hg
      omega) (by simp)))
    clear hown2 hgrow ti tz0 tz1 tz2 hnil
    go_wp2_with fail
    go_ret
    obtain ⟨A', c', rfl, hnw⟩ := Nw.of_own HO2.out H.out.ok
    exact ⟨A', c', rfl, Lib.hid hnw, HL2⟩

def DPost (N M v u : Nat) (w : World) (e : Ending) (w' : World) : Prop :=
  ∃ (A : Option Addr) (n c : Nat) (l : List Nat) (B : Option Addr) (m d : Nat) (r : List Nat), e = .returned (.tuple #[.slice A n c, .slice B m d]) ∧ Hid (Nw w' tU w.heap.size A n c l) ∧ Hid (Nw w' tU w.heap.size B m d r) ∧
    Hid (val l = v / u) ∧ Hid (val r = v % u) ∧ n ≤ N ∧ m ≤ M ∧ Hid (Below w.heap.size w w')

theorem trim_sl {w : World} {A : Option Addr} {n c : Nat} {a : List Nat} (ha : Sl w A n c a) : tl a ≤ n ∧ Sl w A (tl a) c (a.take (tl a)) := by
  have hta : tl a ≤ n := by rw [← ha.len]; exact tl_le a
  exact ⟨hta, ha.cut hta (by have := ha.cap; omega) ha.capMax ha.nil⟩

set_option maxHeartbeats 800000 in
set_option maxRecDepth 100000 in
/-- divide: the dividend is less than the divisor. -/
theorem divide_less (A B : Option Addr) (n c m d : Nat) (a b : List Nat) (w : World) (ha : Sl w A n c a) (hb : Sl w B m d b) (hn : n ≤ 100000) (hlt : val a < val b) :
    Calls Tryd.prog 23 #[.slice A n c, .slice B m d] w (DPost n (max n m) (val a) (val b) w) := by
  obtain ⟨hta, ha2⟩ := trim_sl ha
  obtain ⟨htb, hb2⟩ := trim_sl hb
  have HA := Lib.hid ha
  have HB := Lib.hid hb
  have HA2 := Lib.hid ha2
  have HB2 := Lib.hid hb2
  have HVA := Lib.hid (val_trim a)
  have HVB := Lib.hid (val_trim b)
  have HC := Lib.hid (cmpN_lt hlt)
  have HLT := Lib.hid hlt
  clear ha hb ha2 hb2 hlt
  generalize hx : tl a = x at *
  generalize hy : tl b = y at *
  have HX := Lib.hid hx
  have HY := Lib.hid hy
  clear hx hy
  go_enter Tryd.func23, Tryd.ntmps23
  go_wp2_with fail
  refine (trim_any A n c a w HA.out).mono ?_
  rintro e w1 ⟨rfl, rfl⟩
  rw [HX.out]
  go_wp2_with fail
  refine (trim_any B m d b w HB.out).mono ?_
  rintro e w1 ⟨rfl, rfl⟩
  rw [HY.out]
  go_wp2_with fail
  refine (cmp_any A B x c y d _ _ w HA2.out HB2.out).mono ?_
  rw [HVA.out, HVB.out, HC.out]
  rintro e w1 ⟨rfl, q, hq⟩
  have HA3 := Lib.hid (show Sl w1 A x c (a.take x) by rw [hq]; exact HA2.out.drewN q)
  have HL1 := Lib.hid (show Below w.heap.size w w1 by rw [hq]; exact below_drewN (Below.refl _ _) q)
  have hs1 : w1.heap.size = w.heap.size := by rw [hq]; rfl
  have HS1 := Lib.hid hs1
  clear hq hs1
  go_wp2_with fail
  refine (clone_any A x c _ w1 HA3.out (by omega)).mono ?_
  rintro e w2 ⟨A2, c2, rfl, HN2, HL2⟩
  rw [HS1.out] at HN2 HL2
  go_wp2_with fail
  refine bodyPost_ret (v := .tuple #[.slice none 0 0, .slice A2 x c2]) (by simp [results, Tryd.results23, go_sem]) rfl ?_
  exact ⟨none, 0, 0, [], A2, x, c2, _, rfl, Lib.hid (Nw.none_ _ _ _), HN2, Lib.hid (by rw [Nat.div_eq_of_lt HLT.out]; rfl), Lib.hid (by rw [HVA.out, Nat.mod_eq_of_lt HLT.out]), by omega, by omega, Lib.hid (HL1.out.trans HL2.out)⟩

set_option maxHeartbeats 800000 in
set_option maxRecDepth 100000 in
/-- divide: the divisor has one limb. -/
theorem divide_one (A B : Option Addr) (n c m d : Nat) (a b : List Nat) (w : World) (ha : Sl w A n c a) (hb : Sl w B m d b) (hn : n ≤ 100000) (hle : val b ≤ val a) (h1 : tl b = 1) :
    Calls Tryd.prog 23 #[.slice A n c, .slice B m d] w (DPost n (max n m) (val a) (val b) w) := by
  obtain ⟨hta, ha2⟩ := trim_sl ha
  obtain ⟨htb, hb2⟩ := trim_sl hb
  rw [h1] at htb hb2
  obtain ⟨b1, o1, y, hB, hb1, hy, hyB, hcell⟩ := hb2.at_ (i := 0) (by omega)
  subst hB
  have hvy : val b = y := by
    have := val_trim b
    rw [h1, show (1 : Nat) = 0 + 1 from rfl, val_take_succ (x := y) (by rw [List.getElem?_take_of_lt (by omega)] at hy; exact hy)] at this
    simp [val_nil] at this
    exact this.symm
  have hy0 : 0 < y := by
    have : y ≠ 0 := tl_last (l := b) (by omega) (by rw [h1]; rw [List.getElem?_take_of_lt (by omega)] at hy; exact hy)
    omega
  have HA := Lib.hid ha
  have HB := Lib.hid hb
  have HA2 := Lib.hid ha2
  have HB2 := Lib.hid hb2
  have HVA := Lib.hid (val_trim a)
  have HVB := Lib.hid (val_trim b)
  rw [h1] at HVB
  have hc0 := cmpN_range (val a) (val b)
  have hc1 : ¬ cmpN (val a) (val b) < 0 := fun h => by have := (cmpN_neg _ _).1 h; omega
  generalize hcc : cmpN (val a) (val b) = cc at *
  have HCC := Lib.hid hcc
  have hdc : decide (cc < 0) = false := by simpa using hc1
  have HVY := Lib.hid hvy
  have HY := Lib.hid h1
  clear ha hb ha2 hb2 hle hvy hy h1 hcc hc1
  generalize hx : tl a = x at *
  have HX := Lib.hid hx
  clear hx
  unfold BB at hyB
  go_enter Tryd.func23, Tryd.ntmps23
  go_wp2_with fail
  refine (trim_any A n c a w HA.out).mono ?_
  rintro e w1 ⟨rfl, rfl⟩
  rw [HX.out]
  go_wp2_with fail
  refine (trim_any _ m d b w HB.out).mono ?_
  rintro e w1 ⟨rfl, rfl⟩
  rw [HY.out]
  go_wp2_with fail
  refine (cmp_any A _ x c 1 d _ _ w HA2.out HB2.out).mono ?_
  rw [HVA.out, HVB.out, HCC.out]
  rintro e w1 ⟨rfl, q, hq⟩
  have HA3 := Lib.hid (show Sl w1 A x c (a.take x) by rw [hq]; exact HA2.out.drewN q)
  have HL1 := Lib.hid (show Below w.heap.size w w1 by rw [hq]; exact below_drewN (Below.refl _ _) q)
  have HS1 := Lib.hid (show w1.heap.size = w.heap.size by rw [hq]; rfl)
  have hc1 : w1.cell? ⟨b1, o1, none⟩ = some (.int .u32 y) := by rw [hq]; exact hcell
  clear hq hcell
  go_wp2_with fail
  refine (short_any A x c y _ w1 HA3.out (by omega) hy0 hyB).mono ?_
  rintro e w2 ⟨A2, c2, l2, rfl, HN2, HV2, HL2⟩
  rw [HS1.out] at HN2 HL2
  rw [HVA.out, ← HVY.out] at HV2 ⊢
  have hs2 := HL2.out.size
  rw [HS1.out] at hs2
  go_wp2_with fail
  refine bodyPost_ret (v := .tuple #[.slice A2 x c2, .slice (some ⟨w2.heap.size, 0, none⟩) 1 1]) (by simp [results, Tryd.results23, go_sem]) rfl ?_
  have hmod : val a % val b < BB := Nat.lt_trans (Nat.mod_lt _ (by rw [HVY.out]; exact hy0)) (by rw [HVY.out]; exact hyB)
  have hblk := Blk.new w2 tU (UA [val a % val b])
  refine ⟨A2, x, c2, l2, _, 1, 1, [val a % val b], rfl, Lib.hid (HN2.out.alloc _), Lib.hid (Nw.of_blk (l := [val a % val b]) ?_ (ok_cons.2 ⟨hmod, ok_nil⟩) hs2 rfl (by unfold maxLen; omega)), HV2, Lib.hid (by simp [val_cons, val_nil]), by omega, by omega, Lib.hid ((HL1.out.trans HL2.out).alloc hs2 _)⟩
  exact hblk
end Go.Proofs.YtnogfceojmnjiaaDoor
