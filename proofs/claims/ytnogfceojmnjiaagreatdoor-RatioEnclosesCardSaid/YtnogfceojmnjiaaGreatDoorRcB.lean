/-
  The walks of the reference's set and next.
-/
import Derived.Test.YtnogfceojmnjiaaGreatDoorRcA
import Derived.Test.YtnogfceojmnjiaaGreatDoorRoB
import Derived.Laws.OwnMore
set_option linter.unusedVariables false
namespace Go.Fl.Dy
open Go.Fl.Nm
theorem or_one (x : Nat) (hx : x < 4294967296) (h2 : x % 2 = 0) : Go.bits .or .u32 (x : Int) 1 = ((x + 1 : Nat) : Int) := by
  have := bits_join .u32 32 (by decide) (fun n h0 h1 => by rw [IntKind.wrap_u32]; omega) 1 (x : Int) 1 (by omega) (by omega) (by omega) (by omega) (by omega) (by omega)
  rw [this]; omega
theorem set_val {l : List Nat} {i x y : Nat} (hx : l[i]? = some x) : val (l.set i y) + BB ^ i * x = val l + BB ^ i * y := by
  have hi : i < l.length := by
    rcases Nat.lt_or_ge i l.length with h | h
    · exact h
    · rw [List.getElem?_eq_none h] at hx; cases hx
  have h1 := val_split l i (by omega)
  have h2 := val_split (l.set i y) i (by rw [List.length_set]; omega)
  rw [val_drop hx] at h1
  rw [val_drop (x := y) (by rw [List.getElem?_set_self hi]), List.take_set, List.drop_set_of_lt (by omega)] at h2
  rw [List.set_eq_of_length_le (l := l.take i) (by rw [List.length_take]; omega)] at h2
  rw [h1, h2]
  generalize val (l.drop (i + 1)) = r
  rw [Nat.mul_add, Nat.mul_add]
  omega
end Go.Fl.Dy
namespace Go.Proofs.YtnogfceojmnjiaaGreatDoor
open Go.RowKit Go.Fl Go.Fl.Nm Go.Fl.Dy
set_option maxHeartbeats 1000000 in
theorem set_r (A : Option Addr) (n c : Nat) (l : List Nat) (w : World) (ha : Sl w A n c l) (hn : n ≤ 1000) (h2 : val l % 2 = 0) :
    Calls Tryz.prog 92 #[.slice A n c] w (SlN (max n 1) (val l + 1) w) := by
  have HA := Lib.hid ha
  have HLN := Lib.hid ha.len
  have hcm := ha.capMax
  have hcap := ha.cap
  unfold maxLen at hcm
  clear ha
  by_cases hn0 : n = 0
  · subst hn0
    have HL0 := Lib.hid (List.eq_nil_of_length_eq_zero HLN.out)
    go_enter Tryz.func92, Tryz.ntmps92
    go_wp2_with fail
    have HB1 := Lib.hid (below_a1 w (.cells #[.int .u32 1] 39))
    have HS1 := Lib.hid (Sl.one (x := 1) (Blk.new w 39 #[.int .u32 ((1 : Nat) : Int)]) (by unfold BB; omega))
    have HV1 := Lib.hid (show val [1] = val l + 1 by rw [HL0.out]; rfl)
    go_ret
    exact ⟨_, _, _, _, rfl, by omega, HS1, HV1, HB1⟩
  · have dn0 : ((n : Int) == 0) = false := by rw [beq_eq_false_iff_ne]; omega
    obtain ⟨b, off, x, hA, hb, hx, hxB, hcell⟩ := HA.out.at_ (i := 0) (by omega)
    subst hA
    have HX := Lib.hid hx
    unfold BB at hxB
    have hx2 : x % 2 = 0 := by rw [← val_mod HA.out.ok hx]; exact h2
    have hor := or_one x hxB hx2
    have hx3 : x + 1 < 4294967296 := by omega
    obtain ⟨i0, ti, tz0, tz1, tz2⟩ := info_parts Tryz.infoU32
    have HOWN := Lib.hid (show (w.alloc (.cells #[] tU)).ownsRow w.heap.size tU 1 (.slice (some ⟨w.heap.size, 0, none⟩) 0 0) 0 [] from ⟨rfl, .inr ⟨w.heap.size, 0, #[], rfl, Nat.le_refl _, Blk.new _ _ _, Nat.le_refl _, by unfold maxLen; omega, rfl, rfl⟩⟩)
    have HL0 := Lib.hid ((Below.refl w.heap.size w).alloc (Nat.le_refl _) (.cells #[] tU))
    have HRD := Lib.hid (HA.out.rd.alloc (.cells #[] tU))
    clear hx hx2 h2
    go_enter Tryz.func92, Tryz.ntmps92
    go_wp2_with (at_builtin; refine wpList_append_rd _ rfl _ _ _ rfl w.heap.size 39 i0 _ 1 4 Tryz.underlying26 ti tz0 tz1 tz2 rfl (by omega) (.slice (some ⟨w.heap.size, 0, none⟩) 0 0) 0 [] rfl (by exact HOWN.out) (some ⟨b, off, none⟩) n c (by simp) (U l) rfl (by exact HRD.out) (U_one _) (by unfold maxLen; omega) (by omega) (by simp) ?_)
    intro v' w2 hown2 hgrow
    have HO2 := Lib.hid (show w2.ownsRow w.heap.size tU 1 v' n (U l) by simpa using hown2)
    have HL2 := Lib.hid (HL0.out.trans (below_of_grown hgrow (by
      intro g hg
      have : w.heap.size = g := by simpa [Value.ownBlock] using hg
      omega) (by simp)))
    clear hown2 hgrow ti tz0 tz1 tz2
    obtain ⟨g, cap, rfl⟩ : ∃ g cap, v' = .slice (some ⟨g, 0, none⟩) n cap := by
      rcases HO2.out.2 with ⟨_, h⟩ | ⟨g, cap, _, h, _⟩
      · exact absurd h hn0
      · exact ⟨g, cap, h⟩
    have q0 : w2.cell? ⟨g, 0, none⟩ = some (.int .u32 (x : Int)) := by
      rw [HO2.out.cellAt (j := 0) (by omega)]
      exact U_at l 0 x HX.out
    have q1 : w2.frozen? ⟨g, 0, none⟩ = false := HO2.out.frozenAt 0
    have ST := HO2.out.stored 0 (.int .u32 ((x + 1 : Nat) : Int))
    have hgb : w.heap.size ≤ g := by
      have := (HO2.out.lt g (by simp [Value.ownBlock])).1
      exact this
    have HO3 := Lib.hid (show (w2.setCell ⟨g, 0, none⟩ (.int .u32 ((x + 1 : Nat) : Int))).ownsRow w.heap.size tU 1 (.slice (some ⟨g, 0, none⟩) n cap) n (U (l.set 0 (x + 1))) by rw [U_set]; exact ST.1)
    have HL3 := Lib.hid (show Below w.heap.size w (w2.setCell ⟨g, 0, none⟩ (.int .u32 ((x + 1 : Nat) : Int))) from HL2.out.trans (below_of_grown ST.2 (by
      intro k hk
      have : g = k := by simpa using hk
      omega) HL2.out.size))
    have HVV := Lib.hid (show val (l.set 0 (x + 1)) = val l + 1 by
      have := set_val (y := x + 1) HX.out
      rw [Nat.pow_zero, Nat.one_mul, Nat.one_mul] at this
      omega)
    have HOK3 := Lib.hid (ok_set HA.out.ok 0 (x + 1) (by unfold BB; omega))
    clear ST
    go_wp2_with fail
    go_ret
    obtain ⟨A', c', hu, hnw⟩ := Nw.of_own HO3.out HOK3.out
    injection hu with hu1 hu2 hu3
    subst hu1 hu3
    exact ⟨_, _, _, _, rfl, by omega, Lib.hid hnw.sl, HVV, HL3⟩
def NextRel (w : World) (g n cap : Nat) (l : List Nat) (k : Nat) (iv : Value) (wr : World) : Prop :=
  ∃ (i : Nat) (o : List Nat), iv = .int .i64 i ∧ k = n - i ∧ i ≤ n ∧ Hid (o.length = n) ∧ Hid (ok o) ∧ Hid (wr.ownsRow w.heap.size tU 1 (.slice (some ⟨g, 0, none⟩) n cap) n (U o)) ∧ Hid (val o + BB ^ i = val l + 1) ∧ Hid (Below w.heap.size w wr)
set_option maxHeartbeats 1000000 in
theorem next_r (b off n c : Nat) (l : List Nat) (w : World) (ha : Sl w (some ⟨b, off, none⟩) n c l) (hn : n ≤ 1000) (hn0 : 0 < n) :
    Calls Tryz.prog 96 #[.slice (some ⟨b, off, none⟩) n c] w (SlN (n + 1) (val l + 1) w) := by
  have HA := Lib.hid ha
  have HLN := Lib.hid ha.len
  have hcm := ha.capMax
  have hcap := ha.cap
  unfold maxLen at hcm
  clear ha
  obtain ⟨i0, ti, tz0, tz1, tz2⟩ := info_parts Tryz.infoU32
  have HOWN := Lib.hid (show (w.alloc (.cells #[] tU)).ownsRow w.heap.size tU 1 (.slice (some ⟨w.heap.size, 0, none⟩) 0 0) 0 [] from ⟨rfl, .inr ⟨w.heap.size, 0, #[], rfl, Nat.le_refl _, Blk.new _ _ _, Nat.le_refl _, by unfold maxLen; omega, rfl, rfl⟩⟩)
  have HL0 := Lib.hid ((Below.refl w.heap.size w).alloc (Nat.le_refl _) (.cells #[] tU))
  have HRD := Lib.hid (HA.out.rd.alloc (.cells #[] tU))
  go_enter Tryz.func96, Tryz.ntmps96
  go_wp2_with (at_builtin; refine wpList_append_rd _ rfl _ _ _ rfl w.heap.size 39 i0 _ 1 4 Tryz.underlying26 ti tz0 tz1 tz2 rfl (by omega) (.slice (some ⟨w.heap.size, 0, none⟩) 0 0) 0 [] rfl (by exact HOWN.out) (some ⟨b, off, none⟩) n c (by simp) (U l) rfl (by exact HRD.out) (U_one _) (by unfold maxLen; omega) (by omega) (by simp) ?_)
  intro v' w2 hown2 hgrow
  have HO2 := Lib.hid (show w2.ownsRow w.heap.size tU 1 v' n (U l) by simpa using hown2)
  have HL2 := Lib.hid (HL0.out.trans (below_of_grown hgrow (by
    intro g hg
    have : w.heap.size = g := by simpa [Value.ownBlock] using hg
    omega) (by simp)))
  clear hown2 hgrow ti tz0 tz1 tz2
  obtain ⟨g, cap, rfl⟩ : ∃ g cap, v' = .slice (some ⟨g, 0, none⟩) n cap := by
    rcases HO2.out.2 with ⟨_, h⟩ | ⟨g, cap, _, h, _⟩
    · omega
    · exact ⟨g, cap, h⟩
  have hgb : w.heap.size ≤ g := (HO2.out.lt g (by simp [Value.ownBlock])).1
  have HOKL := Lib.hid HA.out.ok
  go_wp2_with fail
  go_loopg [4] n (NextRel w g n cap l)
  case atStart => exact ⟨0, l, rfl, rfl, by omega, HLN, HOKL, HO2, Lib.hid (by rw [Nat.pow_zero]), HL2⟩
  case round =>
    obtain ⟨i, o, rfl, rfl, hi, HLEN, HOK, HOW, HV, HBL⟩ := hrel
    by_cases hst : i < n
    · have hd : decide ((i : Int) < n) = true := decide_eq_true (by omega)
      obtain ⟨x, hx⟩ : ∃ x, o[i]? = some x := ⟨_, List.getElem?_eq_getElem (by rw [HLEN.out]; exact hst)⟩
      have hxB : x < 4294967296 := ok_at HOK.out hx
      have HX := Lib.hid hx
      clear hx
      have q0 : wr.cell? ⟨g, i, none⟩ = some (.int .u32 (x : Int)) := by
        rw [HOW.out.cellAt (j := i) (by omega)]
        exact U_at o i x HX.out
      have q1 : wr.frozen? ⟨g, i, none⟩ = false := HOW.out.frozenAt i
      by_cases hx1 : x = 4294967295
      · have ST := HOW.out.stored i (.int .u32 (0))
        have HO3 := Lib.hid (show (wr.setCell ⟨g, i, none⟩ (.int .u32 (0))).ownsRow w.heap.size tU 1 (.slice (some ⟨g, 0, none⟩) n cap) n (U (o.set i (0))) by rw [U_set]; exact ST.1)
        have HL3 := Lib.hid (show Below w.heap.size w (wr.setCell ⟨g, i, none⟩ (.int .u32 (0))) from HBL.out.trans (below_of_grown ST.2 (by
          intro k hk
          have : g = k := by simpa using hk
          omega) HBL.out.size))
        have q2 : (wr.setCell ⟨g, i, none⟩ (.int .u32 (0))).cell? ⟨g, i, none⟩ = some (.int .u32 (0)) := by
          rw [HO3.out.cellAt (j := i) (by omega)]
          exact U_at _ i (0) (by rw [List.getElem?_set_self (by rw [HLEN.out]; exact hst)])
        have HOK3 := Lib.hid (ok_set HOK.out i (0) (by unfold BB; omega))
        have HSV := Lib.hid (set_val (y := 0) HX.out)
        have HLEN3 := Lib.hid (show (o.set i (0)).length = n by rw [List.length_set]; exact HLEN.out)
        clear ST
        have HV3 := Lib.hid (show val (o.set i 0) + BB ^ (i + 1) = val l + 1 by
          have h1 := HSV.out
          have h2 := HV.out
          have hxe : BB = x + 1 := by unfold BB; omega
          rw [Nat.mul_zero, Nat.add_zero] at h1
          have h3 : BB ^ (i + 1) = BB ^ i * x + BB ^ i := by rw [Nat.pow_succ]; conv => lhs; arg 2; rw [hxe]
                                                             rw [Nat.mul_add, Nat.mul_one]
          omega)
        subst hx1
        go_wp2_with fail
        go_roundg (n - (i + 1))
        case measure => omega
        case rel => exact ⟨i + 1, o.set i 0, by go_num, rfl, by omega, HLEN3, HOK3, HO3, HV3, HL3⟩
      · have hx2 : x + 1 < 4294967296 := by omega
        have hd0 : ((x : Int) + 1 != 0) = true := by rw [bne_iff_ne]; omega
        have ST := HOW.out.stored i (.int .u32 ((x : Int) + 1))
        have HO3 := Lib.hid (show (wr.setCell ⟨g, i, none⟩ (.int .u32 ((x : Int) + 1))).ownsRow w.heap.size tU 1 (.slice (some ⟨g, 0, none⟩) n cap) n (U (o.set i (x + 1))) by rw [U_set]; exact ST.1)
        have HL3 := Lib.hid (show Below w.heap.size w (wr.setCell ⟨g, i, none⟩ (.int .u32 ((x : Int) + 1))) from HBL.out.trans (below_of_grown ST.2 (by
          intro k hk
          have : g = k := by simpa using hk
          omega) HBL.out.size))
        have q2 : (wr.setCell ⟨g, i, none⟩ (.int .u32 ((x : Int) + 1))).cell? ⟨g, i, none⟩ = some (.int .u32 ((x : Int) + 1)) := by
          rw [HO3.out.cellAt (j := i) (by omega)]
          exact U_at _ i (x + 1) (by rw [List.getElem?_set_self (by rw [HLEN.out]; exact hst)])
        have HOK3 := Lib.hid (ok_set HOK.out i (x + 1) (by unfold BB; omega))
        have HSV := Lib.hid (set_val (y := x + 1) HX.out)
        have HLEN3 := Lib.hid (show (o.set i (x + 1)).length = n by rw [List.length_set]; exact HLEN.out)
        clear ST
        have HV3 := Lib.hid (show val (o.set i (x + 1)) = val l + 1 by
          have h1 := HSV.out
          have h2 := HV.out
          rw [Nat.mul_add, Nat.mul_one] at h1
          omega)
        clear hx1
        go_wp2_with fail
        go_ret
        obtain ⟨A', c', hu, hnw⟩ := Nw.of_own HO3.out HOK3.out
        injection hu with hu1 hu2 hu3
        subst hu1 hu3
        exact ⟨_, _, _, _, rfl, by omega, Lib.hid hnw.sl, HV3, HL3⟩
    · have hd : decide ((i : Int) < n) = false := decide_eq_false (by omega)
      obtain rfl : i = n := by omega
      obtain ⟨i0, ti, tz0, tz1, tz2⟩ := info_parts Tryz.infoU32
      have hbs := HBL.out.size
      have HVV := Lib.hid (show val (o ++ [1]) = val l + 1 by rw [val_snoc, HLEN.out, Nat.mul_one]; exact HV.out)
      have HOK2 := Lib.hid (show ok (o ++ [1]) from ok_append.2 ⟨HOK.out, ok_cons.2 ⟨by unfold BB; omega, ok_nil⟩⟩)
      clear hst
      go_wp2_with (at_builtin; refine wpList_append_lies _ rfl _ _ _ rfl w.heap.size 39 i0 _ 1 4 Tryz.underlying26 ti tz0 tz1 tz2 rfl (by omega) (.slice (some ⟨g, 0, none⟩) i cap) i (U o) rfl (by exact HOW.out.alloc _) ⟨wr.heap.size, 0, none⟩ 1 1 [.int .u32 1] rfl rfl (by exact World.news_of_block (cs := #[.int .u32 1]) (t := 39) (fr := (0, 0)) (heap_alloc_new wr _)) (by simp [Value.oneCell']) (by omega) (by unfold maxLen; omega) (by omega) (by simp; omega) (wr.heap.size + 1) (by simp) ?_)
      intro g' cap' w3 hown hgrow hat hlt2
      have HO3 := Lib.hid (show w3.ownsRow w.heap.size tU 1 (.slice (some ⟨g', 0, none⟩) (i + 1) cap') (i + 1) (U (o ++ [1])) by rw [U_append]; exact hown)
      have HL3 := Lib.hid (show Below w.heap.size w w3 from (HBL.out.alloc (by omega) _).grown hgrow (by simp; omega) (fun k hk => (HOW.out.lt k hk).1))
      clear hown hgrow hat hlt2 ti tz0 tz1 tz2
      go_wp2_with fail
      go_ret
      obtain ⟨A', c', hu, hnw⟩ := Nw.of_own HO3.out HOK2.out
      injection hu with hu1 hu2 hu3
      subst hu1 hu3
      exact ⟨_, _, _, _, rfl, by omega, Lib.hid hnw.sl, HVV, HL3⟩
end Go.Proofs.YtnogfceojmnjiaaGreatDoor
