/-
  The walks of the reference's shifted and set.
-/
import Derived.Test.YtnogfceojmnjiaaGreatDoorRaWW
import Derived.Test.YtnogfceojmnjiaaGreatDoorRow2
import Derived.Laws.AppendOwnNone
set_option linter.unusedVariables false
namespace Go.Fl.Dy
open Go.Fl.Nm
theorem or_bit (x cc : Nat) (hx : x < 4294967296) (hc : cc ≤ 1) : Go.bits .or .u32 (((2 * x) % 4294967296 : Nat) : Int) (cc : Int) = (((2 * x) % 4294967296 + cc : Nat) : Int) := by
  have := bits_join .u32 32 (by decide) (fun n h0 h1 => by rw [IntKind.wrap_u32]; omega) 1 (((2 * x) % 4294967296 : Nat) : Int) (cc : Int) (by omega) (by omega) (by omega) (by omega) (by omega) (by omega)
  rw [this]; omega
theorem dbl_step {o a : List Nat} {i cc x : Nat} (hl : o.length = i) (hok : ok o) (hx : a[i]? = some x) (hxB : x < BB) (hc : cc ≤ 1) (hv : val o + BB ^ i * cc = 2 * val (a.take i)) :
    (o ++ [(2 * x) % BB + cc]).length = i + 1 ∧ ok (o ++ [(2 * x) % BB + cc]) ∧ val (o ++ [(2 * x) % BB + cc]) + BB ^ (i + 1) * (2 * x / BB) = 2 * val (a.take (i + 1)) := by
  have hlt : (2 * x) % BB + cc < BB := by unfold BB at *; omega
  refine ⟨by simp [hl], ok_append.2 ⟨hok, ok_cons.2 ⟨hlt, ok_nil⟩⟩, ?_⟩
  rw [val_snoc, hl, val_take_succ hx, Nat.pow_succ, Nat.mul_assoc, Nat.mul_add, Nat.mul_add]
  have h3 : BB ^ i * (BB * (2 * x / BB)) + BB ^ i * (2 * x % BB) = BB ^ i * (2 * x) := by rw [← Nat.mul_add, Nat.div_add_mod]
  have h4 : 2 * (BB ^ i * x) = BB ^ i * (2 * x) := by rw [Nat.mul_left_comm]
  omega
end Go.Fl.Dy
namespace Go.Proofs.YtnogfceojmnjiaaGreatDoor
open Go.RowKit Go.Fl Go.Fl.Nm Go.Fl.Dy
def DblRel (w : World) (n : Nat) (a : List Nat) (k : Nat) (ov cv iv : Value) (wr : World) : Prop :=
  ∃ (i cc : Nat) (o : List Nat), iv = .int .i64 i ∧ cv = .int .u32 cc ∧ cc ≤ 1 ∧ k = n - i ∧ i ≤ n ∧ Hid (o.length = i) ∧ Hid (ok o) ∧ Hid (wr.ownsRow w.heap.size tU 1 ov i (U o)) ∧
    Hid (val o + BB ^ i * cc = 2 * val (a.take i)) ∧ Hid (Below w.heap.size w wr)
/-- Limbs of a value, at most N of them. -/
def SlN (N v : Nat) (w : World) (e : Ending) (w' : World) : Prop :=
  ∃ (A : Option Addr) (n c : Nat) (l : List Nat), e = .returned (.slice A n c) ∧ n ≤ N ∧ Hid (Sl w' A n c l) ∧ Hid (val l = v) ∧ Hid (Below w.heap.size w w')
set_option maxHeartbeats 1000000 in
theorem shifted_r (A : Option Addr) (n c : Nat) (a : List Nat) (w : World) (ha : Sl w A n c a) (hn : n ≤ 1000) :
    Calls Tryz.prog 91 #[.slice A n c, .int .u64 0] w (SlN (n + 1) (2 * val a) w) := by
  have HA := Lib.hid ha
  have HLN := Lib.hid ha.len
  clear ha
  go_enter Tryz.func91, Tryz.ntmps91
  go_wp2_with fail
  go_loopg [5, 6, 7] n (DblRel w n a)
  case atStart => exact ⟨0, 0, [], rfl, rfl, by omega, by omega, by omega, Lib.hid rfl, Lib.hid ok_nil, Lib.hid ⟨rfl, .inl ⟨rfl, rfl⟩⟩, Lib.hid (by simp [val_nil]), Lib.hid (Below.refl _ _)⟩
  case round =>
    obtain ⟨i, cc, o, rfl, rfl, hcc, rfl, hi, HLEN, HOK, HOW, HV, HBL⟩ := hrel
    by_cases hst : i < n
    · have hd : decide ((i : Int) < n) = true := decide_eq_true (by omega)
      obtain ⟨b, off, x, hA, hb, hx, hxB, hcell0⟩ := HA.out.at_ (i := i) hst
      subst hA
      have HS := Lib.hid (dbl_step HLEN.out HOK.out hx hxB hcc HV.out)
      unfold BB at hxB
      have hcell : wr.cell? ⟨b, off + i, none⟩ = some (.int .u32 x) := HBL.out.cell (p := ⟨b, off + i, none⟩) hb ▸ hcell0
      obtain ⟨y, hy⟩ : ∃ y, (2 * x) % 4294967296 = y := ⟨_, rfl⟩
      have hor := or_bit x cc hxB hcc
      rw [hy] at hor
      have hyi : (2 * (x : Int)) % 4294967296 = (y : Int) := by omega
      have hyi2 : ((x : Int) * 2) % 4294967296 = (y : Int) := by omega
      have hyb : y + cc < 4294967296 := by omega
      have HS2 := Lib.hid (show (o ++ [y + cc]).length = i + 1 ∧ ok (o ++ [y + cc]) ∧ val (o ++ [y + cc]) + BB ^ (i + 1) * (x / 2147483648) = 2 * val (a.take (i + 1)) by
        have h1 := HS.out
        rw [show (2 * x) % BB = y from hy, show 2 * x / BB = x / 2147483648 by unfold BB; omega] at h1
        exact h1)
      have hc1 : x / 2147483648 ≤ 1 := by omega
      obtain ⟨i0, ti, tz0, tz1, tz2⟩ := info_parts Tryz.infoU32
      have hbs := HBL.out.size
      clear hx hy HS
      obtain ⟨M, hM⟩ : ∃ M, y + cc = M := ⟨_, rfl⟩
      rw [hM] at hor HS2 hyb
      clear hM
      go_wp2_with (at_builtin; refine wpList_append_lies _ rfl _ _ _ rfl w.heap.size 39 i0 _ 1 4 Tryz.underlying26 ti tz0 tz1 tz2 rfl (by omega) u5 i (U o) rfl (by exact HOW.out.alloc _) ⟨wr.heap.size, 0, none⟩ 1 1 [.int .u32 (M : Int)] rfl rfl (by exact World.news_of_block (cs := #[.int .u32 (M : Int)]) (t := 39) (fr := (0, 0)) (heap_alloc_new wr _)) (by simp [Value.oneCell']) (by omega) (by unfold maxLen; omega) (by omega) (by simp; omega) (wr.heap.size + 1) (by simp) ?_)
      intro g cap w3 hown hgrow hat hlt2
      have HO3 := Lib.hid (show w3.ownsRow w.heap.size tU 1 (.slice (some ⟨g, 0, none⟩) (i + 1) cap) (i + 1) (U (o ++ [M])) by rw [U_append]; exact hown)
      have HL3 := Lib.hid (show Below w.heap.size w w3 from (HBL.out.alloc (by omega) _).grown hgrow (by simp; omega) (fun k hk => (HOW.out.lt k hk).1))
      have hcell3 : w3.cell? ⟨b, off + i, none⟩ = some (.int .u32 x) := HL3.out.cell (p := ⟨b, off + i, none⟩) hb ▸ hcell0
      clear hown hgrow hat hlt2 ti tz0 tz1 tz2
      go_wp2_with fail
      go_roundg (n - (i + 1))
      case measure => omega
      case rel => exact ⟨i + 1, x / 2147483648, o ++ [M], by go_num, by simp, hc1, rfl, by omega, Lib.hid HS2.out.1, Lib.hid HS2.out.2.1, HO3, Lib.hid HS2.out.2.2, HL3⟩
    · have hd : decide ((i : Int) < n) = false := decide_eq_false (by omega)
      obtain rfl : i = n := by omega
      have HV2 := Lib.hid (show val o + BB ^ i * cc = 2 * val a by
        have h1 := HV.out
        rwa [List.take_of_length_le (by rw [HLN.out]; omega)] at h1)
      by_cases hc0 : cc = 0
      · subst hc0
        obtain ⟨A', c', hu, hnw⟩ := Nw.of_own HOW.out HOK.out
        subst hu
        have HN := Lib.hid hnw.sl
        have HVV := Lib.hid (show val o = 2 * val a by have := HV2.out; rw [Nat.mul_zero, Nat.add_zero] at this; exact this)
        clear hnw hst
        go_wp2_with fail
        go_ret
        exact ⟨_, _, _, _, rfl, by omega, HN, HVV, HBL⟩
      · obtain rfl : cc = 1 := by omega
        obtain ⟨i0, ti, tz0, tz1, tz2⟩ := info_parts Tryz.infoU32
        have hbs := HBL.out.size
        have HVV := Lib.hid (show val (o ++ [1]) = 2 * val a by rw [val_snoc, HLEN.out]; exact HV2.out)
        have HOK2 := Lib.hid (show ok (o ++ [1]) from ok_append.2 ⟨HOK.out, ok_cons.2 ⟨by unfold BB; omega, ok_nil⟩⟩)
        clear hst hc0
        go_wp2_with (at_builtin; refine wpList_append_lies _ rfl _ _ _ rfl w.heap.size 39 i0 _ 1 4 Tryz.underlying26 ti tz0 tz1 tz2 rfl (by omega) u5 i (U o) rfl (by exact HOW.out.alloc _) ⟨wr.heap.size, 0, none⟩ 1 1 [.int .u32 ((1 : Nat) : Int)] rfl rfl (by exact World.news_of_block (cs := #[.int .u32 ((1 : Nat) : Int)]) (t := 39) (fr := (0, 0)) (heap_alloc_new wr _)) (by simp [Value.oneCell']) (by omega) (by unfold maxLen; omega) (by omega) (by simp; omega) (wr.heap.size + 1) (by simp) ?_)
        intro g cap w3 hown hgrow hat hlt2
        have HO3 := Lib.hid (show w3.ownsRow w.heap.size tU 1 (.slice (some ⟨g, 0, none⟩) (i + 1) cap) (i + 1) (U (o ++ [1])) by rw [U_append]; exact hown)
        have HL3 := Lib.hid (show Below w.heap.size w w3 from (HBL.out.alloc (by omega) _).grown hgrow (by simp; omega) (fun k hk => (HOW.out.lt k hk).1))
        clear hown hgrow hat hlt2 ti tz0 tz1 tz2
        obtain ⟨A', c', hu, hnw⟩ := Nw.of_own HO3.out HOK2.out
        injection hu with hu1 hu2 hu3
        subst hu1 hu3
        have HN := Lib.hid hnw.sl
        clear hnw
        go_wp2_with fail
        go_ret
        exact ⟨_, _, _, _, rfl, by omega, HN, HVV, HL3⟩
end Go.Proofs.YtnogfceojmnjiaaGreatDoor
