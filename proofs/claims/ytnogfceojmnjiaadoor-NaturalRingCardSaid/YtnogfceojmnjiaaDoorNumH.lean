/-
  The walks of short, shr, shl.
-/
import Derived.Test.YtnogfceojmnjiaaDoorNumG
set_option linter.unusedVariables false
namespace Go.Proofs.YtnogfceojmnjiaaDoor
open Go.RowKit Go.Fl Go.Fl.Nm

def ShortPost (n d v : Nat) (w : World) (e : Ending) (w' : World) : Prop :=
  ∃ (A : Option Addr) (c : Nat) (l : List Nat), e = .returned (.tuple #[.slice A n c, .int .u32 (v % d : Nat)]) ∧ Hid (Nw w' tU w.heap.size A n c l) ∧ Hid (val l = v / d) ∧ Hid (Below w.heap.size w w')
def ShortRel (w : World) (g n d : Nat) (a : List Nat) (k : Nat) (rv iv : Value) (wr : World) : Prop :=
  ∃ (r : Nat) (l : List Nat), iv = .int .i64 ((k : Int) - 1) ∧ rv = .int .u32 r ∧ r < d ∧ k ≤ n ∧ Hid (l.length = n) ∧ Hid (ok l) ∧ Hid (Blk wr g tU (UA l)) ∧
    Hid (val (l.drop k) * d + r = val (a.drop k)) ∧ Hid (Below w.heap.size w wr)

theorem set_drop_succ {α : Type} (l : List α) (j : Nat) (x : α) : (l.set j x).drop (j + 1) = l.drop (j + 1) := by
  rw [List.drop_set_of_lt (by omega)]
theorem short_step {l a : List Nat} {j n d r x : Nat} (hl : l.length = n) (hok : ok l) (hj : j < n) (hr : r < d) (hv : val (l.drop (j + 1)) * d + r = val (a.drop (j + 1))) (hx : a[j]? = some x) (hxB : x < BB) :
    (l.set j ((r * BB + x) / d)).length = n ∧ ok (l.set j ((r * BB + x) / d)) ∧ val ((l.set j ((r * BB + x) / d)).drop j) * d + (r * BB + x) % d = val (a.drop j) ∧ (r * BB + x) / d < BB := by
  have hq : (r * BB + x) / d < BB := by
    rw [Nat.div_lt_iff_lt_mul (by omega)]
    have : (r + 1) * BB ≤ d * BB := Nat.mul_le_mul_right _ hr
    rw [Nat.mul_comm d] at this
    rw [Nat.add_mul] at this
    omega
  refine ⟨by simp [hl], ok_set hok _ _ hq, ?_, hq⟩
  have h1 : (l.set j ((r * BB + x) / d))[j]? = some ((r * BB + x) / d) := by rw [List.getElem?_set_self (by omega)]
  rw [val_drop h1, val_drop hx, set_drop_succ, ← hv, Nat.add_mul, Nat.mul_assoc, Nat.mul_add]
  have e := Nat.div_add_mod (r * BB + x) d
  rw [Nat.mul_comm d] at e
  rw [Nat.mul_comm BB r]
  omega

def DivPost (h l y : Nat) (w : World) (e : Ending) (w' : World) : Prop := ∃ q r : Nat, e = .returned (.tuple #[.int .u32 q, .int .u32 r]) ∧ Hid ((h * BB + l) / y = q) ∧ Hid ((h * BB + l) % y = r) ∧ r < y ∧ Hid (∃ n, w' = w.drewN n)
theorem div32_nat (h l y : Nat) (w : World) (hh : h < y) (hl : l < 4294967296) (hy : y < 4294967296) :
    Calls Tryd.prog 41 #[.int .u32 h, .int .u32 l, .int .u32 y] w (DivPost h l y w) := by
  refine (div32_any h l y w hh hl hy).mono ?_
  rintro e w1 ⟨rfl, hw⟩
  exact ⟨_, _, rfl, Lib.hid rfl, Lib.hid rfl, Nat.mod_lt _ (by omega), Lib.hid hw⟩

set_option maxHeartbeats 800000 in
set_option maxRecDepth 100000 in
theorem short_any (A : Option Addr) (n c d : Nat) (a : List Nat) (w : World) (ha : Sl w A n c a) (hn : n ≤ 100000) (hd0 : 0 < d) (hd : d < 4294967296) :
    Calls Tryd.prog 27 #[.slice A n c, .int .u32 d] w (ShortPost n d (val a) w) := by
  have HA := Lib.hid ha
  clear ha
  have hmk := make_u32 n n (n : Int) (n : Int) (by omega) (by omega) (by omega) (by omega)
  have HB0 := Lib.hid (Blk.new w tU (UA (zeros n)))
  have HL0 := Lib.hid ((Below.refl w.heap.size w).alloc (Nat.le_refl _) (.cells (UA (zeros n)) tU))
  go_enter Tryd.func27, Tryd.ntmps27
  go_wp2_with fail
  clear hmk
  go_loopg [7, 8] n (ShortRel w w.heap.size n d a)
  case atStart => exact ⟨0, zeros n, rfl, rfl, hd0, by omega, Lib.hid (zeros_len _), Lib.hid (ok_zeros _), HB0, Lib.hid (by rw [List.drop_eq_nil_of_le (by rw [zeros_len]; omega), List.drop_eq_nil_of_le (by rw [HA.out.len]; omega)]; simp [val_nil]), HL0⟩
  case round =>
    obtain ⟨r, l, rfl, rfl, hr, hk, HLEN, HOK, HBK, HV, HBL⟩ := hrel
    cases gk with
    | zero =>
      rw [show ((0 : Nat) : Int) - 1 = -1 by omega]
      have h1 := HV.out
      rw [List.drop_zero, List.drop_zero] at h1
      have HQ := Lib.hid (show val a / d = val l by rw [← h1, Nat.mul_comm, Nat.mul_add_div hd0, Nat.div_eq_of_lt hr]; omega)
      have HR := Lib.hid (show val a % d = r by rw [← h1, Nat.mul_comm, Nat.mul_add_mod, Nat.mod_eq_of_lt hr])
      clear h1
      go_wp2_with fail
      refine bodyPost_ret (v := .tuple #[.slice (some ⟨w.heap.size, 0, none⟩) n n, .int .u32 r]) (by simp [results, Tryd.results27, go_sem]) rfl ?_
      exact ⟨_, _, l, by rw [HR.out], Lib.hid (Nw.of_blk HBK.out HOK.out (Nat.le_refl _) HLEN.out (by unfold maxLen; omega)), Lib.hid HQ.out.symm, HBL⟩
    | succ j =>
      rw [show ((j + 1 : Nat) : Int) - 1 = j by omega]
      obtain ⟨b1, o1, x, hA, hb1, hx, hxB, hcell1⟩ := HA.out.at_ (i := j) (by omega)
      subst hA
      have hc1 : wr.cell? ⟨b1, o1 + j, none⟩ = some (.int .u32 x) := (HBL.out.cell (p := ⟨b1, _, none⟩) hb1).trans hcell1
      have HS := Lib.hid (short_step HLEN.out HOK.out (by omega) hr HV.out hx hxB)
      clear hcell1 hx
      unfold BB at hxB
      obtain ⟨o, ho⟩ : ∃ o, l[j]? = some o := ⟨_, List.getElem?_eq_getElem (by rw [HLEN.out]; omega)⟩
      have HO := Lib.hid ho
      clear ho
      go_wp2_with fail
      refine (div32_nat r x d _ hr hxB hd).mono ?_
      rintro e w1 ⟨qq, rr, rfl, HQ, HR, hrd, HW⟩
      have HB1 := Lib.hid (show Blk w1 w.heap.size tU (UA l) by obtain ⟨q, hq⟩ := HW.out; rw [hq]; exact HBK.out.drewN q)
      have HL1 := Lib.hid (show Below w.heap.size w w1 by obtain ⟨q, hq⟩ := HW.out; rw [hq]; exact below_drewN HBL.out q)
      rw [HQ.out, HR.out] at HS
      have hqB := HS.out.2.2.2
      unfold BB at hqB
      clear HW
      have hg1 : w1.cell? ⟨w.heap.size, j, none⟩ = some (.int .u32 o) := blkU_cell HB1.out HO.out
      have hg2 : w1.frozen? ⟨w.heap.size, j, none⟩ = false := HB1.out.frozen j
      go_wp2_with fail
      go_roundg j
      case measure => omega
      case rel => exact ⟨rr, l.set j qq, rfl, rfl, hrd, by omega, Lib.hid HS.out.1, Lib.hid HS.out.2.1, Lib.hid (blkU_set HB1.out j qq), Lib.hid HS.out.2.2.1, Lib.hid (HL1.out.setCell (Nat.le_refl _) _)⟩

end Go.Proofs.YtnogfceojmnjiaaDoor
