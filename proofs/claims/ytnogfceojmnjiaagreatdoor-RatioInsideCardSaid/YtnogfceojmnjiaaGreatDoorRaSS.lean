/-
  The walks of dyadic.compare and dyadic.Cmp.
  The walks of limbs, ratio.magnitude and ratio.Compare.
-/
import Derived.Test.YtnogfceojmnjiaaGreatDoorDyD
import Derived.Test.YtnogfceojmnjiaaGreatDoorNumEq
import Derived.Test.YtnogfceojmnjiaaGreatDoorRaG
import Derived.StillTailTactics
set_option linter.unusedVariables false
namespace Go.Fl
open Go.RowKit
theorem below_dr (w : World) : Below w.heap.size w w.drew := below_drewN (Below.refl _ _) 1
end Go.Fl
namespace Go.Fl.Dy
open Go.Fl.Nm
theorem cmpM_range (a b : D) : -1 ≤ cmpM a b ∧ cmpM a b ≤ 1 := cmpN_range _ _
theorem cmpM_eqTop {a b : D} {x y : Int} (hx : (blen a.k : Int) + a.e = x) (hy : (blen b.k : Int) + b.e = y) (h : x = y) (va : blen a.k ≤ 4096) (vb : blen b.k ≤ 4096) : a.e - min a.e b.e ≤ 4096 ∧ b.e - min a.e b.e ≤ 4096 := by omega
theorem sg_range (a : D) : -1 ≤ sg a ∧ sg a ≤ 1 := by unfold sg; split <;> (try split) <;> omega
theorem sg_ne {a : D} (h : sg a ≠ 0) : a.k ≠ 0 := fun e => h (by unfold sg; rw [if_pos e])
theorem mul_small {x z : Int} (hx : -1 ≤ x ∧ x ≤ 1) (hz : -1 ≤ z ∧ z ≤ 1) : -1 ≤ x * z ∧ x * z ≤ 1 := by
  have h1 : x = -1 ∨ x = 0 ∨ x = 1 := by omega
  rcases h1 with rfl | rfl | rfl <;> omega
theorem blen_shl_le (m k : Nat) : blen (2 ^ k * m) ≤ k + blen m := by
  by_cases h : m = 0
  · subst h; simp [blen_zero]
  · rw [blen_shl k h]; omega
end Go.Fl.Dy
namespace Go.Proofs.YtnogfceojmnjiaaGreatDoor
open Go.RowKit Go.Fl Go.Fl.Nm Go.Fl.Dy

set_option maxHeartbeats 1000000 in
theorem dcompare_any (a b : D) (A B : Option Addr) (n c m d : Nat) (w : World) (ha : Sl w A n c (limbs a.k)) (hb : Sl w B m d (limbs b.k)) (va : vld a) (vb : vld b) (za : a.k ≠ 0) (zb : b.k ≠ 0) :
    Calls Tryz.prog 88 #[.agg #[.bool a.neg, .slice A n c, .int .i64 a.e], .agg #[.bool b.neg, .slice B m d, .int .i64 b.e]] w (Ret (.int .i64 (cmpM a b)) w) := by
  have HA := Lib.hid ha
  have HB := Lib.hid hb
  have VA := Lib.hid va
  have VB := Lib.hid vb
  have ZA := Lib.hid za
  have ZB := Lib.hid zb
  have hba := vld_bits va
  have hbb := vld_bits vb
  have hea := vld_ebd va
  have heb := vld_ebd vb
  have LA := Lib.hid (show n ≤ 256 by rw [← ha.len]; exact vld_len va)
  have LB := Lib.hid (show m ≤ 256 by rw [← hb.len]; exact vld_len vb)
  obtain ⟨x, hx⟩ : ∃ x, (blen a.k : Int) + a.e = x := ⟨_, rfl⟩
  obtain ⟨y, hy⟩ : ∃ y, (blen b.k : Int) + b.e = y := ⟨_, rfl⟩
  have HX := Lib.hid hx
  have HY := Lib.hid hy
  have KLT := Lib.hid (show x < y → cmpM a b = -1 from fun h => cmpM_lt va vb za zb (by omega))
  have KGT := Lib.hid (show y < x → cmpM a b = 1 from fun h => cmpM_gt va vb za zb (by omega))
  have x1 : -20000 ≤ x ∧ x ≤ 30000 := by omega
  have y1 : -20000 ≤ y ∧ y ≤ 30000 := by omega
  obtain ⟨e0, he0⟩ : ∃ e0, min a.e b.e = e0 := ⟨_, rfl⟩
  have he1 : e0 ≤ a.e ∧ e0 ≤ b.e := by omega
  have HT := Lib.hid (show x = y → a.e - e0 ≤ 4096 ∧ b.e - e0 ≤ 4096 from fun h => by omega)
  have HE0 := Lib.hid he0
  clear ha hb va vb za zb hx hy he0 hba hbb
  go_enter Tryz.func88, Tryz.ntmps88
  go_wp2_with fail
  obtain ⟨w1, hw⟩ : ∃ z9 : World, z9 = ((w.alloc (.cells #[.bool a.neg, .slice A n c, .int .i64 a.e] 28)).alloc (.cells #[.bool b.neg, .slice B m d, .int .i64 b.e] 28)) := ⟨_, rfl⟩
  have HB1 := Lib.hid (show Below w.heap.size w w1 by rw [hw]; exact below_a2 _ _ _)
  have F1a := Lib.hid (HA.out.belowW HB1.out)
  have F1b := Lib.hid (HB.out.belowW HB1.out)
  have F1ka := Lib.hid (show Blk w1 (w.heap.size) 28 #[.bool a.neg, .slice A n c, .int .i64 a.e] by rw [hw]; exact (Blk.new _ _ _).alloc _)
  have F1kb := Lib.hid (show Blk w1 (w.heap.size + 1) 28 #[.bool b.neg, .slice B m d, .int .i64 b.e] by rw [hw]; exact Blk.new1 _ _ _ _)
  rw [← hw]
  clear hw
  have pka0 : (w1).cell? ⟨w.heap.size, 0, none⟩ = some (.bool a.neg) := F1ka.out.cell 0
  have fka0 : (w1).frozen? ⟨w.heap.size, 0, none⟩ = false := F1ka.out.frozen 0
  have pka1 : (w1).cell? ⟨w.heap.size, 1, none⟩ = some (.slice A n c) := F1ka.out.cell 1
  have fka1 : (w1).frozen? ⟨w.heap.size, 1, none⟩ = false := F1ka.out.frozen 1
  have pka2 : (w1).cell? ⟨w.heap.size, 2, none⟩ = some (.int .i64 a.e) := F1ka.out.cell 2
  have fka2 : (w1).frozen? ⟨w.heap.size, 2, none⟩ = false := F1ka.out.frozen 2
  have pkb0 : (w1).cell? ⟨w.heap.size + 1, 0, none⟩ = some (.bool b.neg) := F1kb.out.cell 0
  have fkb0 : (w1).frozen? ⟨w.heap.size + 1, 0, none⟩ = false := F1kb.out.frozen 0
  have pkb1 : (w1).cell? ⟨w.heap.size + 1, 1, none⟩ = some (.slice B m d) := F1kb.out.cell 1
  have fkb1 : (w1).frozen? ⟨w.heap.size + 1, 1, none⟩ = false := F1kb.out.frozen 1
  have pkb2 : (w1).cell? ⟨w.heap.size + 1, 2, none⟩ = some (.int .i64 b.e) := F1kb.out.cell 2
  have fkb2 : (w1).frozen? ⟨w.heap.size + 1, 2, none⟩ = false := F1kb.out.frozen 2
  go_wp2_with fail
  have HR2 := Lib.hid (below_dr w1)
  have R2a := Lib.hid (F1a.out.belowW HR2.out)
  have R2b := Lib.hid (F1b.out.belowW HR2.out)
  have R2ka := Lib.hid (F1ka.out.belowW HR2.out)
  have R2kb := Lib.hid (F1kb.out.belowW HR2.out)
  have c2ka0 : w1.drew.cell? ⟨w.heap.size, 0, none⟩ = some (.bool a.neg) := R2ka.out.cell 0
  have c2ka1 : w1.drew.cell? ⟨w.heap.size, 1, none⟩ = some (.slice A n c) := R2ka.out.cell 1
  have c2ka2 : w1.drew.cell? ⟨w.heap.size, 2, none⟩ = some (.int .i64 a.e) := R2ka.out.cell 2
  have c2kb0 : w1.drew.cell? ⟨w.heap.size + 1, 0, none⟩ = some (.bool b.neg) := R2kb.out.cell 0
  have c2kb1 : w1.drew.cell? ⟨w.heap.size + 1, 1, none⟩ = some (.slice B m d) := R2kb.out.cell 1
  have c2kb2 : w1.drew.cell? ⟨w.heap.size + 1, 2, none⟩ = some (.int .i64 b.e) := R2kb.out.cell 2
  go_region_held3 (fun w' => w'.cell? ⟨w.heap.size, 0, none⟩ = some (.bool a.neg) ∧ w'.cell? ⟨w.heap.size, 1, none⟩ = some (.slice A n c) ∧ w'.cell? ⟨w.heap.size, 2, none⟩ = some (.int .i64 a.e) ∧ w'.cell? ⟨w.heap.size + 1, 0, none⟩ = some (.bool b.neg) ∧ w'.cell? ⟨w.heap.size + 1, 1, none⟩ = some (.slice B m d) ∧ w'.cell? ⟨w.heap.size + 1, 2, none⟩ = some (.int .i64 b.e)) ((with_reducible refine ⟨?_, ?_, ?_, ?_, ?_, ?_⟩) <;> (with_reducible assumption)) (first
    | (go_at_call_of 80 (Value.agg #[.bool a.neg, .slice A n c, .int .i64 a.e])
       (with_reducible refine (top_any a A n c _ R2a.out VA.out ZA.out).mono ?_)
       rw [HX.out]
       rintro e w3 ⟨rfl, HC3⟩
       have R3a := Lib.hid (R2a.out.belowW HC3.out)
       have R3b := Lib.hid (R2b.out.belowW HC3.out)
       have R3ka := Lib.hid (R2ka.out.belowW HC3.out)
       have R3kb := Lib.hid (R2kb.out.belowW HC3.out)
       have HR3 := Lib.hid (HR2.out.trans (HC3.out.mono HR2.out.size))
       have c3ka0 : w3.cell? ⟨w.heap.size, 0, none⟩ = some (.bool a.neg) := R3ka.out.cell 0
       have c3ka1 : w3.cell? ⟨w.heap.size, 1, none⟩ = some (.slice A n c) := R3ka.out.cell 1
       have c3ka2 : w3.cell? ⟨w.heap.size, 2, none⟩ = some (.int .i64 a.e) := R3ka.out.cell 2
       have c3kb0 : w3.cell? ⟨w.heap.size + 1, 0, none⟩ = some (.bool b.neg) := R3kb.out.cell 0
       have c3kb1 : w3.cell? ⟨w.heap.size + 1, 1, none⟩ = some (.slice B m d) := R3kb.out.cell 1
       have c3kb2 : w3.cell? ⟨w.heap.size + 1, 2, none⟩ = some (.int .i64 b.e) := R3kb.out.cell 2)
    | (go_at_call_of 80 (Value.agg #[.bool b.neg, .slice B m d, .int .i64 b.e])
       (with_reducible refine (top_any b B m d _ R3b.out VB.out ZB.out).mono ?_)
       rw [HY.out]
       rintro e w4 ⟨rfl, HC4⟩
       have R4a := Lib.hid (R3a.out.belowW HC4.out)
       have R4b := Lib.hid (R3b.out.belowW HC4.out)
       have R4ka := Lib.hid (R3ka.out.belowW HC4.out)
       have R4kb := Lib.hid (R3kb.out.belowW HC4.out)
       have HR4 := Lib.hid (HR3.out.trans (HC4.out.mono HR3.out.size))
       have c4ka0 : w4.cell? ⟨w.heap.size, 0, none⟩ = some (.bool a.neg) := R4ka.out.cell 0
       have c4ka1 : w4.cell? ⟨w.heap.size, 1, none⟩ = some (.slice A n c) := R4ka.out.cell 1
       have c4ka2 : w4.cell? ⟨w.heap.size, 2, none⟩ = some (.int .i64 a.e) := R4ka.out.cell 2
       have c4kb0 : w4.cell? ⟨w.heap.size + 1, 0, none⟩ = some (.bool b.neg) := R4kb.out.cell 0
       have c4kb1 : w4.cell? ⟨w.heap.size + 1, 1, none⟩ = some (.slice B m d) := R4kb.out.cell 1
       have c4kb2 : w4.cell? ⟨w.heap.size + 1, 2, none⟩ = some (.int .i64 b.e) := R4kb.out.cell 2))
  have HL4 := Lib.hid (HB1.out.trans (HR4.out.mono HB1.out.size))
  by_cases h1 : x < y
  · have d1 : decide (x < y) = true := decide_eq_true h1
    have HF := Lib.hid (KLT.out h1)
    clear h1
    go_wp2_with fail
    go_ret
    exact ⟨ret_int HF.out.symm, HL4⟩
  · have d1 : decide (x < y) = false := decide_eq_false h1
    by_cases h2 : y < x
    · have d2 : decide (y < x) = true := decide_eq_true h2
      have HF := Lib.hid (KGT.out h2)
      clear h1 h2
      go_wp2_with fail
      go_ret
      exact ⟨ret_int HF.out.symm, HL4⟩
    · have d2 : decide (y < x) = false := decide_eq_false h2
      have HT2 := HT.out (by omega)
      clear h1 h2
      have em : min a.e b.e = e0 := HE0.out
      have sa : IntKind.i64.wrap (a.e - e0) = a.e - e0 := IntWalk.i64_in _ (by omega)
      have sb : IntKind.i64.wrap (b.e - e0) = b.e - e0 := IntWalk.i64_in _ (by omega)
      have ja : 0 ≤ a.e - e0 := by omega
      have ja2 : a.e - e0 ≤ 65536 := by omega
      have jb : 0 ≤ b.e - e0 := by omega
      have jb2 : b.e - e0 ≤ 65536 := by omega
      have BA := Lib.hid (show blen (2 ^ (a.e - e0).toNat * val (limbs a.k)) ≤ 8192 by rw [val_limbs]; have := blen_shl_le a.k (a.e - e0).toNat; have := vld_bits VA.out; omega)
      have BBH := Lib.hid (show blen (2 ^ (b.e - e0).toNat * val (limbs b.k)) ≤ 8192 by rw [val_limbs]; have := blen_shl_le b.k (b.e - e0).toNat; have := vld_bits VB.out; omega)
      have HF := Lib.hid (show cmpN (2 ^ (a.e - e0).toNat * a.k) (2 ^ (b.e - e0).toNat * b.k) = cmpM a b by unfold cmpM; rw [em])
      go_wp2_with fail
      have HR5 := Lib.hid (below_dr w4)
      have R5a := Lib.hid (R4a.out.belowW HR5.out)
      have R5b := Lib.hid (R4b.out.belowW HR5.out)
      have R5ka := Lib.hid (R4ka.out.belowW HR5.out)
      have R5kb := Lib.hid (R4kb.out.belowW HR5.out)
      have c5ka0 : w4.drew.cell? ⟨w.heap.size, 0, none⟩ = some (.bool a.neg) := R5ka.out.cell 0
      have c5ka1 : w4.drew.cell? ⟨w.heap.size, 1, none⟩ = some (.slice A n c) := R5ka.out.cell 1
      have c5ka2 : w4.drew.cell? ⟨w.heap.size, 2, none⟩ = some (.int .i64 a.e) := R5ka.out.cell 2
      have c5kb0 : w4.drew.cell? ⟨w.heap.size + 1, 0, none⟩ = some (.bool b.neg) := R5kb.out.cell 0
      have c5kb1 : w4.drew.cell? ⟨w.heap.size + 1, 1, none⟩ = some (.slice B m d) := R5kb.out.cell 1
      have c5kb2 : w4.drew.cell? ⟨w.heap.size + 1, 2, none⟩ = some (.int .i64 b.e) := R5kb.out.cell 2
      go_region_held3 (fun w' => w'.cell? ⟨w.heap.size, 0, none⟩ = some (.bool a.neg) ∧ w'.cell? ⟨w.heap.size, 1, none⟩ = some (.slice A n c) ∧ w'.cell? ⟨w.heap.size, 2, none⟩ = some (.int .i64 a.e) ∧ w'.cell? ⟨w.heap.size + 1, 0, none⟩ = some (.bool b.neg) ∧ w'.cell? ⟨w.heap.size + 1, 1, none⟩ = some (.slice B m d) ∧ w'.cell? ⟨w.heap.size + 1, 2, none⟩ = some (.int .i64 b.e)) ((with_reducible refine ⟨?_, ?_, ?_, ?_, ?_, ?_⟩) <;> (with_reducible assumption)) (first
        | (go_at_call_of 110 (Value.slice A n c)
           (with_reducible refine (shifted_any A n c _ (a.e - e0) _ R5a.out LA.out ja ja2 BA.out).mono ?_)
           rw [val_limbs]
           rintro e w6 ⟨P, p, rfl, HP, HC6⟩
           have R6a := Lib.hid (R5a.out.belowW HC6.out)
           have R6b := Lib.hid (R5b.out.belowW HC6.out)
           have R6ka := Lib.hid (R5ka.out.belowW HC6.out)
           have R6kb := Lib.hid (R5kb.out.belowW HC6.out)
           have HR6 := Lib.hid (HR5.out.trans (HC6.out.mono HR5.out.size))
           have R6p := Lib.hid (HP.out)
           have c6ka0 : w6.cell? ⟨w.heap.size, 0, none⟩ = some (.bool a.neg) := R6ka.out.cell 0
           have c6ka1 : w6.cell? ⟨w.heap.size, 1, none⟩ = some (.slice A n c) := R6ka.out.cell 1
           have c6ka2 : w6.cell? ⟨w.heap.size, 2, none⟩ = some (.int .i64 a.e) := R6ka.out.cell 2
           have c6kb0 : w6.cell? ⟨w.heap.size + 1, 0, none⟩ = some (.bool b.neg) := R6kb.out.cell 0
           have c6kb1 : w6.cell? ⟨w.heap.size + 1, 1, none⟩ = some (.slice B m d) := R6kb.out.cell 1
           have c6kb2 : w6.cell? ⟨w.heap.size + 1, 2, none⟩ = some (.int .i64 b.e) := R6kb.out.cell 2)
        | (go_at_call_of 110 (Value.slice B m d)
           (with_reducible refine (shifted_any B m d _ (b.e - e0) _ R6b.out LB.out jb jb2 BBH.out).mono ?_)
           rw [val_limbs]
           rintro e w7 ⟨Q, q, rfl, HQ, HC7⟩
           have R7a := Lib.hid (R6a.out.belowW HC7.out)
           have R7b := Lib.hid (R6b.out.belowW HC7.out)
           have R7ka := Lib.hid (R6ka.out.belowW HC7.out)
           have R7kb := Lib.hid (R6kb.out.belowW HC7.out)
           have R7p := Lib.hid (R6p.out.belowW HC7.out)
           have HR7 := Lib.hid (HR6.out.trans (HC7.out.mono HR6.out.size))
           have R7q := Lib.hid (HQ.out)
           have c7ka0 : w7.cell? ⟨w.heap.size, 0, none⟩ = some (.bool a.neg) := R7ka.out.cell 0
           have c7ka1 : w7.cell? ⟨w.heap.size, 1, none⟩ = some (.slice A n c) := R7ka.out.cell 1
           have c7ka2 : w7.cell? ⟨w.heap.size, 2, none⟩ = some (.int .i64 a.e) := R7ka.out.cell 2
           have c7kb0 : w7.cell? ⟨w.heap.size + 1, 0, none⟩ = some (.bool b.neg) := R7kb.out.cell 0
           have c7kb1 : w7.cell? ⟨w.heap.size + 1, 1, none⟩ = some (.slice B m d) := R7kb.out.cell 1
           have c7kb2 : w7.cell? ⟨w.heap.size + 1, 2, none⟩ = some (.int .i64 b.e) := R7kb.out.cell 2)
        | (go_at_call 105
           (with_reducible refine (cmp_any P Q p p q q _ _ _ R7p.out R7q.out).mono ?_)
           rw [val_limbs, val_limbs, HF.out]
           rintro e w8 ⟨rfl, r, hr⟩
           have HC8 := Lib.hid (show Below w7.heap.size w7 w8 by rw [hr]; exact below_drewN (Below.refl _ _) _)
           clear hr
           have R8a := Lib.hid (R7a.out.belowW HC8.out)
           have R8b := Lib.hid (R7b.out.belowW HC8.out)
           have R8ka := Lib.hid (R7ka.out.belowW HC8.out)
           have R8kb := Lib.hid (R7kb.out.belowW HC8.out)
           have R8p := Lib.hid (R7p.out.belowW HC8.out)
           have R8q := Lib.hid (R7q.out.belowW HC8.out)
           have HR8 := Lib.hid (HR7.out.trans (HC8.out.mono HR7.out.size))
           have c8ka0 : w8.cell? ⟨w.heap.size, 0, none⟩ = some (.bool a.neg) := R8ka.out.cell 0
           have c8ka1 : w8.cell? ⟨w.heap.size, 1, none⟩ = some (.slice A n c) := R8ka.out.cell 1
           have c8ka2 : w8.cell? ⟨w.heap.size, 2, none⟩ = some (.int .i64 a.e) := R8ka.out.cell 2
           have c8kb0 : w8.cell? ⟨w.heap.size + 1, 0, none⟩ = some (.bool b.neg) := R8kb.out.cell 0
           have c8kb1 : w8.cell? ⟨w.heap.size + 1, 1, none⟩ = some (.slice B m d) := R8kb.out.cell 1
           have c8kb2 : w8.cell? ⟨w.heap.size + 1, 2, none⟩ = some (.int .i64 b.e) := R8kb.out.cell 2))
      have HL8 := Lib.hid (HL4.out.trans (HR8.out.mono HL4.out.size))
      go_wp2_with fail
      go_ret
      exact ⟨rfl, HL8⟩

set_option maxHeartbeats 1000000 in
theorem dcmp_any (a b : D) (A B : Option Addr) (n c m d : Nat) (w : World) (ha : Sl w A n c (limbs a.k)) (hb : Sl w B m d (limbs b.k)) (va : vld a) (vb : vld b) :
    Calls Tryz.prog 46 #[.agg #[.bool a.neg, .slice A n c, .int .i64 a.e], .agg #[.bool b.neg, .slice B m d, .int .i64 b.e]] w (Ret (.int .i64 (cmpD a b)) w) := by
  have HA := Lib.hid ha
  have HB := Lib.hid hb
  have VA := Lib.hid va
  have VB := Lib.hid vb
  obtain ⟨x, hx⟩ : ∃ x, sg a = x := ⟨_, rfl⟩
  obtain ⟨y, hy⟩ : ∃ y, sg b = y := ⟨_, rfl⟩
  have x1 : -1 ≤ x ∧ x ≤ 1 := by rw [← hx]; exact sg_range a
  have y1 : -1 ≤ y ∧ y ≤ 1 := by rw [← hy]; exact sg_range b
  obtain ⟨z, hz⟩ : ∃ z, cmpM a b = z := ⟨_, rfl⟩
  have z1 : -1 ≤ z ∧ z ≤ 1 := by rw [← hz]; exact cmpM_range a b
  have HX := Lib.hid hx
  have HY := Lib.hid hy
  have HZ := Lib.hid hz
  have HR := Lib.hid (show cmpD a b = if x < y then -1 else if y < x then 1 else if x = 0 then 0 else x * z by unfold cmpD; rw [hx, hy, hz])
  have KZ := Lib.hid (show x ≠ 0 → a.k ≠ 0 by rw [← hx]; exact sg_ne)
  have KW := Lib.hid (show y ≠ 0 → b.k ≠ 0 by rw [← hy]; exact sg_ne)
  clear ha hb va vb hx hy hz
  go_enter Tryz.func46, Tryz.ntmps46
  go_wp2_with fail
  obtain ⟨w1, hw⟩ : ∃ z9 : World, z9 = ((w.alloc (.cells #[.bool a.neg, .slice A n c, .int .i64 a.e] 28)).alloc (.cells #[.bool b.neg, .slice B m d, .int .i64 b.e] 28)) := ⟨_, rfl⟩
  have HB1 := Lib.hid (show Below w.heap.size w w1 by rw [hw]; exact below_a2 _ _ _)
  have F1a := Lib.hid (HA.out.belowW HB1.out)
  have F1b := Lib.hid (HB.out.belowW HB1.out)
  have F1ka := Lib.hid (show Blk w1 (w.heap.size) 28 #[.bool a.neg, .slice A n c, .int .i64 a.e] by rw [hw]; exact (Blk.new _ _ _).alloc _)
  have F1kb := Lib.hid (show Blk w1 (w.heap.size + 1) 28 #[.bool b.neg, .slice B m d, .int .i64 b.e] by rw [hw]; exact Blk.new1 _ _ _ _)
  rw [← hw]
  clear hw
  have pka0 : (w1).cell? ⟨w.heap.size, 0, none⟩ = some (.bool a.neg) := F1ka.out.cell 0
  have fka0 : (w1).frozen? ⟨w.heap.size, 0, none⟩ = false := F1ka.out.frozen 0
  have pka1 : (w1).cell? ⟨w.heap.size, 1, none⟩ = some (.slice A n c) := F1ka.out.cell 1
  have fka1 : (w1).frozen? ⟨w.heap.size, 1, none⟩ = false := F1ka.out.frozen 1
  have pka2 : (w1).cell? ⟨w.heap.size, 2, none⟩ = some (.int .i64 a.e) := F1ka.out.cell 2
  have fka2 : (w1).frozen? ⟨w.heap.size, 2, none⟩ = false := F1ka.out.frozen 2
  have pkb0 : (w1).cell? ⟨w.heap.size + 1, 0, none⟩ = some (.bool b.neg) := F1kb.out.cell 0
  have fkb0 : (w1).frozen? ⟨w.heap.size + 1, 0, none⟩ = false := F1kb.out.frozen 0
  have pkb1 : (w1).cell? ⟨w.heap.size + 1, 1, none⟩ = some (.slice B m d) := F1kb.out.cell 1
  have fkb1 : (w1).frozen? ⟨w.heap.size + 1, 1, none⟩ = false := F1kb.out.frozen 1
  have pkb2 : (w1).cell? ⟨w.heap.size + 1, 2, none⟩ = some (.int .i64 b.e) := F1kb.out.cell 2
  have fkb2 : (w1).frozen? ⟨w.heap.size + 1, 2, none⟩ = false := F1kb.out.frozen 2
  go_wp2_with fail
  refine (valid_yes a A n c w1 F1a.out VA.out).mono ?_
  rintro e w2 ⟨rfl, HB2⟩
  have F2a := Lib.hid (F1a.out.belowW HB2.out)
  have F2b := Lib.hid (F1b.out.belowW HB2.out)
  have F2ka := Lib.hid (F1ka.out.belowW HB2.out)
  have F2kb := Lib.hid (F1kb.out.belowW HB2.out)
  have HL2 := Lib.hid (HB1.out.trans (HB2.out.mono HB1.out.size))
  clear pka0 fka0 pka1 fka1 pka2 fka2 pkb0 fkb0 pkb1 fkb1 pkb2 fkb2
  have pka0 : (w2).cell? ⟨w.heap.size, 0, none⟩ = some (.bool a.neg) := F2ka.out.cell 0
  have fka0 : (w2).frozen? ⟨w.heap.size, 0, none⟩ = false := F2ka.out.frozen 0
  have pka1 : (w2).cell? ⟨w.heap.size, 1, none⟩ = some (.slice A n c) := F2ka.out.cell 1
  have fka1 : (w2).frozen? ⟨w.heap.size, 1, none⟩ = false := F2ka.out.frozen 1
  have pka2 : (w2).cell? ⟨w.heap.size, 2, none⟩ = some (.int .i64 a.e) := F2ka.out.cell 2
  have fka2 : (w2).frozen? ⟨w.heap.size, 2, none⟩ = false := F2ka.out.frozen 2
  have pkb0 : (w2).cell? ⟨w.heap.size + 1, 0, none⟩ = some (.bool b.neg) := F2kb.out.cell 0
  have fkb0 : (w2).frozen? ⟨w.heap.size + 1, 0, none⟩ = false := F2kb.out.frozen 0
  have pkb1 : (w2).cell? ⟨w.heap.size + 1, 1, none⟩ = some (.slice B m d) := F2kb.out.cell 1
  have fkb1 : (w2).frozen? ⟨w.heap.size + 1, 1, none⟩ = false := F2kb.out.frozen 1
  have pkb2 : (w2).cell? ⟨w.heap.size + 1, 2, none⟩ = some (.int .i64 b.e) := F2kb.out.cell 2
  have fkb2 : (w2).frozen? ⟨w.heap.size + 1, 2, none⟩ = false := F2kb.out.frozen 2
  go_wp2_with fail
  refine (valid_yes b B m d w2 F2b.out VB.out).mono ?_
  rintro e w3 ⟨rfl, HB3⟩
  have F3a := Lib.hid (F2a.out.belowW HB3.out)
  have F3b := Lib.hid (F2b.out.belowW HB3.out)
  have F3ka := Lib.hid (F2ka.out.belowW HB3.out)
  have F3kb := Lib.hid (F2kb.out.belowW HB3.out)
  have HL3 := Lib.hid (HL2.out.trans (HB3.out.mono HL2.out.size))
  clear pka0 fka0 pka1 fka1 pka2 fka2 pkb0 fkb0 pkb1 fkb1 pkb2 fkb2
  have pka0 : (w3).cell? ⟨w.heap.size, 0, none⟩ = some (.bool a.neg) := F3ka.out.cell 0
  have fka0 : (w3).frozen? ⟨w.heap.size, 0, none⟩ = false := F3ka.out.frozen 0
  have pka1 : (w3).cell? ⟨w.heap.size, 1, none⟩ = some (.slice A n c) := F3ka.out.cell 1
  have fka1 : (w3).frozen? ⟨w.heap.size, 1, none⟩ = false := F3ka.out.frozen 1
  have pka2 : (w3).cell? ⟨w.heap.size, 2, none⟩ = some (.int .i64 a.e) := F3ka.out.cell 2
  have fka2 : (w3).frozen? ⟨w.heap.size, 2, none⟩ = false := F3ka.out.frozen 2
  have pkb0 : (w3).cell? ⟨w.heap.size + 1, 0, none⟩ = some (.bool b.neg) := F3kb.out.cell 0
  have fkb0 : (w3).frozen? ⟨w.heap.size + 1, 0, none⟩ = false := F3kb.out.frozen 0
  have pkb1 : (w3).cell? ⟨w.heap.size + 1, 1, none⟩ = some (.slice B m d) := F3kb.out.cell 1
  have fkb1 : (w3).frozen? ⟨w.heap.size + 1, 1, none⟩ = false := F3kb.out.frozen 1
  have pkb2 : (w3).cell? ⟨w.heap.size + 1, 2, none⟩ = some (.int .i64 b.e) := F3kb.out.cell 2
  have fkb2 : (w3).frozen? ⟨w.heap.size + 1, 2, none⟩ = false := F3kb.out.frozen 2
  go_wp2_with fail
  have HR4 := Lib.hid (below_dr w3)
  have R4a := Lib.hid (F3a.out.belowW HR4.out)
  have R4b := Lib.hid (F3b.out.belowW HR4.out)
  have R4ka := Lib.hid (F3ka.out.belowW HR4.out)
  have R4kb := Lib.hid (F3kb.out.belowW HR4.out)
  have c4ka0 : w3.drew.cell? ⟨w.heap.size, 0, none⟩ = some (.bool a.neg) := R4ka.out.cell 0
  have c4ka1 : w3.drew.cell? ⟨w.heap.size, 1, none⟩ = some (.slice A n c) := R4ka.out.cell 1
  have c4ka2 : w3.drew.cell? ⟨w.heap.size, 2, none⟩ = some (.int .i64 a.e) := R4ka.out.cell 2
  have c4kb0 : w3.drew.cell? ⟨w.heap.size + 1, 0, none⟩ = some (.bool b.neg) := R4kb.out.cell 0
  have c4kb1 : w3.drew.cell? ⟨w.heap.size + 1, 1, none⟩ = some (.slice B m d) := R4kb.out.cell 1
  have c4kb2 : w3.drew.cell? ⟨w.heap.size + 1, 2, none⟩ = some (.int .i64 b.e) := R4kb.out.cell 2
  go_region_held3 (fun w' => w'.cell? ⟨w.heap.size, 0, none⟩ = some (.bool a.neg) ∧ w'.cell? ⟨w.heap.size, 1, none⟩ = some (.slice A n c) ∧ w'.cell? ⟨w.heap.size, 2, none⟩ = some (.int .i64 a.e) ∧ w'.cell? ⟨w.heap.size + 1, 0, none⟩ = some (.bool b.neg) ∧ w'.cell? ⟨w.heap.size + 1, 1, none⟩ = some (.slice B m d) ∧ w'.cell? ⟨w.heap.size + 1, 2, none⟩ = some (.int .i64 b.e)) ((with_reducible refine ⟨?_, ?_, ?_, ?_, ?_, ?_⟩) <;> (with_reducible assumption)) (first
    | (go_at_call_of 70 (Value.agg #[.bool a.neg, .slice A n c, .int .i64 a.e])
       (with_reducible refine (sign_any a A n c _ R4a.out VA.out).mono ?_)
       rw [HX.out]
       rintro e w5 ⟨rfl, HC5⟩
       have R5a := Lib.hid (R4a.out.belowW HC5.out)
       have R5b := Lib.hid (R4b.out.belowW HC5.out)
       have R5ka := Lib.hid (R4ka.out.belowW HC5.out)
       have R5kb := Lib.hid (R4kb.out.belowW HC5.out)
       have HR5 := Lib.hid (HR4.out.trans (HC5.out.mono HR4.out.size))
       have c5ka0 : w5.cell? ⟨w.heap.size, 0, none⟩ = some (.bool a.neg) := R5ka.out.cell 0
       have c5ka1 : w5.cell? ⟨w.heap.size, 1, none⟩ = some (.slice A n c) := R5ka.out.cell 1
       have c5ka2 : w5.cell? ⟨w.heap.size, 2, none⟩ = some (.int .i64 a.e) := R5ka.out.cell 2
       have c5kb0 : w5.cell? ⟨w.heap.size + 1, 0, none⟩ = some (.bool b.neg) := R5kb.out.cell 0
       have c5kb1 : w5.cell? ⟨w.heap.size + 1, 1, none⟩ = some (.slice B m d) := R5kb.out.cell 1
       have c5kb2 : w5.cell? ⟨w.heap.size + 1, 2, none⟩ = some (.int .i64 b.e) := R5kb.out.cell 2)
    | (go_at_call_of 70 (Value.agg #[.bool b.neg, .slice B m d, .int .i64 b.e])
       (with_reducible refine (sign_any b B m d _ R5b.out VB.out).mono ?_)
       rw [HY.out]
       rintro e w6 ⟨rfl, HC6⟩
       have R6a := Lib.hid (R5a.out.belowW HC6.out)
       have R6b := Lib.hid (R5b.out.belowW HC6.out)
       have R6ka := Lib.hid (R5ka.out.belowW HC6.out)
       have R6kb := Lib.hid (R5kb.out.belowW HC6.out)
       have HR6 := Lib.hid (HR5.out.trans (HC6.out.mono HR5.out.size))
       have c6ka0 : w6.cell? ⟨w.heap.size, 0, none⟩ = some (.bool a.neg) := R6ka.out.cell 0
       have c6ka1 : w6.cell? ⟨w.heap.size, 1, none⟩ = some (.slice A n c) := R6ka.out.cell 1
       have c6ka2 : w6.cell? ⟨w.heap.size, 2, none⟩ = some (.int .i64 a.e) := R6ka.out.cell 2
       have c6kb0 : w6.cell? ⟨w.heap.size + 1, 0, none⟩ = some (.bool b.neg) := R6kb.out.cell 0
       have c6kb1 : w6.cell? ⟨w.heap.size + 1, 1, none⟩ = some (.slice B m d) := R6kb.out.cell 1
       have c6kb2 : w6.cell? ⟨w.heap.size + 1, 2, none⟩ = some (.int .i64 b.e) := R6kb.out.cell 2))
  have HL6 := Lib.hid (HL3.out.trans (HR6.out.mono HL3.out.size))
  clear pka0 fka0 pka1 fka1 pka2 fka2 pkb0 fkb0 pkb1 fkb1 pkb2 fkb2
  have pka0 : (w6).cell? ⟨w.heap.size, 0, none⟩ = some (.bool a.neg) := R6ka.out.cell 0
  have fka0 : (w6).frozen? ⟨w.heap.size, 0, none⟩ = false := R6ka.out.frozen 0
  have pka1 : (w6).cell? ⟨w.heap.size, 1, none⟩ = some (.slice A n c) := R6ka.out.cell 1
  have fka1 : (w6).frozen? ⟨w.heap.size, 1, none⟩ = false := R6ka.out.frozen 1
  have pka2 : (w6).cell? ⟨w.heap.size, 2, none⟩ = some (.int .i64 a.e) := R6ka.out.cell 2
  have fka2 : (w6).frozen? ⟨w.heap.size, 2, none⟩ = false := R6ka.out.frozen 2
  have pkb0 : (w6).cell? ⟨w.heap.size + 1, 0, none⟩ = some (.bool b.neg) := R6kb.out.cell 0
  have fkb0 : (w6).frozen? ⟨w.heap.size + 1, 0, none⟩ = false := R6kb.out.frozen 0
  have pkb1 : (w6).cell? ⟨w.heap.size + 1, 1, none⟩ = some (.slice B m d) := R6kb.out.cell 1
  have fkb1 : (w6).frozen? ⟨w.heap.size + 1, 1, none⟩ = false := R6kb.out.frozen 1
  have pkb2 : (w6).cell? ⟨w.heap.size + 1, 2, none⟩ = some (.int .i64 b.e) := R6kb.out.cell 2
  have fkb2 : (w6).frozen? ⟨w.heap.size + 1, 2, none⟩ = false := R6kb.out.frozen 2
  by_cases h1 : x < y
  · have d1 : decide (x < y) = true := decide_eq_true h1
    have HF := Lib.hid (show cmpD a b = -1 by rw [HR.out, if_pos h1])
    clear h1
    go_wp2_with fail
    go_ret
    exact ⟨ret_int HF.out.symm, HL6⟩
  · have d1 : decide (x < y) = false := decide_eq_false h1
    by_cases h2 : y < x
    · have d2 : decide (y < x) = true := decide_eq_true h2
      have HF := Lib.hid (show cmpD a b = 1 by rw [HR.out, if_neg h1, if_pos h2])
      clear h1 h2
      go_wp2_with fail
      go_ret
      exact ⟨ret_int HF.out.symm, HL6⟩
    · have d2 : decide (y < x) = false := decide_eq_false h2
      by_cases h3 : x = 0
      · have HF := Lib.hid (show cmpD a b = 0 by rw [HR.out, if_neg h1, if_neg h2, if_pos h3])
        clear h1 h2
        subst h3
        go_wp2_with fail
        go_ret
        exact ⟨ret_int HF.out.symm, HL6⟩
      · have d3 : (x == 0) = false := by rw [beq_eq_false_iff_ne]; exact h3
        have HF := Lib.hid (show x * z = cmpD a b by rw [HR.out, if_neg h1, if_neg h2, if_neg h3])
        have ZA := Lib.hid (KZ.out h3)
        have ZB := Lib.hid (KW.out (by omega))
        have sz : IntKind.i64.wrap (x * z) = x * z := IntWalk.i64_in _ (by have h := mul_small x1 z1; omega)
        clear h1 h2 h3
        go_wp2_with fail
        refine (dcompare_any a b A B n c m d w6 R6a.out R6b.out VA.out VB.out ZA.out ZB.out).mono ?_
        rw [HZ.out]
        rintro e w7 ⟨rfl, HB7⟩
        have F7a := Lib.hid (R6a.out.belowW HB7.out)
        have F7b := Lib.hid (R6b.out.belowW HB7.out)
        have F7ka := Lib.hid (R6ka.out.belowW HB7.out)
        have F7kb := Lib.hid (R6kb.out.belowW HB7.out)
        have HL7 := Lib.hid (HL6.out.trans (HB7.out.mono HL6.out.size))
        go_wp2_with fail
        go_ret
        exact ⟨ret_int HF.out, HL7⟩
end Go.Proofs.YtnogfceojmnjiaaGreatDoor
namespace Go.Fl.Dy
open Go.Fl.Nm
theorem cmpQ_less {n q k : Nat} {e : Int} (hn : n ≤ 1073741824) (hq : 0 < q) (hk : k ≠ 0) (h : 32 < (blen k : Int) + e) : cmpQ n q k e = -1 := by
  refine cmpN_lt ?_
  have h1 := (blen_spec hk).1
  have h2 := blen_pos hk
  have h3 : 2 ^ (-e).toNat * 2 ^ 32 ≤ 2 ^ e.toNat * 2 ^ (blen k - 1) := by
    rw [← Nat.pow_add, ← Nat.pow_add]
    exact Nat.pow_le_pow_right (by decide) (by omega)
  have h4 : 2 ^ e.toNat * 2 ^ (blen k - 1) ≤ 2 ^ e.toNat * (k * q) := Nat.mul_le_mul_left _ (Nat.le_trans h1 (Nat.le_mul_of_pos_right _ hq))
  have h5 : 2 ^ (-e).toNat * n < 2 ^ (-e).toNat * 2 ^ 32 := Nat.mul_lt_mul_of_pos_left (by omega) (Nat.two_pow_pos _)
  omega
theorem cmpQ_more {n q k : Nat} {e : Int} (hn : 0 < n) (hq : q ≤ 1073741824) (hk : k ≠ 0) (h : (blen k : Int) + e < -32) : cmpQ n q k e = 1 := by
  refine cmpN_gt ?_
  have h1 := (blen_spec hk).2
  have h0 : e.toNat = 0 := by omega
  rw [h0, Nat.pow_zero, Nat.one_mul]
  have h2 : k * q < 2 ^ blen k * 2 ^ 32 := Nat.mul_lt_mul'' h1 (by omega)
  have h3 : 2 ^ blen k * 2 ^ 32 ≤ 2 ^ (-e).toNat := by
    rw [← Nat.pow_add]
    exact Nat.pow_le_pow_right (by decide) (by omega)
  have h4 : 2 ^ (-e).toNat ≤ 2 ^ (-e).toNat * n := Nat.le_mul_of_pos_right _ hn
  omega
theorem cmpQ_range (n q k : Nat) (e : Int) : -1 ≤ cmpQ n q k e ∧ cmpQ n q k e ≤ 1 := cmpN_range _ _
theorem val_two {v : Nat} (h : v ≤ 1073741824) : val [v, v / 4294967296] = v := by rw [val_cons, val_cons, val_nil, BB_eq]; omega
theorem blen_mul_bd (a b : Nat) : blen (a * b) ≤ blen a + blen b := by
  refine blen_le ?_
  rw [Nat.pow_add]
  have h1 := blen_lt (Nat.le_refl (blen a))
  have h2 := blen_lt (Nat.le_refl (blen b))
  exact Nat.mul_lt_mul'' h1 h2
end Go.Fl.Dy
namespace Go.Proofs.YtnogfceojmnjiaaGreatDoor
open Go.RowKit Go.Fl Go.Fl.Nm Go.Fl.Dy Go.Fl.Rt
/-- Two limbs of a number. -/
def LimP (v : Nat) (w : World) (e : Ending) (w' : World) : Prop :=
  ∃ (A : Option Addr), e = .returned (.slice A 2 2) ∧ Hid (Sl w' A 2 2 [v, v / 4294967296]) ∧ Hid (Below w.heap.size w w')

set_option maxHeartbeats 400000 in
theorem limbs_q (v : Nat) (w : World) (h : v ≤ 1073741824) :
    Calls Tryz.prog 83 #[.int .u64 v] w (LimP v w) := by
  go_enter Tryz.func83, Tryz.ntmps83
  go_wp2_with fail
  obtain ⟨w1, hw⟩ : ∃ z9 : World, z9 = (w.alloc (.cells #[.int .u32 (v : Int), .int .u32 ((v : Int) / 4294967296)] 39)) := ⟨_, rfl⟩
  have HB1 := Lib.hid (show Below w.heap.size w w1 by rw [hw]; exact below_a1 _ _)
  have F1s := Lib.hid (show Blk w1 (w.heap.size) 39 #[.int .u32 (v : Int), .int .u32 ((v : Int) / 4294967296)] by rw [hw]; exact Blk.new _ _ _)
  rw [← hw]
  clear hw
  have HS := Lib.hid (Sl.two F1s.out (x := v) (y := v / 4294967296) rfl rfl (by unfold BB; omega) (by unfold BB; omega))
  go_wp2_with fail
  go_ret
  exact ⟨_, rfl, HS, HB1⟩

set_option maxHeartbeats 400000 in
theorem limbs_r (v : Nat) (w : World) (h : v ≤ 1073741824) :
    Calls Tryz.prog 75 #[.int .u64 v] w (LimP v w) := by
  go_enter Tryz.func75, Tryz.ntmps75
  go_wp2_with fail
  obtain ⟨w1, hw⟩ : ∃ z9 : World, z9 = (w.alloc (.cells #[.int .u32 (v : Int), .int .u32 ((v : Int) / 4294967296)] 39)) := ⟨_, rfl⟩
  have HB1 := Lib.hid (show Below w.heap.size w w1 by rw [hw]; exact below_a1 _ _)
  have F1s := Lib.hid (show Blk w1 (w.heap.size) 39 #[.int .u32 (v : Int), .int .u32 ((v : Int) / 4294967296)] by rw [hw]; exact Blk.new _ _ _)
  rw [← hw]
  clear hw
  have HS := Lib.hid (Sl.two F1s.out (x := v) (y := v / 4294967296) rfl rfl (by unfold BB; omega) (by unfold BB; omega))
  go_wp2_with fail
  go_ret
  exact ⟨_, rfl, HS, HB1⟩

set_option maxHeartbeats 2000000 in
theorem magnitude_q (n d : Int) (x : D) (A : Option Addr) (m c : Nat) (w : World) (hx : Sl w A m c (limbs x.k)) (vx : vld x) (hv : vB n d = true) (hn : n ≠ 0) (hz : x.k ≠ 0) :
    Calls Tryz.prog 71 #[.agg #[.int .i64 n, .int .i64 d], .agg #[.bool x.neg, .slice A m c, .int .i64 x.e]] w (Ret (.int .i64 (cmpQ n.natAbs d.toNat x.k x.e)) w) := by
  have HX := Lib.hid hx
  have VX := Lib.hid vx
  have ZX := Lib.hid hz
  obtain ⟨v1, v2, v3, v4⟩ := vB_bd hv
  have hb := vld_bits vx
  have he := vld_ebd vx
  have LX := Lib.hid (show m ≤ 256 by rw [← hx.len]; exact vld_len vx)
  have h1 : -9223372036854775808 ≤ n := by omega
  have h2 : n ≤ 9223372036854775807 := by omega
  have h3 : -9223372036854775808 ≤ d := by omega
  have h4 : d ≤ 9223372036854775807 := by omega
  obtain ⟨N, hN⟩ : ∃ N, n.natAbs = N := ⟨_, rfl⟩
  obtain ⟨q, hq⟩ : ∃ q, d.toNat = q := ⟨_, rfl⟩
  have hq2 : d.natAbs = q := by omega
  have N1 : N ≤ 1073741824 := by omega
  have N2 : 0 < N := by omega
  have q1 : q ≤ 1073741824 := by omega
  have q2 : 0 < q := by omega
  have HN := Lib.hid hN
  have HQ := Lib.hid hq2
  obtain ⟨t, ht⟩ : ∃ t, (blen x.k : Int) + x.e = t := ⟨_, rfl⟩
  have HTt := Lib.hid ht
  have t1 : -20000 ≤ t ∧ t ≤ 30000 := by omega
  have KL := Lib.hid (show 32 < t → cmpQ N q x.k x.e = -1 from fun h => cmpQ_less N1 q2 hz (by omega))
  have KM := Lib.hid (show t < -32 → cmpQ N q x.k x.e = 1 from fun h => cmpQ_more N2 q1 hz (by omega))
  have L2 : 2 ≤ 256 := by decide
  have HV2 := Lib.hid (val_two q1)
  have HV1 := Lib.hid (val_two N1)
  have bq : blen q ≤ 31 := blen_le (by omega)
  have bN : blen N ≤ 31 := blen_le (by omega)
  have BM := Lib.hid (show blen (val (limbs x.k) * val [q, q / 4294967296]) ≤ 8192 by rw [val_limbs, HV2.out]; have := blen_mul_bd x.k q; omega)
  rw [hN, hq]
  clear hx vx hv hz hN hq hq2 ht
  go_enter Tryz.func71, Tryz.ntmps71
  go_wp2_with fail
  obtain ⟨w1, hw⟩ : ∃ z9 : World, z9 = ((w.alloc (.cells #[.int .i64 n, .int .i64 d] 23)).alloc (.cells #[.bool x.neg, .slice A m c, .int .i64 x.e] 28)) := ⟨_, rfl⟩
  have HB1 := Lib.hid (show Below w.heap.size w w1 by rw [hw]; exact below_a2 _ _ _)
  have F1x := Lib.hid (HX.out.belowW HB1.out)
  have F1kr := Lib.hid (show Blk w1 (w.heap.size) 23 #[.int .i64 n, .int .i64 d] by rw [hw]; exact (Blk.new _ _ _).alloc _)
  have F1kx := Lib.hid (show Blk w1 (w.heap.size + 1) 28 #[.bool x.neg, .slice A m c, .int .i64 x.e] by rw [hw]; exact Blk.new1 _ _ _ _)
  rw [← hw]
  clear hw
  have pkr0 : (w1).cell? ⟨w.heap.size, 0, none⟩ = some (.int .i64 n) := F1kr.out.cell 0
  have fkr0 : (w1).frozen? ⟨w.heap.size, 0, none⟩ = false := F1kr.out.frozen 0
  have pkr1 : (w1).cell? ⟨w.heap.size, 1, none⟩ = some (.int .i64 d) := F1kr.out.cell 1
  have fkr1 : (w1).frozen? ⟨w.heap.size, 1, none⟩ = false := F1kr.out.frozen 1
  have pkx0 : (w1).cell? ⟨w.heap.size + 1, 0, none⟩ = some (.bool x.neg) := F1kx.out.cell 0
  have fkx0 : (w1).frozen? ⟨w.heap.size + 1, 0, none⟩ = false := F1kx.out.frozen 0
  have pkx1 : (w1).cell? ⟨w.heap.size + 1, 1, none⟩ = some (.slice A m c) := F1kx.out.cell 1
  have fkx1 : (w1).frozen? ⟨w.heap.size + 1, 1, none⟩ = false := F1kx.out.frozen 1
  have pkx2 : (w1).cell? ⟨w.heap.size + 1, 2, none⟩ = some (.int .i64 x.e) := F1kx.out.cell 2
  have fkx2 : (w1).frozen? ⟨w.heap.size + 1, 2, none⟩ = false := F1kx.out.frozen 2
  go_wp2_with fail
  refine (top_any x A m c w1 F1x.out VX.out ZX.out).mono ?_
  rw [HTt.out]
  rintro e w2 ⟨rfl, HB2⟩
  have F2x := Lib.hid (F1x.out.belowW HB2.out)
  have F2kr := Lib.hid (F1kr.out.belowW HB2.out)
  have F2kx := Lib.hid (F1kx.out.belowW HB2.out)
  have HL2 := Lib.hid (HB1.out.trans (HB2.out.mono HB1.out.size))
  clear pkr0 fkr0 pkr1 fkr1 pkx0 fkx0 pkx1 fkx1 pkx2 fkx2
  have pkr0 : (w2).cell? ⟨w.heap.size, 0, none⟩ = some (.int .i64 n) := F2kr.out.cell 0
  have fkr0 : (w2).frozen? ⟨w.heap.size, 0, none⟩ = false := F2kr.out.frozen 0
  have pkr1 : (w2).cell? ⟨w.heap.size, 1, none⟩ = some (.int .i64 d) := F2kr.out.cell 1
  have fkr1 : (w2).frozen? ⟨w.heap.size, 1, none⟩ = false := F2kr.out.frozen 1
  have pkx0 : (w2).cell? ⟨w.heap.size + 1, 0, none⟩ = some (.bool x.neg) := F2kx.out.cell 0
  have fkx0 : (w2).frozen? ⟨w.heap.size + 1, 0, none⟩ = false := F2kx.out.frozen 0
  have pkx1 : (w2).cell? ⟨w.heap.size + 1, 1, none⟩ = some (.slice A m c) := F2kx.out.cell 1
  have fkx1 : (w2).frozen? ⟨w.heap.size + 1, 1, none⟩ = false := F2kx.out.frozen 1
  have pkx2 : (w2).cell? ⟨w.heap.size + 1, 2, none⟩ = some (.int .i64 x.e) := F2kx.out.cell 2
  have fkx2 : (w2).frozen? ⟨w.heap.size + 1, 2, none⟩ = false := F2kx.out.frozen 2
  by_cases k1 : 32 < t
  · have d1 : decide (32 < t) = true := decide_eq_true k1
    have HF := Lib.hid (KL.out k1)
    clear k1
    go_wp2_with fail
    go_ret
    exact ⟨ret_int HF.out.symm, HL2⟩
  · have d1 : decide (32 < t) = false := decide_eq_false k1
    by_cases k2 : t < -32
    · have d2 : decide (t < -32) = true := decide_eq_true k2
      have HF := Lib.hid (KM.out k2)
      clear k1 k2
      go_wp2_with fail
      go_ret
      exact ⟨ret_int HF.out.symm, HL2⟩
    · have d2 : decide (t < -32) = false := decide_eq_false k2
      go_wp2_with fail
      refine (size_q n w2 h1 h2).mono ?_
      rw [HN.out]
      rintro e w' ⟨rfl, rfl⟩
      go_wp2_with fail
      refine (limbs_q N w2 N1).mono ?_
      rintro e w3 ⟨P, rfl, HP, HB3⟩
      have F3x := Lib.hid (F2x.out.belowW HB3.out)
      have F3kr := Lib.hid (F2kr.out.belowW HB3.out)
      have F3kx := Lib.hid (F2kx.out.belowW HB3.out)
      have HL3 := Lib.hid (HL2.out.trans (HB3.out.mono HL2.out.size))
      have F3p := Lib.hid (HP.out)
      clear pkr0 fkr0 pkr1 fkr1 pkx0 fkx0 pkx1 fkx1 pkx2 fkx2
      have pkr0 : (w3).cell? ⟨w.heap.size, 0, none⟩ = some (.int .i64 n) := F3kr.out.cell 0
      have fkr0 : (w3).frozen? ⟨w.heap.size, 0, none⟩ = false := F3kr.out.frozen 0
      have pkr1 : (w3).cell? ⟨w.heap.size, 1, none⟩ = some (.int .i64 d) := F3kr.out.cell 1
      have fkr1 : (w3).frozen? ⟨w.heap.size, 1, none⟩ = false := F3kr.out.frozen 1
      have pkx0 : (w3).cell? ⟨w.heap.size + 1, 0, none⟩ = some (.bool x.neg) := F3kx.out.cell 0
      have fkx0 : (w3).frozen? ⟨w.heap.size + 1, 0, none⟩ = false := F3kx.out.frozen 0
      have pkx1 : (w3).cell? ⟨w.heap.size + 1, 1, none⟩ = some (.slice A m c) := F3kx.out.cell 1
      have fkx1 : (w3).frozen? ⟨w.heap.size + 1, 1, none⟩ = false := F3kx.out.frozen 1
      have pkx2 : (w3).cell? ⟨w.heap.size + 1, 2, none⟩ = some (.int .i64 x.e) := F3kx.out.cell 2
      have fkx2 : (w3).frozen? ⟨w.heap.size + 1, 2, none⟩ = false := F3kx.out.frozen 2
      go_wp2_with fail
      have HR4 := Lib.hid (below_dr w3)
      have R4x := Lib.hid (F3x.out.belowW HR4.out)
      have R4kr := Lib.hid (F3kr.out.belowW HR4.out)
      have R4kx := Lib.hid (F3kx.out.belowW HR4.out)
      have R4p := Lib.hid (F3p.out.belowW HR4.out)
      have c4kr0 : w3.drew.cell? ⟨w.heap.size, 0, none⟩ = some (.int .i64 n) := R4kr.out.cell 0
      have c4kr1 : w3.drew.cell? ⟨w.heap.size, 1, none⟩ = some (.int .i64 d) := R4kr.out.cell 1
      have c4kx0 : w3.drew.cell? ⟨w.heap.size + 1, 0, none⟩ = some (.bool x.neg) := R4kx.out.cell 0
      have c4kx1 : w3.drew.cell? ⟨w.heap.size + 1, 1, none⟩ = some (.slice A m c) := R4kx.out.cell 1
      have c4kx2 : w3.drew.cell? ⟨w.heap.size + 1, 2, none⟩ = some (.int .i64 x.e) := R4kx.out.cell 2
      go_region_held3 (fun w' => w'.cell? ⟨w.heap.size, 0, none⟩ = some (.int .i64 n) ∧ w'.cell? ⟨w.heap.size, 1, none⟩ = some (.int .i64 d) ∧ w'.cell? ⟨w.heap.size + 1, 0, none⟩ = some (.bool x.neg) ∧ w'.cell? ⟨w.heap.size + 1, 1, none⟩ = some (.slice A m c) ∧ w'.cell? ⟨w.heap.size + 1, 2, none⟩ = some (.int .i64 x.e)) ((with_reducible refine ⟨?_, ?_, ?_, ?_, ?_⟩) <;> (with_reducible assumption)) (first
        | (go_at_call 60
           (with_reducible refine (size_q d _ h3 h4).mono ?_)
           rw [HQ.out]
           rintro e w5 ⟨rfl, hr⟩
           have HC5 := Lib.hid (show Below w3.drew.heap.size w3.drew w5 by rw [← hr]; exact Below.refl _ _)
           clear hr
           have R5x := Lib.hid (R4x.out.belowW HC5.out)
           have R5kr := Lib.hid (R4kr.out.belowW HC5.out)
           have R5kx := Lib.hid (R4kx.out.belowW HC5.out)
           have R5p := Lib.hid (R4p.out.belowW HC5.out)
           have HR5 := Lib.hid (HR4.out.trans (HC5.out.mono HR4.out.size))
           have c5kr0 : w5.cell? ⟨w.heap.size, 0, none⟩ = some (.int .i64 n) := R5kr.out.cell 0
           have c5kr1 : w5.cell? ⟨w.heap.size, 1, none⟩ = some (.int .i64 d) := R5kr.out.cell 1
           have c5kx0 : w5.cell? ⟨w.heap.size + 1, 0, none⟩ = some (.bool x.neg) := R5kx.out.cell 0
           have c5kx1 : w5.cell? ⟨w.heap.size + 1, 1, none⟩ = some (.slice A m c) := R5kx.out.cell 1
           have c5kx2 : w5.cell? ⟨w.heap.size + 1, 2, none⟩ = some (.int .i64 x.e) := R5kx.out.cell 2)
        | (go_at_call 83
           (with_reducible refine (limbs_q q _ q1).mono ?_)
           rintro e w6 ⟨Q, rfl, HQQ, HC6⟩
           have R6x := Lib.hid (R5x.out.belowW HC6.out)
           have R6kr := Lib.hid (R5kr.out.belowW HC6.out)
           have R6kx := Lib.hid (R5kx.out.belowW HC6.out)
           have R6p := Lib.hid (R5p.out.belowW HC6.out)
           have HR6 := Lib.hid (HR5.out.trans (HC6.out.mono HR5.out.size))
           have R6q := Lib.hid (HQQ.out)
           have c6kr0 : w6.cell? ⟨w.heap.size, 0, none⟩ = some (.int .i64 n) := R6kr.out.cell 0
           have c6kr1 : w6.cell? ⟨w.heap.size, 1, none⟩ = some (.int .i64 d) := R6kr.out.cell 1
           have c6kx0 : w6.cell? ⟨w.heap.size + 1, 0, none⟩ = some (.bool x.neg) := R6kx.out.cell 0
           have c6kx1 : w6.cell? ⟨w.heap.size + 1, 1, none⟩ = some (.slice A m c) := R6kx.out.cell 1
           have c6kx2 : w6.cell? ⟨w.heap.size + 1, 2, none⟩ = some (.int .i64 x.e) := R6kx.out.cell 2)
        | (go_at_call 103
           (with_reducible refine (nMul_sl A Q m c 2 2 _ _ _ R6x.out R6q.out LX.out L2 BM.out).mono ?_)
           rw [val_limbs, HV2.out]
           rintro e w7 ⟨R, r, rfl, HRR, HC7⟩
           have R7x := Lib.hid (R6x.out.belowW HC7.out)
           have R7kr := Lib.hid (R6kr.out.belowW HC7.out)
           have R7kx := Lib.hid (R6kx.out.belowW HC7.out)
           have R7p := Lib.hid (R6p.out.belowW HC7.out)
           have R7q := Lib.hid (R6q.out.belowW HC7.out)
           have HR7 := Lib.hid (HR6.out.trans (HC7.out.mono HR6.out.size))
           have R7r := Lib.hid (HRR.out)
           have c7kr0 : w7.cell? ⟨w.heap.size, 0, none⟩ = some (.int .i64 n) := R7kr.out.cell 0
           have c7kr1 : w7.cell? ⟨w.heap.size, 1, none⟩ = some (.int .i64 d) := R7kr.out.cell 1
           have c7kx0 : w7.cell? ⟨w.heap.size + 1, 0, none⟩ = some (.bool x.neg) := R7kx.out.cell 0
           have c7kx1 : w7.cell? ⟨w.heap.size + 1, 1, none⟩ = some (.slice A m c) := R7kx.out.cell 1
           have c7kx2 : w7.cell? ⟨w.heap.size + 1, 2, none⟩ = some (.int .i64 x.e) := R7kx.out.cell 2))
      have HL7 := Lib.hid (HL3.out.trans (HR7.out.mono HL3.out.size))
      clear pkr0 fkr0 pkr1 fkr1 pkx0 fkx0 pkx1 fkx1 pkx2 fkx2
      have pkr0 : (w7).cell? ⟨w.heap.size, 0, none⟩ = some (.int .i64 n) := R7kr.out.cell 0
      have fkr0 : (w7).frozen? ⟨w.heap.size, 0, none⟩ = false := R7kr.out.frozen 0
      have pkr1 : (w7).cell? ⟨w.heap.size, 1, none⟩ = some (.int .i64 d) := R7kr.out.cell 1
      have fkr1 : (w7).frozen? ⟨w.heap.size, 1, none⟩ = false := R7kr.out.frozen 1
      have pkx0 : (w7).cell? ⟨w.heap.size + 1, 0, none⟩ = some (.bool x.neg) := R7kx.out.cell 0
      have fkx0 : (w7).frozen? ⟨w.heap.size + 1, 0, none⟩ = false := R7kx.out.frozen 0
      have pkx1 : (w7).cell? ⟨w.heap.size + 1, 1, none⟩ = some (.slice A m c) := R7kx.out.cell 1
      have fkx1 : (w7).frozen? ⟨w.heap.size + 1, 1, none⟩ = false := R7kx.out.frozen 1
      have pkx2 : (w7).cell? ⟨w.heap.size + 1, 2, none⟩ = some (.int .i64 x.e) := R7kx.out.cell 2
      have fkx2 : (w7).frozen? ⟨w.heap.size + 1, 2, none⟩ = false := R7kx.out.frozen 2
      have LRr := Lib.hid (show r ≤ 256 from R7r.out.lim (k := 256) (by have := blen_mul_bd x.k q; omega))
      by_cases k3 : 0 ≤ x.e
      · have d3 : decide (0 ≤ x.e) = true := decide_eq_true k3
        have BS := Lib.hid (show blen (2 ^ x.e.toNat * val (limbs (x.k * q))) ≤ 8192 by rw [val_limbs]; have := blen_mul_bd x.k q; have := blen_shl_le (x.k * q) x.e.toNat; have := HTt.out; omega)
        have HF := Lib.hid (show cmpN N (2 ^ x.e.toNat * (x.k * q)) = cmpQ N q x.k x.e by unfold cmpQ; rw [show (-x.e).toNat = 0 by omega, Nat.pow_zero, Nat.one_mul])
        have k4 : x.e ≤ 65536 := by omega
        clear k1 k2
        go_wp2_with fail
        refine (nShl_sl R r r _ w7 R7r.out LRr.out x.e k3 k4 BS.out).mono ?_
        rw [val_limbs]
        rintro e w8 ⟨S, s, rfl, HS, HB8⟩
        have F8x := Lib.hid (R7x.out.belowW HB8.out)
        have F8kr := Lib.hid (R7kr.out.belowW HB8.out)
        have F8kx := Lib.hid (R7kx.out.belowW HB8.out)
        have F8p := Lib.hid (R7p.out.belowW HB8.out)
        have F8q := Lib.hid (R7q.out.belowW HB8.out)
        have F8r := Lib.hid (R7r.out.belowW HB8.out)
        have HL8 := Lib.hid (HL7.out.trans (HB8.out.mono HL7.out.size))
        have F8s := Lib.hid (HS.out)
        go_wp2_with fail
        refine (cmp_any P S 2 2 s s _ _ w8 F8p.out F8s.out).mono ?_
        rw [val_limbs, HV1.out, HF.out]
        rintro e w9 ⟨rfl, qd, hqd⟩
        have HB9 := Lib.hid (show Below w8.heap.size w8 w9 by rw [hqd]; exact below_drewN (Below.refl _ _) _)
        clear hqd
        have F9x := Lib.hid (F8x.out.belowW HB9.out)
        have F9kr := Lib.hid (F8kr.out.belowW HB9.out)
        have F9kx := Lib.hid (F8kx.out.belowW HB9.out)
        have F9p := Lib.hid (F8p.out.belowW HB9.out)
        have F9q := Lib.hid (F8q.out.belowW HB9.out)
        have F9r := Lib.hid (F8r.out.belowW HB9.out)
        have F9s := Lib.hid (F8s.out.belowW HB9.out)
        have HL9 := Lib.hid (HL8.out.trans (HB9.out.mono HL8.out.size))
        go_wp2_with fail
        go_ret
        exact ⟨rfl, HL9⟩
      · have d3 : decide (0 ≤ x.e) = false := decide_eq_false k3
        have s3 : IntKind.i64.wrap (-x.e) = -x.e := IntWalk.i64_in _ (by omega)
        have BS := Lib.hid (show blen (2 ^ (-x.e).toNat * val [N, N / 4294967296]) ≤ 8192 by rw [HV1.out]; have := blen_shl_le N (-x.e).toNat; have := HTt.out; omega)
        have HF := Lib.hid (show cmpN (2 ^ (-x.e).toNat * N) (x.k * q) = cmpQ N q x.k x.e by unfold cmpQ; rw [show x.e.toNat = 0 by omega, Nat.pow_zero, Nat.one_mul])
        have k4 : -x.e ≤ 65536 := by omega
        have k5 : 0 ≤ -x.e := by omega
        clear k1 k2
        go_wp2_with fail
        refine (nShl_sl P 2 2 _ w7 R7p.out L2 (-x.e) k5 k4 BS.out).mono ?_
        rw [HV1.out]
        rintro e w8 ⟨S, s, rfl, HS, HB8⟩
        have F8x := Lib.hid (R7x.out.belowW HB8.out)
        have F8kr := Lib.hid (R7kr.out.belowW HB8.out)
        have F8kx := Lib.hid (R7kx.out.belowW HB8.out)
        have F8p := Lib.hid (R7p.out.belowW HB8.out)
        have F8q := Lib.hid (R7q.out.belowW HB8.out)
        have F8r := Lib.hid (R7r.out.belowW HB8.out)
        have HL8 := Lib.hid (HL7.out.trans (HB8.out.mono HL7.out.size))
        have F8s := Lib.hid (HS.out)
        go_wp2_with fail
        refine (cmp_any S R s s r r _ _ w8 F8s.out F8r.out).mono ?_
        rw [val_limbs, val_limbs, HF.out]
        rintro e w9 ⟨rfl, qd, hqd⟩
        have HB9 := Lib.hid (show Below w8.heap.size w8 w9 by rw [hqd]; exact below_drewN (Below.refl _ _) _)
        clear hqd
        have F9x := Lib.hid (F8x.out.belowW HB9.out)
        have F9kr := Lib.hid (F8kr.out.belowW HB9.out)
        have F9kx := Lib.hid (F8kx.out.belowW HB9.out)
        have F9p := Lib.hid (F8p.out.belowW HB9.out)
        have F9q := Lib.hid (F8q.out.belowW HB9.out)
        have F9r := Lib.hid (F8r.out.belowW HB9.out)
        have F9s := Lib.hid (F8s.out.belowW HB9.out)
        have HL9 := Lib.hid (HL8.out.trans (HB9.out.mono HL8.out.size))
        go_wp2_with fail
        go_ret
        exact ⟨rfl, HL9⟩

set_option maxHeartbeats 1000000 in
theorem compare_no (n d : Int) (ng : Bool) (A : Option Addr) (m c : Nat) (ex : Int) (l : List Nat) (w : World) (hx : Sl w A m c l) (h1 : -9223372036854775808 ≤ n) (h2 : n ≤ 9223372036854775807) (h3 : -9223372036854775808 ≤ d) (h4 : d ≤ 9223372036854775807) (hv : vB n d = false ∨ vldL ng l ex = false) :
    Calls Tryz.prog 36 #[.agg #[.int .i64 n, .int .i64 d], .agg #[.bool ng, .slice A m c, .int .i64 ex]] w (Ret (.tuple #[.int .i64 0, .int .i64 1]) w) := by
  have HX := Lib.hid hx
  clear hx
  cases va : vB n d with
  | false =>
    have VA := Lib.hid va
    clear va hv
    go_enter Tryz.func36, Tryz.ntmps36
    go_wp2_with fail
    obtain ⟨w1, hw⟩ : ∃ z9 : World, z9 = ((w.alloc (.cells #[.int .i64 n, .int .i64 d] 23)).alloc (.cells #[.bool ng, .slice A m c, .int .i64 ex] 28)) := ⟨_, rfl⟩
    have HB1 := Lib.hid (show Below w.heap.size w w1 by rw [hw]; exact below_a2 _ _ _)
    have F1x := Lib.hid (HX.out.belowW HB1.out)
    have F1kr := Lib.hid (show Blk w1 (w.heap.size) 23 #[.int .i64 n, .int .i64 d] by rw [hw]; exact (Blk.new _ _ _).alloc _)
    have F1kx := Lib.hid (show Blk w1 (w.heap.size + 1) 28 #[.bool ng, .slice A m c, .int .i64 ex] by rw [hw]; exact Blk.new1 _ _ _ _)
    rw [← hw]
    clear hw
    have pkr0 : (w1).cell? ⟨w.heap.size, 0, none⟩ = some (.int .i64 n) := F1kr.out.cell 0
    have fkr0 : (w1).frozen? ⟨w.heap.size, 0, none⟩ = false := F1kr.out.frozen 0
    have pkr1 : (w1).cell? ⟨w.heap.size, 1, none⟩ = some (.int .i64 d) := F1kr.out.cell 1
    have fkr1 : (w1).frozen? ⟨w.heap.size, 1, none⟩ = false := F1kr.out.frozen 1
    have pkx0 : (w1).cell? ⟨w.heap.size + 1, 0, none⟩ = some (.bool ng) := F1kx.out.cell 0
    have fkx0 : (w1).frozen? ⟨w.heap.size + 1, 0, none⟩ = false := F1kx.out.frozen 0
    have pkx1 : (w1).cell? ⟨w.heap.size + 1, 1, none⟩ = some (.slice A m c) := F1kx.out.cell 1
    have fkx1 : (w1).frozen? ⟨w.heap.size + 1, 1, none⟩ = false := F1kx.out.frozen 1
    have pkx2 : (w1).cell? ⟨w.heap.size + 1, 2, none⟩ = some (.int .i64 ex) := F1kx.out.cell 2
    have fkx2 : (w1).frozen? ⟨w.heap.size + 1, 2, none⟩ = false := F1kx.out.frozen 2
    go_wp2_with fail
    refine (valid_q n d w1 h1 h2 h3 h4).mono ?_
    rw [VA.out]
    rintro e w2 ⟨rfl, HB2⟩
    have F2x := Lib.hid (F1x.out.belowW HB2.out)
    have F2kr := Lib.hid (F1kr.out.belowW HB2.out)
    have F2kx := Lib.hid (F1kx.out.belowW HB2.out)
    have HL2 := Lib.hid (HB1.out.trans (HB2.out.mono HB1.out.size))
    clear pkr0 fkr0 pkr1 fkr1 pkx0 fkx0 pkx1 fkx1 pkx2 fkx2
    have pkr0 : (w2).cell? ⟨w.heap.size, 0, none⟩ = some (.int .i64 n) := F2kr.out.cell 0
    have fkr0 : (w2).frozen? ⟨w.heap.size, 0, none⟩ = false := F2kr.out.frozen 0
    have pkr1 : (w2).cell? ⟨w.heap.size, 1, none⟩ = some (.int .i64 d) := F2kr.out.cell 1
    have fkr1 : (w2).frozen? ⟨w.heap.size, 1, none⟩ = false := F2kr.out.frozen 1
    have pkx0 : (w2).cell? ⟨w.heap.size + 1, 0, none⟩ = some (.bool ng) := F2kx.out.cell 0
    have fkx0 : (w2).frozen? ⟨w.heap.size + 1, 0, none⟩ = false := F2kx.out.frozen 0
    have pkx1 : (w2).cell? ⟨w.heap.size + 1, 1, none⟩ = some (.slice A m c) := F2kx.out.cell 1
    have fkx1 : (w2).frozen? ⟨w.heap.size + 1, 1, none⟩ = false := F2kx.out.frozen 1
    have pkx2 : (w2).cell? ⟨w.heap.size + 1, 2, none⟩ = some (.int .i64 ex) := F2kx.out.cell 2
    have fkx2 : (w2).frozen? ⟨w.heap.size + 1, 2, none⟩ = false := F2kx.out.frozen 2
    go_wp2_with fail
    refine bodyPost_ret (v := .tuple #[.int .i64 0, .int .i64 1]) (by simp [results, Tryz.results36, go_sem]) rfl ?_
    exact ⟨rfl, HL2⟩
  | true =>
    have VA := Lib.hid va
    have VX := Lib.hid (show vldL ng l ex = false by rcases hv with h | h; (rw [va] at h; cases h); exact h)
    clear va hv
    go_enter Tryz.func36, Tryz.ntmps36
    go_wp2_with fail
    obtain ⟨w1, hw⟩ : ∃ z9 : World, z9 = ((w.alloc (.cells #[.int .i64 n, .int .i64 d] 23)).alloc (.cells #[.bool ng, .slice A m c, .int .i64 ex] 28)) := ⟨_, rfl⟩
    have HB1 := Lib.hid (show Below w.heap.size w w1 by rw [hw]; exact below_a2 _ _ _)
    have F1x := Lib.hid (HX.out.belowW HB1.out)
    have F1kr := Lib.hid (show Blk w1 (w.heap.size) 23 #[.int .i64 n, .int .i64 d] by rw [hw]; exact (Blk.new _ _ _).alloc _)
    have F1kx := Lib.hid (show Blk w1 (w.heap.size + 1) 28 #[.bool ng, .slice A m c, .int .i64 ex] by rw [hw]; exact Blk.new1 _ _ _ _)
    rw [← hw]
    clear hw
    have pkr0 : (w1).cell? ⟨w.heap.size, 0, none⟩ = some (.int .i64 n) := F1kr.out.cell 0
    have fkr0 : (w1).frozen? ⟨w.heap.size, 0, none⟩ = false := F1kr.out.frozen 0
    have pkr1 : (w1).cell? ⟨w.heap.size, 1, none⟩ = some (.int .i64 d) := F1kr.out.cell 1
    have fkr1 : (w1).frozen? ⟨w.heap.size, 1, none⟩ = false := F1kr.out.frozen 1
    have pkx0 : (w1).cell? ⟨w.heap.size + 1, 0, none⟩ = some (.bool ng) := F1kx.out.cell 0
    have fkx0 : (w1).frozen? ⟨w.heap.size + 1, 0, none⟩ = false := F1kx.out.frozen 0
    have pkx1 : (w1).cell? ⟨w.heap.size + 1, 1, none⟩ = some (.slice A m c) := F1kx.out.cell 1
    have fkx1 : (w1).frozen? ⟨w.heap.size + 1, 1, none⟩ = false := F1kx.out.frozen 1
    have pkx2 : (w1).cell? ⟨w.heap.size + 1, 2, none⟩ = some (.int .i64 ex) := F1kx.out.cell 2
    have fkx2 : (w1).frozen? ⟨w.heap.size + 1, 2, none⟩ = false := F1kx.out.frozen 2
    go_wp2_with fail
    refine (valid_q n d w1 h1 h2 h3 h4).mono ?_
    rw [VA.out]
    rintro e w2 ⟨rfl, HB2⟩
    have F2x := Lib.hid (F1x.out.belowW HB2.out)
    have F2kr := Lib.hid (F1kr.out.belowW HB2.out)
    have F2kx := Lib.hid (F1kx.out.belowW HB2.out)
    have HL2 := Lib.hid (HB1.out.trans (HB2.out.mono HB1.out.size))
    clear pkr0 fkr0 pkr1 fkr1 pkx0 fkx0 pkx1 fkx1 pkx2 fkx2
    have pkr0 : (w2).cell? ⟨w.heap.size, 0, none⟩ = some (.int .i64 n) := F2kr.out.cell 0
    have fkr0 : (w2).frozen? ⟨w.heap.size, 0, none⟩ = false := F2kr.out.frozen 0
    have pkr1 : (w2).cell? ⟨w.heap.size, 1, none⟩ = some (.int .i64 d) := F2kr.out.cell 1
    have fkr1 : (w2).frozen? ⟨w.heap.size, 1, none⟩ = false := F2kr.out.frozen 1
    have pkx0 : (w2).cell? ⟨w.heap.size + 1, 0, none⟩ = some (.bool ng) := F2kx.out.cell 0
    have fkx0 : (w2).frozen? ⟨w.heap.size + 1, 0, none⟩ = false := F2kx.out.frozen 0
    have pkx1 : (w2).cell? ⟨w.heap.size + 1, 1, none⟩ = some (.slice A m c) := F2kx.out.cell 1
    have fkx1 : (w2).frozen? ⟨w.heap.size + 1, 1, none⟩ = false := F2kx.out.frozen 1
    have pkx2 : (w2).cell? ⟨w.heap.size + 1, 2, none⟩ = some (.int .i64 ex) := F2kx.out.cell 2
    have fkx2 : (w2).frozen? ⟨w.heap.size + 1, 2, none⟩ = false := F2kx.out.frozen 2
    go_wp2_with fail
    refine (valid_any ng A m c ex l w2 F2x.out).mono ?_
    rw [VX.out]
    rintro e w3 ⟨rfl, HB3⟩
    have F3x := Lib.hid (F2x.out.belowW HB3.out)
    have F3kr := Lib.hid (F2kr.out.belowW HB3.out)
    have F3kx := Lib.hid (F2kx.out.belowW HB3.out)
    have HL3 := Lib.hid (HL2.out.trans (HB3.out.mono HL2.out.size))
    clear pkr0 fkr0 pkr1 fkr1 pkx0 fkx0 pkx1 fkx1 pkx2 fkx2
    have pkr0 : (w3).cell? ⟨w.heap.size, 0, none⟩ = some (.int .i64 n) := F3kr.out.cell 0
    have fkr0 : (w3).frozen? ⟨w.heap.size, 0, none⟩ = false := F3kr.out.frozen 0
    have pkr1 : (w3).cell? ⟨w.heap.size, 1, none⟩ = some (.int .i64 d) := F3kr.out.cell 1
    have fkr1 : (w3).frozen? ⟨w.heap.size, 1, none⟩ = false := F3kr.out.frozen 1
    have pkx0 : (w3).cell? ⟨w.heap.size + 1, 0, none⟩ = some (.bool ng) := F3kx.out.cell 0
    have fkx0 : (w3).frozen? ⟨w.heap.size + 1, 0, none⟩ = false := F3kx.out.frozen 0
    have pkx1 : (w3).cell? ⟨w.heap.size + 1, 1, none⟩ = some (.slice A m c) := F3kx.out.cell 1
    have fkx1 : (w3).frozen? ⟨w.heap.size + 1, 1, none⟩ = false := F3kx.out.frozen 1
    have pkx2 : (w3).cell? ⟨w.heap.size + 1, 2, none⟩ = some (.int .i64 ex) := F3kx.out.cell 2
    have fkx2 : (w3).frozen? ⟨w.heap.size + 1, 2, none⟩ = false := F3kx.out.frozen 2
    go_wp2_with fail
    refine bodyPost_ret (v := .tuple #[.int .i64 0, .int .i64 1]) (by simp [results, Tryz.results36, go_sem]) rfl ?_
    exact ⟨rfl, HL3⟩

set_option maxHeartbeats 2000000 in
theorem compare_yes (n d : Int) (x : D) (A : Option Addr) (m c : Nat) (w : World) (hx : Sl w A m c (limbs x.k)) (vx : vld x) (hv : vB n d = true) :
    Calls Tryz.prog 36 #[.agg #[.int .i64 n, .int .i64 d], .agg #[.bool x.neg, .slice A m c, .int .i64 x.e]] w (Ret (.tuple #[.int .i64 (cmpRD n d x), .int .i64 0]) w) := by
  have HX := Lib.hid hx
  have VX := Lib.hid vx
  have VA := Lib.hid hv
  obtain ⟨v1, v2, v3, v4⟩ := vB_bd hv
  have h1 : -9223372036854775808 ≤ n := by omega
  have h2 : n ≤ 9223372036854775807 := by omega
  have h3 : -9223372036854775808 ≤ d := by omega
  have h4 : d ≤ 9223372036854775807 := by omega
  obtain ⟨y, hy⟩ : ∃ y, sg x = y := ⟨_, rfl⟩
  have y1 : -1 ≤ y ∧ y ≤ 1 := by rw [← hy]; exact sg_range x
  obtain ⟨z, hz⟩ : ∃ z, cmpQ n.natAbs d.toNat x.k x.e = z := ⟨_, rfl⟩
  have z1 : -1 ≤ z ∧ z ≤ 1 := by rw [← hz]; exact cmpQ_range _ _ _ _
  have HY := Lib.hid hy
  have HZ := Lib.hid hz
  have KW := Lib.hid (show y ≠ 0 → x.k ≠ 0 by rw [← hy]; exact sg_ne)
  have HR := Lib.hid (show cmpRD n d x = if sgI n < y then -1 else if y < sgI n then 1 else if sgI n = 0 then 0 else sgI n * z by unfold cmpRD; rw [hy, hz])
  clear hx vx hv hy hz
  by_cases p1 : 0 < n
  · have dn : decide (0 < n) = true := decide_eq_true p1
    have SG := Lib.hid (show sgI n = 1 by unfold sgI; rw [if_pos p1])
    have hn : n ≠ 0 := by omega
    clear p1
    go_enter Tryz.func36, Tryz.ntmps36
    go_wp2_with fail
    obtain ⟨w1, hw⟩ : ∃ z9 : World, z9 = ((w.alloc (.cells #[.int .i64 n, .int .i64 d] 23)).alloc (.cells #[.bool x.neg, .slice A m c, .int .i64 x.e] 28)) := ⟨_, rfl⟩
    have HB1 := Lib.hid (show Below w.heap.size w w1 by rw [hw]; exact below_a2 _ _ _)
    have F1x := Lib.hid (HX.out.belowW HB1.out)
    have F1kr := Lib.hid (show Blk w1 (w.heap.size) 23 #[.int .i64 n, .int .i64 d] by rw [hw]; exact (Blk.new _ _ _).alloc _)
    have F1kx := Lib.hid (show Blk w1 (w.heap.size + 1) 28 #[.bool x.neg, .slice A m c, .int .i64 x.e] by rw [hw]; exact Blk.new1 _ _ _ _)
    rw [← hw]
    clear hw
    have pkr0 : (w1).cell? ⟨w.heap.size, 0, none⟩ = some (.int .i64 n) := F1kr.out.cell 0
    have fkr0 : (w1).frozen? ⟨w.heap.size, 0, none⟩ = false := F1kr.out.frozen 0
    have pkr1 : (w1).cell? ⟨w.heap.size, 1, none⟩ = some (.int .i64 d) := F1kr.out.cell 1
    have fkr1 : (w1).frozen? ⟨w.heap.size, 1, none⟩ = false := F1kr.out.frozen 1
    have pkx0 : (w1).cell? ⟨w.heap.size + 1, 0, none⟩ = some (.bool x.neg) := F1kx.out.cell 0
    have fkx0 : (w1).frozen? ⟨w.heap.size + 1, 0, none⟩ = false := F1kx.out.frozen 0
    have pkx1 : (w1).cell? ⟨w.heap.size + 1, 1, none⟩ = some (.slice A m c) := F1kx.out.cell 1
    have fkx1 : (w1).frozen? ⟨w.heap.size + 1, 1, none⟩ = false := F1kx.out.frozen 1
    have pkx2 : (w1).cell? ⟨w.heap.size + 1, 2, none⟩ = some (.int .i64 x.e) := F1kx.out.cell 2
    have fkx2 : (w1).frozen? ⟨w.heap.size + 1, 2, none⟩ = false := F1kx.out.frozen 2
    go_wp2_with fail
    refine (valid_q n d w1 h1 h2 h3 h4).mono ?_
    rw [VA.out]
    rintro e w2 ⟨rfl, HB2⟩
    have F2x := Lib.hid (F1x.out.belowW HB2.out)
    have F2kr := Lib.hid (F1kr.out.belowW HB2.out)
    have F2kx := Lib.hid (F1kx.out.belowW HB2.out)
    have HL2 := Lib.hid (HB1.out.trans (HB2.out.mono HB1.out.size))
    clear pkr0 fkr0 pkr1 fkr1 pkx0 fkx0 pkx1 fkx1 pkx2 fkx2
    have pkr0 : (w2).cell? ⟨w.heap.size, 0, none⟩ = some (.int .i64 n) := F2kr.out.cell 0
    have fkr0 : (w2).frozen? ⟨w.heap.size, 0, none⟩ = false := F2kr.out.frozen 0
    have pkr1 : (w2).cell? ⟨w.heap.size, 1, none⟩ = some (.int .i64 d) := F2kr.out.cell 1
    have fkr1 : (w2).frozen? ⟨w.heap.size, 1, none⟩ = false := F2kr.out.frozen 1
    have pkx0 : (w2).cell? ⟨w.heap.size + 1, 0, none⟩ = some (.bool x.neg) := F2kx.out.cell 0
    have fkx0 : (w2).frozen? ⟨w.heap.size + 1, 0, none⟩ = false := F2kx.out.frozen 0
    have pkx1 : (w2).cell? ⟨w.heap.size + 1, 1, none⟩ = some (.slice A m c) := F2kx.out.cell 1
    have fkx1 : (w2).frozen? ⟨w.heap.size + 1, 1, none⟩ = false := F2kx.out.frozen 1
    have pkx2 : (w2).cell? ⟨w.heap.size + 1, 2, none⟩ = some (.int .i64 x.e) := F2kx.out.cell 2
    have fkx2 : (w2).frozen? ⟨w.heap.size + 1, 2, none⟩ = false := F2kx.out.frozen 2
    go_wp2_with fail
    refine (valid_yes x A m c w2 F2x.out VX.out).mono ?_
    rintro e w3 ⟨rfl, HB3⟩
    have F3x := Lib.hid (F2x.out.belowW HB3.out)
    have F3kr := Lib.hid (F2kr.out.belowW HB3.out)
    have F3kx := Lib.hid (F2kx.out.belowW HB3.out)
    have HL3 := Lib.hid (HL2.out.trans (HB3.out.mono HL2.out.size))
    clear pkr0 fkr0 pkr1 fkr1 pkx0 fkx0 pkx1 fkx1 pkx2 fkx2
    have pkr0 : (w3).cell? ⟨w.heap.size, 0, none⟩ = some (.int .i64 n) := F3kr.out.cell 0
    have fkr0 : (w3).frozen? ⟨w.heap.size, 0, none⟩ = false := F3kr.out.frozen 0
    have pkr1 : (w3).cell? ⟨w.heap.size, 1, none⟩ = some (.int .i64 d) := F3kr.out.cell 1
    have fkr1 : (w3).frozen? ⟨w.heap.size, 1, none⟩ = false := F3kr.out.frozen 1
    have pkx0 : (w3).cell? ⟨w.heap.size + 1, 0, none⟩ = some (.bool x.neg) := F3kx.out.cell 0
    have fkx0 : (w3).frozen? ⟨w.heap.size + 1, 0, none⟩ = false := F3kx.out.frozen 0
    have pkx1 : (w3).cell? ⟨w.heap.size + 1, 1, none⟩ = some (.slice A m c) := F3kx.out.cell 1
    have fkx1 : (w3).frozen? ⟨w.heap.size + 1, 1, none⟩ = false := F3kx.out.frozen 1
    have pkx2 : (w3).cell? ⟨w.heap.size + 1, 2, none⟩ = some (.int .i64 x.e) := F3kx.out.cell 2
    have fkx2 : (w3).frozen? ⟨w.heap.size + 1, 2, none⟩ = false := F3kx.out.frozen 2
    go_wp2_with fail
    refine (sign_any x A m c w3 F3x.out VX.out).mono ?_
    rw [HY.out]
    rintro e w4 ⟨rfl, HB4⟩
    have F4x := Lib.hid (F3x.out.belowW HB4.out)
    have F4kr := Lib.hid (F3kr.out.belowW HB4.out)
    have F4kx := Lib.hid (F3kx.out.belowW HB4.out)
    have HL4 := Lib.hid (HL3.out.trans (HB4.out.mono HL3.out.size))
    clear pkr0 fkr0 pkr1 fkr1 pkx0 fkx0 pkx1 fkx1 pkx2 fkx2
    have pkr0 : (w4).cell? ⟨w.heap.size, 0, none⟩ = some (.int .i64 n) := F4kr.out.cell 0
    have fkr0 : (w4).frozen? ⟨w.heap.size, 0, none⟩ = false := F4kr.out.frozen 0
    have pkr1 : (w4).cell? ⟨w.heap.size, 1, none⟩ = some (.int .i64 d) := F4kr.out.cell 1
    have fkr1 : (w4).frozen? ⟨w.heap.size, 1, none⟩ = false := F4kr.out.frozen 1
    have pkx0 : (w4).cell? ⟨w.heap.size + 1, 0, none⟩ = some (.bool x.neg) := F4kx.out.cell 0
    have fkx0 : (w4).frozen? ⟨w.heap.size + 1, 0, none⟩ = false := F4kx.out.frozen 0
    have pkx1 : (w4).cell? ⟨w.heap.size + 1, 1, none⟩ = some (.slice A m c) := F4kx.out.cell 1
    have fkx1 : (w4).frozen? ⟨w.heap.size + 1, 1, none⟩ = false := F4kx.out.frozen 1
    have pkx2 : (w4).cell? ⟨w.heap.size + 1, 2, none⟩ = some (.int .i64 x.e) := F4kx.out.cell 2
    have fkx2 : (w4).frozen? ⟨w.heap.size + 1, 2, none⟩ = false := F4kx.out.frozen 2
    by_cases k1 : y < 1
    · have d1 : decide (y < 1) = true := decide_eq_true k1
      have d0 : decide ((1 : Int) < y) = false := decide_eq_false (by omega)
      have HF := Lib.hid (show cmpRD n d x = 1 by rw [HR.out, SG.out, if_neg (by omega), if_pos k1])
      clear k1
      go_wp2_with fail
      refine bodyPost_ret (v := .tuple #[.int .i64 (1), .int .i64 0]) (by simp [results, Tryz.results36, go_sem]) rfl ?_
      exact ⟨by rw [HF.out], HL4⟩
    · have d1 : decide (y < 1) = false := decide_eq_false k1
      obtain rfl : y = 1 := by omega
      clear k1
      have HF := Lib.hid (show (1 : Int) * z = cmpRD n d x by rw [HR.out, SG.out]; rfl)
      have ZX := Lib.hid (KW.out (by decide))
      go_wp2_with fail
      refine (magnitude_q n d x A m c w4 F4x.out VX.out VA.out hn ZX.out).mono ?_
      rw [HZ.out]
      rintro e w5 ⟨rfl, HB5⟩
      have F5x := Lib.hid (F4x.out.belowW HB5.out)
      have F5kr := Lib.hid (F4kr.out.belowW HB5.out)
      have F5kx := Lib.hid (F4kx.out.belowW HB5.out)
      have HL5 := Lib.hid (HL4.out.trans (HB5.out.mono HL4.out.size))
      go_wp2_with fail
      refine bodyPost_ret (v := .tuple #[.int .i64 (z), .int .i64 0]) (by simp [results, Tryz.results36, go_sem]) rfl ?_
      exact ⟨by rw [← HF.out]; simp, HL5⟩
  · have dn : decide (0 < n) = false := decide_eq_false p1
    by_cases p2 : n < 0
    · have dn2 : decide (n < 0) = true := decide_eq_true p2
      have SG := Lib.hid (show sgI n = -1 by unfold sgI; rw [if_neg p1, if_pos p2])
      have hn : n ≠ 0 := by omega
      clear p1 p2
      go_enter Tryz.func36, Tryz.ntmps36
      go_wp2_with fail
      obtain ⟨w1, hw⟩ : ∃ z9 : World, z9 = ((w.alloc (.cells #[.int .i64 n, .int .i64 d] 23)).alloc (.cells #[.bool x.neg, .slice A m c, .int .i64 x.e] 28)) := ⟨_, rfl⟩
      have HB1 := Lib.hid (show Below w.heap.size w w1 by rw [hw]; exact below_a2 _ _ _)
      have F1x := Lib.hid (HX.out.belowW HB1.out)
      have F1kr := Lib.hid (show Blk w1 (w.heap.size) 23 #[.int .i64 n, .int .i64 d] by rw [hw]; exact (Blk.new _ _ _).alloc _)
      have F1kx := Lib.hid (show Blk w1 (w.heap.size + 1) 28 #[.bool x.neg, .slice A m c, .int .i64 x.e] by rw [hw]; exact Blk.new1 _ _ _ _)
      rw [← hw]
      clear hw
      have pkr0 : (w1).cell? ⟨w.heap.size, 0, none⟩ = some (.int .i64 n) := F1kr.out.cell 0
      have fkr0 : (w1).frozen? ⟨w.heap.size, 0, none⟩ = false := F1kr.out.frozen 0
      have pkr1 : (w1).cell? ⟨w.heap.size, 1, none⟩ = some (.int .i64 d) := F1kr.out.cell 1
      have fkr1 : (w1).frozen? ⟨w.heap.size, 1, none⟩ = false := F1kr.out.frozen 1
      have pkx0 : (w1).cell? ⟨w.heap.size + 1, 0, none⟩ = some (.bool x.neg) := F1kx.out.cell 0
      have fkx0 : (w1).frozen? ⟨w.heap.size + 1, 0, none⟩ = false := F1kx.out.frozen 0
      have pkx1 : (w1).cell? ⟨w.heap.size + 1, 1, none⟩ = some (.slice A m c) := F1kx.out.cell 1
      have fkx1 : (w1).frozen? ⟨w.heap.size + 1, 1, none⟩ = false := F1kx.out.frozen 1
      have pkx2 : (w1).cell? ⟨w.heap.size + 1, 2, none⟩ = some (.int .i64 x.e) := F1kx.out.cell 2
      have fkx2 : (w1).frozen? ⟨w.heap.size + 1, 2, none⟩ = false := F1kx.out.frozen 2
      go_wp2_with fail
      refine (valid_q n d w1 h1 h2 h3 h4).mono ?_
      rw [VA.out]
      rintro e w2 ⟨rfl, HB2⟩
      have F2x := Lib.hid (F1x.out.belowW HB2.out)
      have F2kr := Lib.hid (F1kr.out.belowW HB2.out)
      have F2kx := Lib.hid (F1kx.out.belowW HB2.out)
      have HL2 := Lib.hid (HB1.out.trans (HB2.out.mono HB1.out.size))
      clear pkr0 fkr0 pkr1 fkr1 pkx0 fkx0 pkx1 fkx1 pkx2 fkx2
      have pkr0 : (w2).cell? ⟨w.heap.size, 0, none⟩ = some (.int .i64 n) := F2kr.out.cell 0
      have fkr0 : (w2).frozen? ⟨w.heap.size, 0, none⟩ = false := F2kr.out.frozen 0
      have pkr1 : (w2).cell? ⟨w.heap.size, 1, none⟩ = some (.int .i64 d) := F2kr.out.cell 1
      have fkr1 : (w2).frozen? ⟨w.heap.size, 1, none⟩ = false := F2kr.out.frozen 1
      have pkx0 : (w2).cell? ⟨w.heap.size + 1, 0, none⟩ = some (.bool x.neg) := F2kx.out.cell 0
      have fkx0 : (w2).frozen? ⟨w.heap.size + 1, 0, none⟩ = false := F2kx.out.frozen 0
      have pkx1 : (w2).cell? ⟨w.heap.size + 1, 1, none⟩ = some (.slice A m c) := F2kx.out.cell 1
      have fkx1 : (w2).frozen? ⟨w.heap.size + 1, 1, none⟩ = false := F2kx.out.frozen 1
      have pkx2 : (w2).cell? ⟨w.heap.size + 1, 2, none⟩ = some (.int .i64 x.e) := F2kx.out.cell 2
      have fkx2 : (w2).frozen? ⟨w.heap.size + 1, 2, none⟩ = false := F2kx.out.frozen 2
      go_wp2_with fail
      refine (valid_yes x A m c w2 F2x.out VX.out).mono ?_
      rintro e w3 ⟨rfl, HB3⟩
      have F3x := Lib.hid (F2x.out.belowW HB3.out)
      have F3kr := Lib.hid (F2kr.out.belowW HB3.out)
      have F3kx := Lib.hid (F2kx.out.belowW HB3.out)
      have HL3 := Lib.hid (HL2.out.trans (HB3.out.mono HL2.out.size))
      clear pkr0 fkr0 pkr1 fkr1 pkx0 fkx0 pkx1 fkx1 pkx2 fkx2
      have pkr0 : (w3).cell? ⟨w.heap.size, 0, none⟩ = some (.int .i64 n) := F3kr.out.cell 0
      have fkr0 : (w3).frozen? ⟨w.heap.size, 0, none⟩ = false := F3kr.out.frozen 0
      have pkr1 : (w3).cell? ⟨w.heap.size, 1, none⟩ = some (.int .i64 d) := F3kr.out.cell 1
      have fkr1 : (w3).frozen? ⟨w.heap.size, 1, none⟩ = false := F3kr.out.frozen 1
      have pkx0 : (w3).cell? ⟨w.heap.size + 1, 0, none⟩ = some (.bool x.neg) := F3kx.out.cell 0
      have fkx0 : (w3).frozen? ⟨w.heap.size + 1, 0, none⟩ = false := F3kx.out.frozen 0
      have pkx1 : (w3).cell? ⟨w.heap.size + 1, 1, none⟩ = some (.slice A m c) := F3kx.out.cell 1
      have fkx1 : (w3).frozen? ⟨w.heap.size + 1, 1, none⟩ = false := F3kx.out.frozen 1
      have pkx2 : (w3).cell? ⟨w.heap.size + 1, 2, none⟩ = some (.int .i64 x.e) := F3kx.out.cell 2
      have fkx2 : (w3).frozen? ⟨w.heap.size + 1, 2, none⟩ = false := F3kx.out.frozen 2
      go_wp2_with fail
      refine (sign_any x A m c w3 F3x.out VX.out).mono ?_
      rw [HY.out]
      rintro e w4 ⟨rfl, HB4⟩
      have F4x := Lib.hid (F3x.out.belowW HB4.out)
      have F4kr := Lib.hid (F3kr.out.belowW HB4.out)
      have F4kx := Lib.hid (F3kx.out.belowW HB4.out)
      have HL4 := Lib.hid (HL3.out.trans (HB4.out.mono HL3.out.size))
      clear pkr0 fkr0 pkr1 fkr1 pkx0 fkx0 pkx1 fkx1 pkx2 fkx2
      have pkr0 : (w4).cell? ⟨w.heap.size, 0, none⟩ = some (.int .i64 n) := F4kr.out.cell 0
      have fkr0 : (w4).frozen? ⟨w.heap.size, 0, none⟩ = false := F4kr.out.frozen 0
      have pkr1 : (w4).cell? ⟨w.heap.size, 1, none⟩ = some (.int .i64 d) := F4kr.out.cell 1
      have fkr1 : (w4).frozen? ⟨w.heap.size, 1, none⟩ = false := F4kr.out.frozen 1
      have pkx0 : (w4).cell? ⟨w.heap.size + 1, 0, none⟩ = some (.bool x.neg) := F4kx.out.cell 0
      have fkx0 : (w4).frozen? ⟨w.heap.size + 1, 0, none⟩ = false := F4kx.out.frozen 0
      have pkx1 : (w4).cell? ⟨w.heap.size + 1, 1, none⟩ = some (.slice A m c) := F4kx.out.cell 1
      have fkx1 : (w4).frozen? ⟨w.heap.size + 1, 1, none⟩ = false := F4kx.out.frozen 1
      have pkx2 : (w4).cell? ⟨w.heap.size + 1, 2, none⟩ = some (.int .i64 x.e) := F4kx.out.cell 2
      have fkx2 : (w4).frozen? ⟨w.heap.size + 1, 2, none⟩ = false := F4kx.out.frozen 2
      by_cases k2 : (-1 : Int) < y
      · have d2 : decide ((-1 : Int) < y) = true := decide_eq_true k2
        have HF := Lib.hid (show cmpRD n d x = -1 by rw [HR.out, SG.out, if_pos k2])
        clear k2
        go_wp2_with fail
        refine bodyPost_ret (v := .tuple #[.int .i64 (-1), .int .i64 0]) (by simp [results, Tryz.results36, go_sem]) rfl ?_
        exact ⟨by rw [HF.out], HL4⟩
      · obtain rfl : y = -1 := by omega
        clear k2
        have HF := Lib.hid (show (-1 : Int) * z = cmpRD n d x by rw [HR.out, SG.out]; rfl)
        have ZX := Lib.hid (KW.out (by decide))
        go_wp2_with fail
        refine (magnitude_q n d x A m c w4 F4x.out VX.out VA.out hn ZX.out).mono ?_
        rw [HZ.out]
        rintro e w5 ⟨rfl, HB5⟩
        have F5x := Lib.hid (F4x.out.belowW HB5.out)
        have F5kr := Lib.hid (F4kr.out.belowW HB5.out)
        have F5kx := Lib.hid (F4kx.out.belowW HB5.out)
        have HL5 := Lib.hid (HL4.out.trans (HB5.out.mono HL4.out.size))
        go_wp2_with fail
        refine bodyPost_ret (v := .tuple #[.int .i64 (-z), .int .i64 0]) (by simp [results, Tryz.results36, go_sem]) rfl ?_
        exact ⟨by rw [← HF.out]; simp, HL5⟩
    · have dn2 : decide (n < 0) = false := decide_eq_false p2
      have SG := Lib.hid (show sgI n = 0 by unfold sgI; rw [if_neg p1, if_neg p2])
      clear p1 p2
      go_enter Tryz.func36, Tryz.ntmps36
      go_wp2_with fail
      obtain ⟨w1, hw⟩ : ∃ z9 : World, z9 = ((w.alloc (.cells #[.int .i64 n, .int .i64 d] 23)).alloc (.cells #[.bool x.neg, .slice A m c, .int .i64 x.e] 28)) := ⟨_, rfl⟩
      have HB1 := Lib.hid (show Below w.heap.size w w1 by rw [hw]; exact below_a2 _ _ _)
      have F1x := Lib.hid (HX.out.belowW HB1.out)
      have F1kr := Lib.hid (show Blk w1 (w.heap.size) 23 #[.int .i64 n, .int .i64 d] by rw [hw]; exact (Blk.new _ _ _).alloc _)
      have F1kx := Lib.hid (show Blk w1 (w.heap.size + 1) 28 #[.bool x.neg, .slice A m c, .int .i64 x.e] by rw [hw]; exact Blk.new1 _ _ _ _)
      rw [← hw]
      clear hw
      have pkr0 : (w1).cell? ⟨w.heap.size, 0, none⟩ = some (.int .i64 n) := F1kr.out.cell 0
      have fkr0 : (w1).frozen? ⟨w.heap.size, 0, none⟩ = false := F1kr.out.frozen 0
      have pkr1 : (w1).cell? ⟨w.heap.size, 1, none⟩ = some (.int .i64 d) := F1kr.out.cell 1
      have fkr1 : (w1).frozen? ⟨w.heap.size, 1, none⟩ = false := F1kr.out.frozen 1
      have pkx0 : (w1).cell? ⟨w.heap.size + 1, 0, none⟩ = some (.bool x.neg) := F1kx.out.cell 0
      have fkx0 : (w1).frozen? ⟨w.heap.size + 1, 0, none⟩ = false := F1kx.out.frozen 0
      have pkx1 : (w1).cell? ⟨w.heap.size + 1, 1, none⟩ = some (.slice A m c) := F1kx.out.cell 1
      have fkx1 : (w1).frozen? ⟨w.heap.size + 1, 1, none⟩ = false := F1kx.out.frozen 1
      have pkx2 : (w1).cell? ⟨w.heap.size + 1, 2, none⟩ = some (.int .i64 x.e) := F1kx.out.cell 2
      have fkx2 : (w1).frozen? ⟨w.heap.size + 1, 2, none⟩ = false := F1kx.out.frozen 2
      go_wp2_with fail
      refine (valid_q n d w1 h1 h2 h3 h4).mono ?_
      rw [VA.out]
      rintro e w2 ⟨rfl, HB2⟩
      have F2x := Lib.hid (F1x.out.belowW HB2.out)
      have F2kr := Lib.hid (F1kr.out.belowW HB2.out)
      have F2kx := Lib.hid (F1kx.out.belowW HB2.out)
      have HL2 := Lib.hid (HB1.out.trans (HB2.out.mono HB1.out.size))
      clear pkr0 fkr0 pkr1 fkr1 pkx0 fkx0 pkx1 fkx1 pkx2 fkx2
      have pkr0 : (w2).cell? ⟨w.heap.size, 0, none⟩ = some (.int .i64 n) := F2kr.out.cell 0
      have fkr0 : (w2).frozen? ⟨w.heap.size, 0, none⟩ = false := F2kr.out.frozen 0
      have pkr1 : (w2).cell? ⟨w.heap.size, 1, none⟩ = some (.int .i64 d) := F2kr.out.cell 1
      have fkr1 : (w2).frozen? ⟨w.heap.size, 1, none⟩ = false := F2kr.out.frozen 1
      have pkx0 : (w2).cell? ⟨w.heap.size + 1, 0, none⟩ = some (.bool x.neg) := F2kx.out.cell 0
      have fkx0 : (w2).frozen? ⟨w.heap.size + 1, 0, none⟩ = false := F2kx.out.frozen 0
      have pkx1 : (w2).cell? ⟨w.heap.size + 1, 1, none⟩ = some (.slice A m c) := F2kx.out.cell 1
      have fkx1 : (w2).frozen? ⟨w.heap.size + 1, 1, none⟩ = false := F2kx.out.frozen 1
      have pkx2 : (w2).cell? ⟨w.heap.size + 1, 2, none⟩ = some (.int .i64 x.e) := F2kx.out.cell 2
      have fkx2 : (w2).frozen? ⟨w.heap.size + 1, 2, none⟩ = false := F2kx.out.frozen 2
      go_wp2_with fail
      refine (valid_yes x A m c w2 F2x.out VX.out).mono ?_
      rintro e w3 ⟨rfl, HB3⟩
      have F3x := Lib.hid (F2x.out.belowW HB3.out)
      have F3kr := Lib.hid (F2kr.out.belowW HB3.out)
      have F3kx := Lib.hid (F2kx.out.belowW HB3.out)
      have HL3 := Lib.hid (HL2.out.trans (HB3.out.mono HL2.out.size))
      clear pkr0 fkr0 pkr1 fkr1 pkx0 fkx0 pkx1 fkx1 pkx2 fkx2
      have pkr0 : (w3).cell? ⟨w.heap.size, 0, none⟩ = some (.int .i64 n) := F3kr.out.cell 0
      have fkr0 : (w3).frozen? ⟨w.heap.size, 0, none⟩ = false := F3kr.out.frozen 0
      have pkr1 : (w3).cell? ⟨w.heap.size, 1, none⟩ = some (.int .i64 d) := F3kr.out.cell 1
      have fkr1 : (w3).frozen? ⟨w.heap.size, 1, none⟩ = false := F3kr.out.frozen 1
      have pkx0 : (w3).cell? ⟨w.heap.size + 1, 0, none⟩ = some (.bool x.neg) := F3kx.out.cell 0
      have fkx0 : (w3).frozen? ⟨w.heap.size + 1, 0, none⟩ = false := F3kx.out.frozen 0
      have pkx1 : (w3).cell? ⟨w.heap.size + 1, 1, none⟩ = some (.slice A m c) := F3kx.out.cell 1
      have fkx1 : (w3).frozen? ⟨w.heap.size + 1, 1, none⟩ = false := F3kx.out.frozen 1
      have pkx2 : (w3).cell? ⟨w.heap.size + 1, 2, none⟩ = some (.int .i64 x.e) := F3kx.out.cell 2
      have fkx2 : (w3).frozen? ⟨w.heap.size + 1, 2, none⟩ = false := F3kx.out.frozen 2
      go_wp2_with fail
      refine (sign_any x A m c w3 F3x.out VX.out).mono ?_
      rw [HY.out]
      rintro e w4 ⟨rfl, HB4⟩
      have F4x := Lib.hid (F3x.out.belowW HB4.out)
      have F4kr := Lib.hid (F3kr.out.belowW HB4.out)
      have F4kx := Lib.hid (F3kx.out.belowW HB4.out)
      have HL4 := Lib.hid (HL3.out.trans (HB4.out.mono HL3.out.size))
      clear pkr0 fkr0 pkr1 fkr1 pkx0 fkx0 pkx1 fkx1 pkx2 fkx2
      have pkr0 : (w4).cell? ⟨w.heap.size, 0, none⟩ = some (.int .i64 n) := F4kr.out.cell 0
      have fkr0 : (w4).frozen? ⟨w.heap.size, 0, none⟩ = false := F4kr.out.frozen 0
      have pkr1 : (w4).cell? ⟨w.heap.size, 1, none⟩ = some (.int .i64 d) := F4kr.out.cell 1
      have fkr1 : (w4).frozen? ⟨w.heap.size, 1, none⟩ = false := F4kr.out.frozen 1
      have pkx0 : (w4).cell? ⟨w.heap.size + 1, 0, none⟩ = some (.bool x.neg) := F4kx.out.cell 0
      have fkx0 : (w4).frozen? ⟨w.heap.size + 1, 0, none⟩ = false := F4kx.out.frozen 0
      have pkx1 : (w4).cell? ⟨w.heap.size + 1, 1, none⟩ = some (.slice A m c) := F4kx.out.cell 1
      have fkx1 : (w4).frozen? ⟨w.heap.size + 1, 1, none⟩ = false := F4kx.out.frozen 1
      have pkx2 : (w4).cell? ⟨w.heap.size + 1, 2, none⟩ = some (.int .i64 x.e) := F4kx.out.cell 2
      have fkx2 : (w4).frozen? ⟨w.heap.size + 1, 2, none⟩ = false := F4kx.out.frozen 2
      by_cases k1 : y < 0
      · have d1 : decide (y < 0) = true := decide_eq_true k1
        have d0 : decide ((0 : Int) < y) = false := decide_eq_false (by omega)
        have HF := Lib.hid (show cmpRD n d x = 1 by rw [HR.out, SG.out, if_neg (by omega), if_pos k1])
        clear k1
        go_wp2_with fail
        refine bodyPost_ret (v := .tuple #[.int .i64 (1), .int .i64 0]) (by simp [results, Tryz.results36, go_sem]) rfl ?_
        exact ⟨by rw [HF.out], HL4⟩
      · have d1 : decide (y < 0) = false := decide_eq_false k1
        by_cases k2 : (0 : Int) < y
        · have d2 : decide ((0 : Int) < y) = true := decide_eq_true k2
          have HF := Lib.hid (show cmpRD n d x = -1 by rw [HR.out, SG.out, if_pos k2])
          clear k2
          go_wp2_with fail
          refine bodyPost_ret (v := .tuple #[.int .i64 (-1), .int .i64 0]) (by simp [results, Tryz.results36, go_sem]) rfl ?_
          exact ⟨by rw [HF.out], HL4⟩
        · obtain rfl : y = 0 := by omega
          clear k1 k2
          have HF := Lib.hid (show cmpRD n d x = 0 by rw [HR.out, SG.out]; rfl)
          go_wp2_with fail
          refine bodyPost_ret (v := .tuple #[.int .i64 (0), .int .i64 0]) (by simp [results, Tryz.results36, go_sem]) rfl ?_
          exact ⟨by rw [HF.out], HL4⟩
end Go.Proofs.YtnogfceojmnjiaaGreatDoor
