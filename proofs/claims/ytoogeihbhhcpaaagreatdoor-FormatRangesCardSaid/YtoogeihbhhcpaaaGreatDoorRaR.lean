/-
  The walks of dyadic.compare and dyadic.Cmp.
-/
import Derived.Test.YtoogeihbhhcpaaaGreatDoorPkG
import Derived.Test.YtoogeihbhhcpaaaGreatDoorNumEq
set_option linter.unusedVariables false
namespace Go.Fl
open Go.RowKit
theorem below_dr (w : World) : Below w.heap.size w w.drew := below_drewN (Below.refl _ _) 1
end Go.Fl
namespace Go.Fl.Dy
open Go.Fl.Nm
theorem cmpM_range (a b : D) : -1 ≤ cmpM a b ∧ cmpM a b ≤ 1 := cmpN_range _ _
theorem sg_range (a : D) : -1 ≤ sg a ∧ sg a ≤ 1 := by unfold sg; split <;> (try split) <;> omega
theorem sg_ne {a : D} (h : sg a ≠ 0) : a.k ≠ 0 := fun e => h (by unfold sg; rw [if_pos e])
theorem mul_small {x z : Int} (hx : -1 ≤ x ∧ x ≤ 1) (hz : -1 ≤ z ∧ z ≤ 1) : -1 ≤ x * z ∧ x * z ≤ 1 := by
  have h1 : x = -1 ∨ x = 0 ∨ x = 1 := by omega
  rcases h1 with rfl | rfl | rfl <;> omega
theorem blen_shl_le (m k : Nat) : blen (2 ^ k * m) ≤ k + blen m := by
  by_cases h : m = 0
  · subst h; simp [blen_zero]
  · rw [blen_shl k h]; omega
end Go.Fl.Dy
namespace Go.Proofs.YtoogeihbhhcpaaaGreatDoor
open Go.RowKit Go.Fl Go.Fl.Nm Go.Fl.Dy

set_option maxHeartbeats 1000000 in
theorem dcompare_any (a b : D) (A B : Option Addr) (n c m d : Nat) (w : World) (ha : Sl w A n c (limbs a.k)) (hb : Sl w B m d (limbs b.k)) (va : vld a) (vb : vld b) (za : a.k ≠ 0) (zb : b.k ≠ 0) :
    Calls Tryz.prog 95 #[.agg #[.bool a.neg, .slice A n c, .int .i64 a.e], .agg #[.bool b.neg, .slice B m d, .int .i64 b.e]] w (Ret (.int .i64 (cmpM a b)) w) := by
  have HA := Lib.hid ha
  have HB := Lib.hid hb
  have VA := Lib.hid va
  have VB := Lib.hid vb
  have ZA := Lib.hid za
  have ZB := Lib.hid zb
  have hba := vld_bits va
  have hbb := vld_bits vb
  have hea := vld_ebd va
  have heb := vld_ebd vb
  have LA := Lib.hid (show n ≤ 256 by rw [← ha.len]; exact vld_len va)
  have LB := Lib.hid (show m ≤ 256 by rw [← hb.len]; exact vld_len vb)
  obtain ⟨x, hx⟩ : ∃ x, (blen a.k : Int) + a.e = x := ⟨_, rfl⟩
  obtain ⟨y, hy⟩ : ∃ y, (blen b.k : Int) + b.e = y := ⟨_, rfl⟩
  have HX := Lib.hid hx
  have HY := Lib.hid hy
  have KLT := Lib.hid (show x < y → cmpM a b = -1 from fun h => cmpM_lt va vb za zb (by omega))
  have KGT := Lib.hid (show y < x → cmpM a b = 1 from fun h => cmpM_gt va vb za zb (by omega))
  have x1 : -20000 ≤ x ∧ x ≤ 30000 := by omega
  have y1 : -20000 ≤ y ∧ y ≤ 30000 := by omega
  obtain ⟨e0, he0⟩ : ∃ e0, min a.e b.e = e0 := ⟨_, rfl⟩
  have he1 : e0 ≤ a.e ∧ e0 ≤ b.e := by omega
  have HT := Lib.hid (show x = y → a.e - e0 ≤ 4096 ∧ b.e - e0 ≤ 4096 from fun h => by omega)
  have HE0 := Lib.hid he0
  clear ha hb va vb za zb hx hy he0 hba hbb
  go_enter Tryz.func95, Tryz.ntmps95
  go_wp2_with fail
  obtain ⟨w1, hw⟩ : ∃ z9 : World, z9 = ((w.alloc (.cells #[.bool a.neg, .slice A n c, .int .i64 a.e] 40)).alloc (.cells #[.bool b.neg, .slice B m d, .int .i64 b.e] 40)) := ⟨_, rfl⟩
  have HB1 := Lib.hid (show Below w.heap.size w w1 by rw [hw]; exact below_a2 _ _ _)
  have F1a := Lib.hid (HA.out.belowW HB1.out)
  have F1b := Lib.hid (HB.out.belowW HB1.out)
  have F1ka := Lib.hid (show Blk w1 (w.heap.size) 40 #[.bool a.neg, .slice A n c, .int .i64 a.e] by rw [hw]; exact (Blk.new _ _ _).alloc _)
  have F1kb := Lib.hid (show Blk w1 (w.heap.size + 1) 40 #[.bool b.neg, .slice B m d, .int .i64 b.e] by rw [hw]; exact Blk.new1 _ _ _ _)
  rw [← hw]
  clear hw
  have pka0 : (w1).cell? ⟨w.heap.size, 0, none⟩ = some (.bool a.neg) := F1ka.out.cell 0
  have fka0 : (w1).frozen? ⟨w.heap.size, 0, none⟩ = false := F1ka.out.frozen 0
  have pka1 : (w1).cell? ⟨w.heap.size, 1, none⟩ = some (.slice A n c) := F1ka.out.cell 1
  have fka1 : (w1).frozen? ⟨w.heap.size, 1, none⟩ = false := F1ka.out.frozen 1
  have pka2 : (w1).cell? ⟨w.heap.size, 2, none⟩ = some (.int .i64 a.e) := F1ka.out.cell 2
  have fka2 : (w1).frozen? ⟨w.heap.size, 2, none⟩ = false := F1ka.out.frozen 2
  have pkb0 : (w1).cell? ⟨w.heap.size + 1, 0, none⟩ = some (.bool b.neg) := F1kb.out.cell 0
  have fkb0 : (w1).frozen? ⟨w.heap.size + 1, 0, none⟩ = false := F1kb.out.frozen 0
  have pkb1 : (w1).cell? ⟨w.heap.size + 1, 1, none⟩ = some (.slice B m d) := F1kb.out.cell 1
  have fkb1 : (w1).frozen? ⟨w.heap.size + 1, 1, none⟩ = false := F1kb.out.frozen 1
  have pkb2 : (w1).cell? ⟨w.heap.size + 1, 2, none⟩ = some (.int .i64 b.e) := F1kb.out.cell 2
  have fkb2 : (w1).frozen? ⟨w.heap.size + 1, 2, none⟩ = false := F1kb.out.frozen 2
  go_wp2_with fail
  have HR2 := Lib.hid (below_dr w1)
  have R2a := Lib.hid (F1a.out.belowW HR2.out)
  have R2b := Lib.hid (F1b.out.belowW HR2.out)
  have R2ka := Lib.hid (F1ka.out.belowW HR2.out)
  have R2kb := Lib.hid (F1kb.out.belowW HR2.out)
  have c2ka0 : w1.drew.cell? ⟨w.heap.size, 0, none⟩ = some (.bool a.neg) := R2ka.out.cell 0
  have c2ka1 : w1.drew.cell? ⟨w.heap.size, 1, none⟩ = some (.slice A n c) := R2ka.out.cell 1
  have c2ka2 : w1.drew.cell? ⟨w.heap.size, 2, none⟩ = some (.int .i64 a.e) := R2ka.out.cell 2
  have c2kb0 : w1.drew.cell? ⟨w.heap.size + 1, 0, none⟩ = some (.bool b.neg) := R2kb.out.cell 0
  have c2kb1 : w1.drew.cell? ⟨w.heap.size + 1, 1, none⟩ = some (.slice B m d) := R2kb.out.cell 1
  have c2kb2 : w1.drew.cell? ⟨w.heap.size + 1, 2, none⟩ = some (.int .i64 b.e) := R2kb.out.cell 2
  go_region_held3 (fun w' => w'.cell? ⟨w.heap.size, 0, none⟩ = some (.bool a.neg) ∧ w'.cell? ⟨w.heap.size, 1, none⟩ = some (.slice A n c) ∧ w'.cell? ⟨w.heap.size, 2, none⟩ = some (.int .i64 a.e) ∧ w'.cell? ⟨w.heap.size + 1, 0, none⟩ = some (.bool b.neg) ∧ w'.cell? ⟨w.heap.size + 1, 1, none⟩ = some (.slice B m d) ∧ w'.cell? ⟨w.heap.size + 1, 2, none⟩ = some (.int .i64 b.e)) ((with_reducible refine ⟨?_, ?_, ?_, ?_, ?_, ?_⟩) <;> (with_reducible assumption)) (first
    | (go_at_call_of 96 (Value.agg #[.bool a.neg, .slice A n c, .int .i64 a.e])
       (with_reducible refine (top_any a A n c _ R2a.out VA.out ZA.out).mono ?_)
       rw [HX.out]
       rintro e w3 ⟨rfl, HC3⟩
       have R3a := Lib.hid (R2a.out.belowW HC3.out)
       have R3b := Lib.hid (R2b.out.belowW HC3.out)
       have R3ka := Lib.hid (R2ka.out.belowW HC3.out)
       have R3kb := Lib.hid (R2kb.out.belowW HC3.out)
       have HR3 := Lib.hid (HR2.out.trans (HC3.out.mono HR2.out.size))
       have c3ka0 : w3.cell? ⟨w.heap.size, 0, none⟩ = some (.bool a.neg) := R3ka.out.cell 0
       have c3ka1 : w3.cell? ⟨w.heap.size, 1, none⟩ = some (.slice A n c) := R3ka.out.cell 1
       have c3ka2 : w3.cell? ⟨w.heap.size, 2, none⟩ = some (.int .i64 a.e) := R3ka.out.cell 2
       have c3kb0 : w3.cell? ⟨w.heap.size + 1, 0, none⟩ = some (.bool b.neg) := R3kb.out.cell 0
       have c3kb1 : w3.cell? ⟨w.heap.size + 1, 1, none⟩ = some (.slice B m d) := R3kb.out.cell 1
       have c3kb2 : w3.cell? ⟨w.heap.size + 1, 2, none⟩ = some (.int .i64 b.e) := R3kb.out.cell 2)
    | (go_at_call_of 96 (Value.agg #[.bool b.neg, .slice B m d, .int .i64 b.e])
       (with_reducible refine (top_any b B m d _ R3b.out VB.out ZB.out).mono ?_)
       rw [HY.out]
       rintro e w4 ⟨rfl, HC4⟩
       have R4a := Lib.hid (R3a.out.belowW HC4.out)
       have R4b := Lib.hid (R3b.out.belowW HC4.out)
       have R4ka := Lib.hid (R3ka.out.belowW HC4.out)
       have R4kb := Lib.hid (R3kb.out.belowW HC4.out)
       have HR4 := Lib.hid (HR3.out.trans (HC4.out.mono HR3.out.size))
       have c4ka0 : w4.cell? ⟨w.heap.size, 0, none⟩ = some (.bool a.neg) := R4ka.out.cell 0
       have c4ka1 : w4.cell? ⟨w.heap.size, 1, none⟩ = some (.slice A n c) := R4ka.out.cell 1
       have c4ka2 : w4.cell? ⟨w.heap.size, 2, none⟩ = some (.int .i64 a.e) := R4ka.out.cell 2
       have c4kb0 : w4.cell? ⟨w.heap.size + 1, 0, none⟩ = some (.bool b.neg) := R4kb.out.cell 0
       have c4kb1 : w4.cell? ⟨w.heap.size + 1, 1, none⟩ = some (.slice B m d) := R4kb.out.cell 1
       have c4kb2 : w4.cell? ⟨w.heap.size + 1, 2, none⟩ = some (.int .i64 b.e) := R4kb.out.cell 2))
  have HL4 := Lib.hid (HB1.out.trans (HR4.out.mono HB1.out.size))
  by_cases h1 : x < y
  · have d1 : decide (x < y) = true := decide_eq_true h1
    have HF := Lib.hid (KLT.out h1)
    clear h1
    go_wp2_with fail
    go_ret
    exact ⟨ret_int HF.out.symm, HL4⟩
  · have d1 : decide (x < y) = false := decide_eq_false h1
    by_cases h2 : y < x
    · have d2 : decide (y < x) = true := decide_eq_true h2
      have HF := Lib.hid (KGT.out h2)
      clear h1 h2
      go_wp2_with fail
      go_ret
      exact ⟨ret_int HF.out.symm, HL4⟩
    · have d2 : decide (y < x) = false := decide_eq_false h2
      have HT2 := HT.out (by omega)
      clear h1 h2
      have em : min a.e b.e = e0 := HE0.out
      have sa : IntKind.i64.wrap (a.e - e0) = a.e - e0 := IntWalk.i64_in _ (by omega)
      have sb : IntKind.i64.wrap (b.e - e0) = b.e - e0 := IntWalk.i64_in _ (by omega)
      have ja : 0 ≤ a.e - e0 := by omega
      have ja2 : a.e - e0 ≤ 65536 := by omega
      have jb : 0 ≤ b.e - e0 := by omega
      have jb2 : b.e - e0 ≤ 65536 := by omega
      have BA := Lib.hid (show blen (2 ^ (a.e - e0).toNat * val (limbs a.k)) ≤ 8192 by rw [val_limbs]; have := blen_shl_le a.k (a.e - e0).toNat; have := vld_bits VA.out; omega)
      have BBH := Lib.hid (show blen (2 ^ (b.e - e0).toNat * val (limbs b.k)) ≤ 8192 by rw [val_limbs]; have := blen_shl_le b.k (b.e - e0).toNat; have := vld_bits VB.out; omega)
      have HF := Lib.hid (show cmpN (2 ^ (a.e - e0).toNat * a.k) (2 ^ (b.e - e0).toNat * b.k) = cmpM a b by unfold cmpM; rw [em])
      go_wp2_with fail
      have HR5 := Lib.hid (below_dr w4)
      have R5a := Lib.hid (R4a.out.belowW HR5.out)
      have R5b := Lib.hid (R4b.out.belowW HR5.out)
      have R5ka := Lib.hid (R4ka.out.belowW HR5.out)
      have R5kb := Lib.hid (R4kb.out.belowW HR5.out)
      have c5ka0 : w4.drew.cell? ⟨w.heap.size, 0, none⟩ = some (.bool a.neg) := R5ka.out.cell 0
      have c5ka1 : w4.drew.cell? ⟨w.heap.size, 1, none⟩ = some (.slice A n c) := R5ka.out.cell 1
      have c5ka2 : w4.drew.cell? ⟨w.heap.size, 2, none⟩ = some (.int .i64 a.e) := R5ka.out.cell 2
      have c5kb0 : w4.drew.cell? ⟨w.heap.size + 1, 0, none⟩ = some (.bool b.neg) := R5kb.out.cell 0
      have c5kb1 : w4.drew.cell? ⟨w.heap.size + 1, 1, none⟩ = some (.slice B m d) := R5kb.out.cell 1
      have c5kb2 : w4.drew.cell? ⟨w.heap.size + 1, 2, none⟩ = some (.int .i64 b.e) := R5kb.out.cell 2
      go_region_held3 (fun w' => w'.cell? ⟨w.heap.size, 0, none⟩ = some (.bool a.neg) ∧ w'.cell? ⟨w.heap.size, 1, none⟩ = some (.slice A n c) ∧ w'.cell? ⟨w.heap.size, 2, none⟩ = some (.int .i64 a.e) ∧ w'.cell? ⟨w.heap.size + 1, 0, none⟩ = some (.bool b.neg) ∧ w'.cell? ⟨w.heap.size + 1, 1, none⟩ = some (.slice B m d) ∧ w'.cell? ⟨w.heap.size + 1, 2, none⟩ = some (.int .i64 b.e)) ((with_reducible refine ⟨?_, ?_, ?_, ?_, ?_, ?_⟩) <;> (with_reducible assumption)) (first
        | (go_at_call_of 137 (Value.slice A n c)
           (with_reducible refine (shifted_any A n c _ (a.e - e0) _ R5a.out LA.out ja ja2 BA.out).mono ?_)
           rw [val_limbs]
           rintro e w6 ⟨P, p, rfl, HP, HC6⟩
           have R6a := Lib.hid (R5a.out.belowW HC6.out)
           have R6b := Lib.hid (R5b.out.belowW HC6.out)
           have R6ka := Lib.hid (R5ka.out.belowW HC6.out)
           have R6kb := Lib.hid (R5kb.out.belowW HC6.out)
           have HR6 := Lib.hid (HR5.out.trans (HC6.out.mono HR5.out.size))
           have R6p := Lib.hid (HP.out)
           have c6ka0 : w6.cell? ⟨w.heap.size, 0, none⟩ = some (.bool a.neg) := R6ka.out.cell 0
           have c6ka1 : w6.cell? ⟨w.heap.size, 1, none⟩ = some (.slice A n c) := R6ka.out.cell 1
           have c6ka2 : w6.cell? ⟨w.heap.size, 2, none⟩ = some (.int .i64 a.e) := R6ka.out.cell 2
           have c6kb0 : w6.cell? ⟨w.heap.size + 1, 0, none⟩ = some (.bool b.neg) := R6kb.out.cell 0
           have c6kb1 : w6.cell? ⟨w.heap.size + 1, 1, none⟩ = some (.slice B m d) := R6kb.out.cell 1
           have c6kb2 : w6.cell? ⟨w.heap.size + 1, 2, none⟩ = some (.int .i64 b.e) := R6kb.out.cell 2)
        | (go_at_call_of 137 (Value.slice B m d)
           (with_reducible refine (shifted_any B m d _ (b.e - e0) _ R6b.out LB.out jb jb2 BBH.out).mono ?_)
           rw [val_limbs]
           rintro e w7 ⟨Q, q, rfl, HQ, HC7⟩
           have R7a := Lib.hid (R6a.out.belowW HC7.out)
           have R7b := Lib.hid (R6b.out.belowW HC7.out)
           have R7ka := Lib.hid (R6ka.out.belowW HC7.out)
           have R7kb := Lib.hid (R6kb.out.belowW HC7.out)
           have R7p := Lib.hid (R6p.out.belowW HC7.out)
           have HR7 := Lib.hid (HR6.out.trans (HC7.out.mono HR6.out.size))
           have R7q := Lib.hid (HQ.out)
           have c7ka0 : w7.cell? ⟨w.heap.size, 0, none⟩ = some (.bool a.neg) := R7ka.out.cell 0
           have c7ka1 : w7.cell? ⟨w.heap.size, 1, none⟩ = some (.slice A n c) := R7ka.out.cell 1
           have c7ka2 : w7.cell? ⟨w.heap.size, 2, none⟩ = some (.int .i64 a.e) := R7ka.out.cell 2
           have c7kb0 : w7.cell? ⟨w.heap.size + 1, 0, none⟩ = some (.bool b.neg) := R7kb.out.cell 0
           have c7kb1 : w7.cell? ⟨w.heap.size + 1, 1, none⟩ = some (.slice B m d) := R7kb.out.cell 1
           have c7kb2 : w7.cell? ⟨w.heap.size + 1, 2, none⟩ = some (.int .i64 b.e) := R7kb.out.cell 2)
        | (go_at_call 103
           (with_reducible refine (cmp_any P Q p p q q _ _ _ R7p.out R7q.out).mono ?_)
           rw [val_limbs, val_limbs, HF.out]
           rintro e w8 ⟨rfl, r, hr⟩
           have HC8 := Lib.hid (show Below w7.heap.size w7 w8 by rw [hr]; exact below_drewN (Below.refl _ _) _)
           clear hr
           have R8a := Lib.hid (R7a.out.belowW HC8.out)
           have R8b := Lib.hid (R7b.out.belowW HC8.out)
           have R8ka := Lib.hid (R7ka.out.belowW HC8.out)
           have R8kb := Lib.hid (R7kb.out.belowW HC8.out)
           have R8p := Lib.hid (R7p.out.belowW HC8.out)
           have R8q := Lib.hid (R7q.out.belowW HC8.out)
           have HR8 := Lib.hid (HR7.out.trans (HC8.out.mono HR7.out.size))
           have c8ka0 : w8.cell? ⟨w.heap.size, 0, none⟩ = some (.bool a.neg) := R8ka.out.cell 0
           have c8ka1 : w8.cell? ⟨w.heap.size, 1, none⟩ = some (.slice A n c) := R8ka.out.cell 1
           have c8ka2 : w8.cell? ⟨w.heap.size, 2, none⟩ = some (.int .i64 a.e) := R8ka.out.cell 2
           have c8kb0 : w8.cell? ⟨w.heap.size + 1, 0, none⟩ = some (.bool b.neg) := R8kb.out.cell 0
           have c8kb1 : w8.cell? ⟨w.heap.size + 1, 1, none⟩ = some (.slice B m d) := R8kb.out.cell 1
           have c8kb2 : w8.cell? ⟨w.heap.size + 1, 2, none⟩ = some (.int .i64 b.e) := R8kb.out.cell 2))
      have HL8 := Lib.hid (HL4.out.trans (HR8.out.mono HL4.out.size))
      go_wp2_with fail
      go_ret
      exact ⟨rfl, HL8⟩

set_option maxHeartbeats 1000000 in
theorem dcmp_any (a b : D) (A B : Option Addr) (n c m d : Nat) (w : World) (ha : Sl w A n c (limbs a.k)) (hb : Sl w B m d (limbs b.k)) (va : vld a) (vb : vld b) :
    Calls Tryz.prog 64 #[.agg #[.bool a.neg, .slice A n c, .int .i64 a.e], .agg #[.bool b.neg, .slice B m d, .int .i64 b.e]] w (Ret (.int .i64 (cmpD a b)) w) := by
  have HA := Lib.hid ha
  have HB := Lib.hid hb
  have VA := Lib.hid va
  have VB := Lib.hid vb
  obtain ⟨x, hx⟩ : ∃ x, sg a = x := ⟨_, rfl⟩
  obtain ⟨y, hy⟩ : ∃ y, sg b = y := ⟨_, rfl⟩
  have x1 : -1 ≤ x ∧ x ≤ 1 := by rw [← hx]; exact sg_range a
  have y1 : -1 ≤ y ∧ y ≤ 1 := by rw [← hy]; exact sg_range b
  obtain ⟨z, hz⟩ : ∃ z, cmpM a b = z := ⟨_, rfl⟩
  have z1 : -1 ≤ z ∧ z ≤ 1 := by rw [← hz]; exact cmpM_range a b
  have HX := Lib.hid hx
  have HY := Lib.hid hy
  have HZ := Lib.hid hz
  have HR := Lib.hid (show cmpD a b = if x < y then -1 else if y < x then 1 else if x = 0 then 0 else x * z by unfold cmpD; rw [hx, hy, hz])
  have KZ := Lib.hid (show x ≠ 0 → a.k ≠ 0 by rw [← hx]; exact sg_ne)
  have KW := Lib.hid (show y ≠ 0 → b.k ≠ 0 by rw [← hy]; exact sg_ne)
  clear ha hb va vb hx hy hz
  go_enter Tryz.func64, Tryz.ntmps64
  go_wp2_with fail
  obtain ⟨w1, hw⟩ : ∃ z9 : World, z9 = ((w.alloc (.cells #[.bool a.neg, .slice A n c, .int .i64 a.e] 40)).alloc (.cells #[.bool b.neg, .slice B m d, .int .i64 b.e] 40)) := ⟨_, rfl⟩
  have HB1 := Lib.hid (show Below w.heap.size w w1 by rw [hw]; exact below_a2 _ _ _)
  have F1a := Lib.hid (HA.out.belowW HB1.out)
  have F1b := Lib.hid (HB.out.belowW HB1.out)
  have F1ka := Lib.hid (show Blk w1 (w.heap.size) 40 #[.bool a.neg, .slice A n c, .int .i64 a.e] by rw [hw]; exact (Blk.new _ _ _).alloc _)
  have F1kb := Lib.hid (show Blk w1 (w.heap.size + 1) 40 #[.bool b.neg, .slice B m d, .int .i64 b.e] by rw [hw]; exact Blk.new1 _ _ _ _)
  rw [← hw]
  clear hw
  have pka0 : (w1).cell? ⟨w.heap.size, 0, none⟩ = some (.bool a.neg) := F1ka.out.cell 0
  have fka0 : (w1).frozen? ⟨w.heap.size, 0, none⟩ = false := F1ka.out.frozen 0
  have pka1 : (w1).cell? ⟨w.heap.size, 1, none⟩ = some (.slice A n c) := F1ka.out.cell 1
  have fka1 : (w1).frozen? ⟨w.heap.size, 1, none⟩ = false := F1ka.out.frozen 1
  have pka2 : (w1).cell? ⟨w.heap.size, 2, none⟩ = some (.int .i64 a.e) := F1ka.out.cell 2
  have fka2 : (w1).frozen? ⟨w.heap.size, 2, none⟩ = false := F1ka.out.frozen 2
  have pkb0 : (w1).cell? ⟨w.heap.size + 1, 0, none⟩ = some (.bool b.neg) := F1kb.out.cell 0
  have fkb0 : (w1).frozen? ⟨w.heap.size + 1, 0, none⟩ = false := F1kb.out.frozen 0
  have pkb1 : (w1).cell? ⟨w.heap.size + 1, 1, none⟩ = some (.slice B m d) := F1kb.out.cell 1
  have fkb1 : (w1).frozen? ⟨w.heap.size + 1, 1, none⟩ = false := F1kb.out.frozen 1
  have pkb2 : (w1).cell? ⟨w.heap.size + 1, 2, none⟩ = some (.int .i64 b.e) := F1kb.out.cell 2
  have fkb2 : (w1).frozen? ⟨w.heap.size + 1, 2, none⟩ = false := F1kb.out.frozen 2
  go_wp2_with fail
  refine (valid_yes a A n c w1 F1a.out VA.out).mono ?_
  rintro e w2 ⟨rfl, HB2⟩
  have F2a := Lib.hid (F1a.out.belowW HB2.out)
  have F2b := Lib.hid (F1b.out.belowW HB2.out)
  have F2ka := Lib.hid (F1ka.out.belowW HB2.out)
  have F2kb := Lib.hid (F1kb.out.belowW HB2.out)
  have HL2 := Lib.hid (HB1.out.trans (HB2.out.mono HB1.out.size))
  clear pka0 fka0 pka1 fka1 pka2 fka2 pkb0 fkb0 pkb1 fkb1 pkb2 fkb2
  have pka0 : (w2).cell? ⟨w.heap.size, 0, none⟩ = some (.bool a.neg) := F2ka.out.cell 0
  have fka0 : (w2).frozen? ⟨w.heap.size, 0, none⟩ = false := F2ka.out.frozen 0
  have pka1 : (w2).cell? ⟨w.heap.size, 1, none⟩ = some (.slice A n c) := F2ka.out.cell 1
  have fka1 : (w2).frozen? ⟨w.heap.size, 1, none⟩ = false := F2ka.out.frozen 1
  have pka2 : (w2).cell? ⟨w.heap.size, 2, none⟩ = some (.int .i64 a.e) := F2ka.out.cell 2
  have fka2 : (w2).frozen? ⟨w.heap.size, 2, none⟩ = false := F2ka.out.frozen 2
  have pkb0 : (w2).cell? ⟨w.heap.size + 1, 0, none⟩ = some (.bool b.neg) := F2kb.out.cell 0
  have fkb0 : (w2).frozen? ⟨w.heap.size + 1, 0, none⟩ = false := F2kb.out.frozen 0
  have pkb1 : (w2).cell? ⟨w.heap.size + 1, 1, none⟩ = some (.slice B m d) := F2kb.out.cell 1
  have fkb1 : (w2).frozen? ⟨w.heap.size + 1, 1, none⟩ = false := F2kb.out.frozen 1
  have pkb2 : (w2).cell? ⟨w.heap.size + 1, 2, none⟩ = some (.int .i64 b.e) := F2kb.out.cell 2
  have fkb2 : (w2).frozen? ⟨w.heap.size + 1, 2, none⟩ = false := F2kb.out.frozen 2
  go_wp2_with fail
  refine (valid_yes b B m d w2 F2b.out VB.out).mono ?_
  rintro e w3 ⟨rfl, HB3⟩
  have F3a := Lib.hid (F2a.out.belowW HB3.out)
  have F3b := Lib.hid (F2b.out.belowW HB3.out)
  have F3ka := Lib.hid (F2ka.out.belowW HB3.out)
  have F3kb := Lib.hid (F2kb.out.belowW HB3.out)
  have HL3 := Lib.hid (HL2.out.trans (HB3.out.mono HL2.out.size))
  clear pka0 fka0 pka1 fka1 pka2 fka2 pkb0 fkb0 pkb1 fkb1 pkb2 fkb2
  have pka0 : (w3).cell? ⟨w.heap.size, 0, none⟩ = some (.bool a.neg) := F3ka.out.cell 0
  have fka0 : (w3).frozen? ⟨w.heap.size, 0, none⟩ = false := F3ka.out.frozen 0
  have pka1 : (w3).cell? ⟨w.heap.size, 1, none⟩ = some (.slice A n c) := F3ka.out.cell 1
  have fka1 : (w3).frozen? ⟨w.heap.size, 1, none⟩ = false := F3ka.out.frozen 1
  have pka2 : (w3).cell? ⟨w.heap.size, 2, none⟩ = some (.int .i64 a.e) := F3ka.out.cell 2
  have fka2 : (w3).frozen? ⟨w.heap.size, 2, none⟩ = false := F3ka.out.frozen 2
  have pkb0 : (w3).cell? ⟨w.heap.size + 1, 0, none⟩ = some (.bool b.neg) := F3kb.out.cell 0
  have fkb0 : (w3).frozen? ⟨w.heap.size + 1, 0, none⟩ = false := F3kb.out.frozen 0
  have pkb1 : (w3).cell? ⟨w.heap.size + 1, 1, none⟩ = some (.slice B m d) := F3kb.out.cell 1
  have fkb1 : (w3).frozen? ⟨w.heap.size + 1, 1, none⟩ = false := F3kb.out.frozen 1
  have pkb2 : (w3).cell? ⟨w.heap.size + 1, 2, none⟩ = some (.int .i64 b.e) := F3kb.out.cell 2
  have fkb2 : (w3).frozen? ⟨w.heap.size + 1, 2, none⟩ = false := F3kb.out.frozen 2
  go_wp2_with fail
  have HR4 := Lib.hid (below_dr w3)
  have R4a := Lib.hid (F3a.out.belowW HR4.out)
  have R4b := Lib.hid (F3b.out.belowW HR4.out)
  have R4ka := Lib.hid (F3ka.out.belowW HR4.out)
  have R4kb := Lib.hid (F3kb.out.belowW HR4.out)
  have c4ka0 : w3.drew.cell? ⟨w.heap.size, 0, none⟩ = some (.bool a.neg) := R4ka.out.cell 0
  have c4ka1 : w3.drew.cell? ⟨w.heap.size, 1, none⟩ = some (.slice A n c) := R4ka.out.cell 1
  have c4ka2 : w3.drew.cell? ⟨w.heap.size, 2, none⟩ = some (.int .i64 a.e) := R4ka.out.cell 2
  have c4kb0 : w3.drew.cell? ⟨w.heap.size + 1, 0, none⟩ = some (.bool b.neg) := R4kb.out.cell 0
  have c4kb1 : w3.drew.cell? ⟨w.heap.size + 1, 1, none⟩ = some (.slice B m d) := R4kb.out.cell 1
  have c4kb2 : w3.drew.cell? ⟨w.heap.size + 1, 2, none⟩ = some (.int .i64 b.e) := R4kb.out.cell 2
  go_region_held3 (fun w' => w'.cell? ⟨w.heap.size, 0, none⟩ = some (.bool a.neg) ∧ w'.cell? ⟨w.heap.size, 1, none⟩ = some (.slice A n c) ∧ w'.cell? ⟨w.heap.size, 2, none⟩ = some (.int .i64 a.e) ∧ w'.cell? ⟨w.heap.size + 1, 0, none⟩ = some (.bool b.neg) ∧ w'.cell? ⟨w.heap.size + 1, 1, none⟩ = some (.slice B m d) ∧ w'.cell? ⟨w.heap.size + 1, 2, none⟩ = some (.int .i64 b.e)) ((with_reducible refine ⟨?_, ?_, ?_, ?_, ?_, ?_⟩) <;> (with_reducible assumption)) (first
    | (go_at_call_of 94 (Value.agg #[.bool a.neg, .slice A n c, .int .i64 a.e])
       (with_reducible refine (sign_any a A n c _ R4a.out VA.out).mono ?_)
       rw [HX.out]
       rintro e w5 ⟨rfl, HC5⟩
       have R5a := Lib.hid (R4a.out.belowW HC5.out)
       have R5b := Lib.hid (R4b.out.belowW HC5.out)
       have R5ka := Lib.hid (R4ka.out.belowW HC5.out)
       have R5kb := Lib.hid (R4kb.out.belowW HC5.out)
       have HR5 := Lib.hid (HR4.out.trans (HC5.out.mono HR4.out.size))
       have c5ka0 : w5.cell? ⟨w.heap.size, 0, none⟩ = some (.bool a.neg) := R5ka.out.cell 0
       have c5ka1 : w5.cell? ⟨w.heap.size, 1, none⟩ = some (.slice A n c) := R5ka.out.cell 1
       have c5ka2 : w5.cell? ⟨w.heap.size, 2, none⟩ = some (.int .i64 a.e) := R5ka.out.cell 2
       have c5kb0 : w5.cell? ⟨w.heap.size + 1, 0, none⟩ = some (.bool b.neg) := R5kb.out.cell 0
       have c5kb1 : w5.cell? ⟨w.heap.size + 1, 1, none⟩ = some (.slice B m d) := R5kb.out.cell 1
       have c5kb2 : w5.cell? ⟨w.heap.size + 1, 2, none⟩ = some (.int .i64 b.e) := R5kb.out.cell 2)
    | (go_at_call_of 94 (Value.agg #[.bool b.neg, .slice B m d, .int .i64 b.e])
       (with_reducible refine (sign_any b B m d _ R5b.out VB.out).mono ?_)
       rw [HY.out]
       rintro e w6 ⟨rfl, HC6⟩
       have R6a := Lib.hid (R5a.out.belowW HC6.out)
       have R6b := Lib.hid (R5b.out.belowW HC6.out)
       have R6ka := Lib.hid (R5ka.out.belowW HC6.out)
       have R6kb := Lib.hid (R5kb.out.belowW HC6.out)
       have HR6 := Lib.hid (HR5.out.trans (HC6.out.mono HR5.out.size))
       have c6ka0 : w6.cell? ⟨w.heap.size, 0, none⟩ = some (.bool a.neg) := R6ka.out.cell 0
       have c6ka1 : w6.cell? ⟨w.heap.size, 1, none⟩ = some (.slice A n c) := R6ka.out.cell 1
       have c6ka2 : w6.cell? ⟨w.heap.size, 2, none⟩ = some (.int .i64 a.e) := R6ka.out.cell 2
       have c6kb0 : w6.cell? ⟨w.heap.size + 1, 0, none⟩ = some (.bool b.neg) := R6kb.out.cell 0
       have c6kb1 : w6.cell? ⟨w.heap.size + 1, 1, none⟩ = some (.slice B m d) := R6kb.out.cell 1
       have c6kb2 : w6.cell? ⟨w.heap.size + 1, 2, none⟩ = some (.int .i64 b.e) := R6kb.out.cell 2))
  have HL6 := Lib.hid (HL3.out.trans (HR6.out.mono HL3.out.size))
  clear pka0 fka0 pka1 fka1 pka2 fka2 pkb0 fkb0 pkb1 fkb1 pkb2 fkb2
  have pka0 : (w6).cell? ⟨w.heap.size, 0, none⟩ = some (.bool a.neg) := R6ka.out.cell 0
  have fka0 : (w6).frozen? ⟨w.heap.size, 0, none⟩ = false := R6ka.out.frozen 0
  have pka1 : (w6).cell? ⟨w.heap.size, 1, none⟩ = some (.slice A n c) := R6ka.out.cell 1
  have fka1 : (w6).frozen? ⟨w.heap.size, 1, none⟩ = false := R6ka.out.frozen 1
  have pka2 : (w6).cell? ⟨w.heap.size, 2, none⟩ = some (.int .i64 a.e) := R6ka.out.cell 2
  have fka2 : (w6).frozen? ⟨w.heap.size, 2, none⟩ = false := R6ka.out.frozen 2
  have pkb0 : (w6).cell? ⟨w.heap.size + 1, 0, none⟩ = some (.bool b.neg) := R6kb.out.cell 0
  have fkb0 : (w6).frozen? ⟨w.heap.size + 1, 0, none⟩ = false := R6kb.out.frozen 0
  have pkb1 : (w6).cell? ⟨w.heap.size + 1, 1, none⟩ = some (.slice B m d) := R6kb.out.cell 1
  have fkb1 : (w6).frozen? ⟨w.heap.size + 1, 1, none⟩ = false := R6kb.out.frozen 1
  have pkb2 : (w6).cell? ⟨w.heap.size + 1, 2, none⟩ = some (.int .i64 b.e) := R6kb.out.cell 2
  have fkb2 : (w6).frozen? ⟨w.heap.size + 1, 2, none⟩ = false := R6kb.out.frozen 2
  by_cases h1 : x < y
  · have d1 : decide (x < y) = true := decide_eq_true h1
    have HF := Lib.hid (show cmpD a b = -1 by rw [HR.out, if_pos h1])
    clear h1
    go_wp2_with fail
    go_ret
    exact ⟨ret_int HF.out.symm, HL6⟩
  · have d1 : decide (x < y) = false := decide_eq_false h1
    by_cases h2 : y < x
    · have d2 : decide (y < x) = true := decide_eq_true h2
      have HF := Lib.hid (show cmpD a b = 1 by rw [HR.out, if_neg h1, if_pos h2])
      clear h1 h2
      go_wp2_with fail
      go_ret
      exact ⟨ret_int HF.out.symm, HL6⟩
    · have d2 : decide (y < x) = false := decide_eq_false h2
      by_cases h3 : x = 0
      · have HF := Lib.hid (show cmpD a b = 0 by rw [HR.out, if_neg h1, if_neg h2, if_pos h3])
        clear h1 h2
        subst h3
        go_wp2_with fail
        go_ret
        exact ⟨ret_int HF.out.symm, HL6⟩
      · have d3 : (x == 0) = false := by rw [beq_eq_false_iff_ne]; exact h3
        have HF := Lib.hid (show x * z = cmpD a b by rw [HR.out, if_neg h1, if_neg h2, if_neg h3])
        have ZA := Lib.hid (KZ.out h3)
        have ZB := Lib.hid (KW.out (by omega))
        have sz : IntKind.i64.wrap (x * z) = x * z := IntWalk.i64_in _ (by have h := mul_small x1 z1; omega)
        clear h1 h2 h3
        go_wp2_with fail
        refine (dcompare_any a b A B n c m d w6 R6a.out R6b.out VA.out VB.out ZA.out ZB.out).mono ?_
        rw [HZ.out]
        rintro e w7 ⟨rfl, HB7⟩
        have F7a := Lib.hid (R6a.out.belowW HB7.out)
        have F7b := Lib.hid (R6b.out.belowW HB7.out)
        have F7ka := Lib.hid (R6ka.out.belowW HB7.out)
        have F7kb := Lib.hid (R6kb.out.belowW HB7.out)
        have HL7 := Lib.hid (HL6.out.trans (HB7.out.mono HL6.out.size))
        go_wp2_with fail
        go_ret
        exact ⟨ret_int HF.out, HL7⟩
end Go.Proofs.YtoogeihbhhcpaaaGreatDoor
