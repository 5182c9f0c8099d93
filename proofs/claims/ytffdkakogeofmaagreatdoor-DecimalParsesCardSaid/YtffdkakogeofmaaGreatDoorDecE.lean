/-
  The walks of decimal.above and rounded.
-/
import Derived.Test.YtffdkakogeofmaaGreatDoorDecD
set_option linter.unusedVariables false
namespace Go.Proofs.YtffdkakogeofmaaGreatDoor
open Go.RowKit Go.Fl Go.Fl.Nm Go.Fl.Dy
/-- Whether one decimal number is greater than another one. -/
def abvB (na : Bool) (va ba : Nat) (nb : Bool) (vb bb : Nat) : Bool :=
  if (na != nb) = true then nb else if na = true then decide (va * 10 ^ bb < vb * 10 ^ ba) else decide (vb * 10 ^ ba < va * 10 ^ bb)
theorem cmpN_pos (a b : Nat) : 0 < cmpN a b ↔ b < a := by
  unfold cmpN
  split
  · constructor <;> intro h <;> omega
  · split
    · constructor <;> intro h <;> omega
    · constructor <;> intro h <;> omega

set_option maxHeartbeats 4000000 in
theorem above_any (na nb : Bool) (A B : Option Addr) (n c m d va vb ba bb : Nat) (ca cb : Int) (w : World) (ha : Sl w A n c (limbs va)) (hb : Sl w B m d (limbs vb)) (h1 : blen va ≤ 1100) (h2 : blen vb ≤ 1100) (h3 : ba ≤ 256) (h4 : bb ≤ 256) :
    Calls Tryz.prog 33 #[.agg #[.bool na, .slice A n c, .int .i64 (ba : Int), .int .i64 ca], .agg #[.bool nb, .slice B m d, .int .i64 (bb : Int), .int .i64 cb]] w (Ret (.bool (abvB na va ba nb vb bb)) w) := by
  have H1 := Lib.hid ha
  have H2 := Lib.hid hb
  have hn : n ≤ 256 := ha.lim (by omega)
  have hm : m ≤ 256 := hb.lim (by omega)
  have b1 : ba ≤ 1000 := by omega
  have b2 : bb ≤ 1000 := by omega
  obtain ⟨X, hX⟩ : ∃ X, va * 10 ^ bb = X := ⟨_, rfl⟩
  obtain ⟨Y, hY⟩ : ∃ X, vb * 10 ^ ba = X := ⟨_, rfl⟩
  have HX := Lib.hid (show val (limbs va) * val (limbs (10 ^ bb)) = X by rw [val_limbs, val_limbs, hX])
  have HY := Lib.hid (show val (limbs vb) * val (limbs (10 ^ ba)) = Y by rw [val_limbs, val_limbs, hY])
  have bX : blen X ≤ 8000 := by rw [← hX]; have := blen_mul_le' va (10 ^ bb); have := blen_ten bb; omega
  have bY : blen Y ≤ 8000 := by rw [← hY]; have := blen_mul_le' vb (10 ^ ba); have := blen_ten ba; omega
  have VX := Lib.hid (show blen (val (limbs va) * val (limbs (10 ^ bb))) ≤ 8192 by rw [HX.out]; omega)
  have VY := Lib.hid (show blen (val (limbs vb) * val (limbs (10 ^ ba))) ≤ 8192 by rw [HY.out]; omega)
  have P1 := Lib.hid (show blen (10 ^ bb) ≤ 32 * 256 by have := blen_ten bb; omega)
  have P2 := Lib.hid (show blen (10 ^ ba) ≤ 32 * 256 by have := blen_ten ba; omega)
  have Q1 := Lib.hid (show blen X ≤ 32 * 256 by omega)
  have Q2 := Lib.hid (show blen Y ≤ 32 * 256 by omega)
  have HR := Lib.hid (show abvB na va ba nb vb bb = if (na != nb) = true then nb else if na = true then decide (X < Y) else decide (Y < X) by unfold abvB; rw [hX, hY])
  obtain ⟨cz, hcz⟩ : ∃ z, cmpN X Y = z := ⟨_, rfl⟩
  have HCZ := Lib.hid (show cmpN (val (limbs X)) (val (limbs Y)) = cz by rw [val_limbs, val_limbs, hcz])
  have HC1 := Lib.hid (show decide (cz < 0) = decide (X < Y) by rw [← hcz, decide_eq_decide]; exact cmpN_neg X Y)
  have HC2 := Lib.hid (show decide (0 < cz) = decide (Y < X) by rw [← hcz, decide_eq_decide]; exact cmpN_pos X Y)
  clear ha hb hX hY hcz
  go_enter Tryz.func33, Tryz.ntmps33
  go_wp2_with fail
  obtain ⟨w1, hw⟩ : ∃ z9 : World, z9 = ((w.alloc (.cells #[.bool na, .slice A n c, .int .i64 (ba : Int), .int .i64 ca] 56)).alloc (.cells #[.bool nb, .slice B m d, .int .i64 (bb : Int), .int .i64 cb] 56)) := ⟨_, rfl⟩
  have HB1 := Lib.hid (show Below w.heap.size w w1 by rw [hw]; exact below_a2 _ _ _)
  have F1a := Lib.hid (H1.out.belowW HB1.out)
  have F1b := Lib.hid (H2.out.belowW HB1.out)
  have F1p := Lib.hid (show Blk w1 (w.heap.size) 56 #[.bool na, .slice A n c, .int .i64 (ba : Int), .int .i64 ca] by rw [hw]; exact (Blk.new _ _ _).alloc _)
  have F1q := Lib.hid (show Blk w1 (w.heap.size + 1) 56 #[.bool nb, .slice B m d, .int .i64 (bb : Int), .int .i64 cb] by rw [hw]; exact Blk.new1 _ _ _ _)
  rw [← hw]
  clear hw
  have pp0 : (w1).cell? ⟨w.heap.size, 0, none⟩ = some (.bool na) := F1p.out.cell 0
  have fp0 : (w1).frozen? ⟨w.heap.size, 0, none⟩ = false := F1p.out.frozen 0
  have pp1 : (w1).cell? ⟨w.heap.size, 1, none⟩ = some (.slice A n c) := F1p.out.cell 1
  have fp1 : (w1).frozen? ⟨w.heap.size, 1, none⟩ = false := F1p.out.frozen 1
  have pp2 : (w1).cell? ⟨w.heap.size, 2, none⟩ = some (.int .i64 (ba : Int)) := F1p.out.cell 2
  have fp2 : (w1).frozen? ⟨w.heap.size, 2, none⟩ = false := F1p.out.frozen 2
  have pp3 : (w1).cell? ⟨w.heap.size, 3, none⟩ = some (.int .i64 ca) := F1p.out.cell 3
  have fp3 : (w1).frozen? ⟨w.heap.size, 3, none⟩ = false := F1p.out.frozen 3
  have pq0 : (w1).cell? ⟨w.heap.size + 1, 0, none⟩ = some (.bool nb) := F1q.out.cell 0
  have fq0 : (w1).frozen? ⟨w.heap.size + 1, 0, none⟩ = false := F1q.out.frozen 0
  have pq1 : (w1).cell? ⟨w.heap.size + 1, 1, none⟩ = some (.slice B m d) := F1q.out.cell 1
  have fq1 : (w1).frozen? ⟨w.heap.size + 1, 1, none⟩ = false := F1q.out.frozen 1
  have pq2 : (w1).cell? ⟨w.heap.size + 1, 2, none⟩ = some (.int .i64 (bb : Int)) := F1q.out.cell 2
  have fq2 : (w1).frozen? ⟨w.heap.size + 1, 2, none⟩ = false := F1q.out.frozen 2
  have pq3 : (w1).cell? ⟨w.heap.size + 1, 3, none⟩ = some (.int .i64 cb) := F1q.out.cell 3
  have fq3 : (w1).frozen? ⟨w.heap.size + 1, 3, none⟩ = false := F1q.out.frozen 3
  go_wp2_with fail
  clear pp0 fp0 pp1 fp1 pp2 fp2 pp3 fp3 pq0 fq0 pq1 fq1 pq2 fq2 pq3 fq3
  have HR2 := Lib.hid (below_dr w1)
  have R2a := Lib.hid (F1a.out.belowW HR2.out)
  have R2b := Lib.hid (F1b.out.belowW HR2.out)
  have R2p := Lib.hid (F1p.out.belowW HR2.out)
  have R2q := Lib.hid (F1q.out.belowW HR2.out)
  have c2p1 : w1.drew.cell? ⟨w.heap.size, 1, none⟩ = some (.slice A n c) := R2p.out.cell 1
  have c2q2 : w1.drew.cell? ⟨w.heap.size + 1, 2, none⟩ = some (.int .i64 (bb : Int)) := R2q.out.cell 2
  go_region_held3 (fun w' => w'.cell? ⟨w.heap.size, 1, none⟩ = some (.slice A n c) ∧ w'.cell? ⟨w.heap.size + 1, 2, none⟩ = some (.int .i64 (bb : Int))) ((with_reducible refine ⟨?_, ?_⟩) <;> (with_reducible assumption)) (first
    | (go_at_call 54
       (with_reducible refine (power_ten bb _ b2).mono ?_)
       rintro e w3 ⟨P, p, pc, rfl, HP, HC3⟩
       have R3a := Lib.hid (R2a.out.belowW HC3.out)
       have R3b := Lib.hid (R2b.out.belowW HC3.out)
       have R3p := Lib.hid (R2p.out.belowW HC3.out)
       have R3q := Lib.hid (R2q.out.belowW HC3.out)
       have HR3 := Lib.hid (HR2.out.trans (HC3.out.mono HR2.out.size))
       have R3pp := Lib.hid (HP.out)
       have c3p1 : w3.cell? ⟨w.heap.size, 1, none⟩ = some (.slice A n c) := R3p.out.cell 1
       have c3q2 : w3.cell? ⟨w.heap.size + 1, 2, none⟩ = some (.int .i64 (bb : Int)) := R3q.out.cell 2
       have hp : p ≤ 256 := HP.out.lim P1.out)
    | (go_at_call 53
       (with_reducible refine (nMul_sl A P n c p pc (limbs va) (limbs (10 ^ bb)) _ R3a.out R3pp.out hn hp VX.out).mono ?_)
       rw [HX.out]
       rintro e w4 ⟨U, u, rfl, HU, HC4⟩
       have R4a := Lib.hid (R3a.out.belowW HC4.out)
       have R4b := Lib.hid (R3b.out.belowW HC4.out)
       have R4p := Lib.hid (R3p.out.belowW HC4.out)
       have R4q := Lib.hid (R3q.out.belowW HC4.out)
       have R4pp := Lib.hid (R3pp.out.belowW HC4.out)
       have HR4 := Lib.hid (HR3.out.trans (HC4.out.mono HR3.out.size))
       have R4u := Lib.hid (HU.out)
       have c4p1 : w4.cell? ⟨w.heap.size, 1, none⟩ = some (.slice A n c) := R4p.out.cell 1
       have c4q2 : w4.cell? ⟨w.heap.size + 1, 2, none⟩ = some (.int .i64 (bb : Int)) := R4q.out.cell 2
       have hu : u ≤ 256 := HU.out.lim Q1.out))
  have HL4 := Lib.hid (HB1.out.trans (HR4.out.mono HB1.out.size))
  have pp0 : (w4).cell? ⟨w.heap.size, 0, none⟩ = some (.bool na) := R4p.out.cell 0
  have fp0 : (w4).frozen? ⟨w.heap.size, 0, none⟩ = false := R4p.out.frozen 0
  have pp1 : (w4).cell? ⟨w.heap.size, 1, none⟩ = some (.slice A n c) := R4p.out.cell 1
  have fp1 : (w4).frozen? ⟨w.heap.size, 1, none⟩ = false := R4p.out.frozen 1
  have pp2 : (w4).cell? ⟨w.heap.size, 2, none⟩ = some (.int .i64 (ba : Int)) := R4p.out.cell 2
  have fp2 : (w4).frozen? ⟨w.heap.size, 2, none⟩ = false := R4p.out.frozen 2
  have pp3 : (w4).cell? ⟨w.heap.size, 3, none⟩ = some (.int .i64 ca) := R4p.out.cell 3
  have fp3 : (w4).frozen? ⟨w.heap.size, 3, none⟩ = false := R4p.out.frozen 3
  have pq0 : (w4).cell? ⟨w.heap.size + 1, 0, none⟩ = some (.bool nb) := R4q.out.cell 0
  have fq0 : (w4).frozen? ⟨w.heap.size + 1, 0, none⟩ = false := R4q.out.frozen 0
  have pq1 : (w4).cell? ⟨w.heap.size + 1, 1, none⟩ = some (.slice B m d) := R4q.out.cell 1
  have fq1 : (w4).frozen? ⟨w.heap.size + 1, 1, none⟩ = false := R4q.out.frozen 1
  have pq2 : (w4).cell? ⟨w.heap.size + 1, 2, none⟩ = some (.int .i64 (bb : Int)) := R4q.out.cell 2
  have fq2 : (w4).frozen? ⟨w.heap.size + 1, 2, none⟩ = false := R4q.out.frozen 2
  have pq3 : (w4).cell? ⟨w.heap.size + 1, 3, none⟩ = some (.int .i64 cb) := R4q.out.cell 3
  have fq3 : (w4).frozen? ⟨w.heap.size + 1, 3, none⟩ = false := R4q.out.frozen 3
  go_wp2_with fail
  clear pp0 fp0 pp1 fp1 pp2 fp2 pp3 fp3 pq0 fq0 pq1 fq1 pq2 fq2 pq3 fq3
  have HR5 := Lib.hid (below_dr w4)
  have R5a := Lib.hid (R4a.out.belowW HR5.out)
  have R5b := Lib.hid (R4b.out.belowW HR5.out)
  have R5p := Lib.hid (R4p.out.belowW HR5.out)
  have R5q := Lib.hid (R4q.out.belowW HR5.out)
  have R5pp := Lib.hid (R4pp.out.belowW HR5.out)
  have R5u := Lib.hid (R4u.out.belowW HR5.out)
  have c5q1 : w4.drew.cell? ⟨w.heap.size + 1, 1, none⟩ = some (.slice B m d) := R5q.out.cell 1
  have c5p2 : w4.drew.cell? ⟨w.heap.size, 2, none⟩ = some (.int .i64 (ba : Int)) := R5p.out.cell 2
  go_region_held3 (fun w' => w'.cell? ⟨w.heap.size + 1, 1, none⟩ = some (.slice B m d) ∧ w'.cell? ⟨w.heap.size, 2, none⟩ = some (.int .i64 (ba : Int))) ((with_reducible refine ⟨?_, ?_⟩) <;> (with_reducible assumption)) (first
    | (go_at_call 54
       (with_reducible refine (power_ten ba _ b1).mono ?_)
       rintro e w6 ⟨P', p', pc', rfl, HP', HC6⟩
       have R6a := Lib.hid (R5a.out.belowW HC6.out)
       have R6b := Lib.hid (R5b.out.belowW HC6.out)
       have R6p := Lib.hid (R5p.out.belowW HC6.out)
       have R6q := Lib.hid (R5q.out.belowW HC6.out)
       have R6pp := Lib.hid (R5pp.out.belowW HC6.out)
       have R6u := Lib.hid (R5u.out.belowW HC6.out)
       have HR6 := Lib.hid (HR5.out.trans (HC6.out.mono HR5.out.size))
       have R6pq := Lib.hid (HP'.out)
       have c6q1 : w6.cell? ⟨w.heap.size + 1, 1, none⟩ = some (.slice B m d) := R6q.out.cell 1
       have c6p2 : w6.cell? ⟨w.heap.size, 2, none⟩ = some (.int .i64 (ba : Int)) := R6p.out.cell 2
       have hp' : p' ≤ 256 := HP'.out.lim P2.out)
    | (go_at_call 53
       (with_reducible refine (nMul_sl B P' m d p' pc' (limbs vb) (limbs (10 ^ ba)) _ R6b.out R6pq.out hm hp' VY.out).mono ?_)
       rw [HY.out]
       rintro e w7 ⟨V, v, rfl, HV, HC7⟩
       have R7a := Lib.hid (R6a.out.belowW HC7.out)
       have R7b := Lib.hid (R6b.out.belowW HC7.out)
       have R7p := Lib.hid (R6p.out.belowW HC7.out)
       have R7q := Lib.hid (R6q.out.belowW HC7.out)
       have R7pp := Lib.hid (R6pp.out.belowW HC7.out)
       have R7u := Lib.hid (R6u.out.belowW HC7.out)
       have R7pq := Lib.hid (R6pq.out.belowW HC7.out)
       have HR7 := Lib.hid (HR6.out.trans (HC7.out.mono HR6.out.size))
       have R7v := Lib.hid (HV.out)
       have c7q1 : w7.cell? ⟨w.heap.size + 1, 1, none⟩ = some (.slice B m d) := R7q.out.cell 1
       have c7p2 : w7.cell? ⟨w.heap.size, 2, none⟩ = some (.int .i64 (ba : Int)) := R7p.out.cell 2
       have hv : v ≤ 256 := HV.out.lim Q2.out))
  have HL7 := Lib.hid (HL4.out.trans (HR7.out.mono HL4.out.size))
  have pp0 : (w7).cell? ⟨w.heap.size, 0, none⟩ = some (.bool na) := R7p.out.cell 0
  have fp0 : (w7).frozen? ⟨w.heap.size, 0, none⟩ = false := R7p.out.frozen 0
  have pp1 : (w7).cell? ⟨w.heap.size, 1, none⟩ = some (.slice A n c) := R7p.out.cell 1
  have fp1 : (w7).frozen? ⟨w.heap.size, 1, none⟩ = false := R7p.out.frozen 1
  have pp2 : (w7).cell? ⟨w.heap.size, 2, none⟩ = some (.int .i64 (ba : Int)) := R7p.out.cell 2
  have fp2 : (w7).frozen? ⟨w.heap.size, 2, none⟩ = false := R7p.out.frozen 2
  have pp3 : (w7).cell? ⟨w.heap.size, 3, none⟩ = some (.int .i64 ca) := R7p.out.cell 3
  have fp3 : (w7).frozen? ⟨w.heap.size, 3, none⟩ = false := R7p.out.frozen 3
  have pq0 : (w7).cell? ⟨w.heap.size + 1, 0, none⟩ = some (.bool nb) := R7q.out.cell 0
  have fq0 : (w7).frozen? ⟨w.heap.size + 1, 0, none⟩ = false := R7q.out.frozen 0
  have pq1 : (w7).cell? ⟨w.heap.size + 1, 1, none⟩ = some (.slice B m d) := R7q.out.cell 1
  have fq1 : (w7).frozen? ⟨w.heap.size + 1, 1, none⟩ = false := R7q.out.frozen 1
  have pq2 : (w7).cell? ⟨w.heap.size + 1, 2, none⟩ = some (.int .i64 (bb : Int)) := R7q.out.cell 2
  have fq2 : (w7).frozen? ⟨w.heap.size + 1, 2, none⟩ = false := R7q.out.frozen 2
  have pq3 : (w7).cell? ⟨w.heap.size + 1, 3, none⟩ = some (.int .i64 cb) := R7q.out.cell 3
  have fq3 : (w7).frozen? ⟨w.heap.size + 1, 3, none⟩ = false := R7q.out.frozen 3
  cases na with
  | false =>
    cases nb with
    | false =>
      go_wp2_with fail
      refine (cmp_any U V u u v v (limbs X) (limbs Y) w7 R7u.out R7v.out).mono ?_
      rw [HCZ.out]
      rintro e w8 ⟨rfl, qd, hqd⟩
      have HB8 := Lib.hid (show Below w7.heap.size w7 w8 by rw [hqd]; exact below_drewN (Below.refl _ _) _)
      clear hqd
      have F8a := Lib.hid (R7a.out.belowW HB8.out)
      have F8b := Lib.hid (R7b.out.belowW HB8.out)
      have F8p := Lib.hid (R7p.out.belowW HB8.out)
      have F8q := Lib.hid (R7q.out.belowW HB8.out)
      have F8pp := Lib.hid (R7pp.out.belowW HB8.out)
      have F8u := Lib.hid (R7u.out.belowW HB8.out)
      have F8pq := Lib.hid (R7pq.out.belowW HB8.out)
      have F8v := Lib.hid (R7v.out.belowW HB8.out)
      have HL8 := Lib.hid (HL7.out.trans (HB8.out.mono HL7.out.size))
      go_wp2_with fail
      go_ret
      exact ⟨ret_bool (by rw [HR.out]; first | exact HC1.out | exact HC2.out), HL8⟩
    | true =>
      go_wp2_with fail
      go_ret
      exact ⟨ret_bool (by rw [HR.out]; rfl), HL7⟩
  | true =>
    cases nb with
    | false =>
      go_wp2_with fail
      go_ret
      exact ⟨ret_bool (by rw [HR.out]; rfl), HL7⟩
    | true =>
      go_wp2_with fail
      refine (cmp_any U V u u v v (limbs X) (limbs Y) w7 R7u.out R7v.out).mono ?_
      rw [HCZ.out]
      rintro e w8 ⟨rfl, qd, hqd⟩
      have HB8 := Lib.hid (show Below w7.heap.size w7 w8 by rw [hqd]; exact below_drewN (Below.refl _ _) _)
      clear hqd
      have F8a := Lib.hid (R7a.out.belowW HB8.out)
      have F8b := Lib.hid (R7b.out.belowW HB8.out)
      have F8p := Lib.hid (R7p.out.belowW HB8.out)
      have F8q := Lib.hid (R7q.out.belowW HB8.out)
      have F8pp := Lib.hid (R7pp.out.belowW HB8.out)
      have F8u := Lib.hid (R7u.out.belowW HB8.out)
      have F8pq := Lib.hid (R7pq.out.belowW HB8.out)
      have F8v := Lib.hid (R7v.out.belowW HB8.out)
      have HL8 := Lib.hid (HL7.out.trans (HB8.out.mono HL7.out.size))
      go_wp2_with fail
      go_ret
      exact ⟨ret_bool (by rw [HR.out]; first | exact HC1.out | exact HC2.out), HL8⟩
theorem canonB_vld {neg : Bool} {k : Nat} (h : blen k ≤ 1100) : vld (canon neg k 0) ∧ chk (canon neg k 0) = (canon neg k 0, 0) := by
  have h1 := chk_of (neg := neg) (k := k) (e := 0) (by omega) (by omega) (by omega)
  have h2 := chk_vld neg k 0
  rw [h1] at h2
  exact ⟨h2, h1⟩
set_option maxHeartbeats 4000000 in
theorem rounded_any (neg : Bool) (A : Option Addr) (n c v b : Nat) (cnt p : Int) (up : Bool) (w : World) (h : Sl w A n c (limbs v)) (hv : blen v ≤ 1100) (hb : b ≤ 256) (hT : RB w) :
    Calls Tryz.prog 34 #[.agg #[.bool neg, .slice A n c, .int .i64 (b : Int), .int .i64 cnt], .int .i64 p, .bool up] w (DyE (divE (canon neg v 0) (canon false (10 ^ b) 0) p up) w) := by
  have H := Lib.hid h
  have HT := Lib.hid hT
  have hn : n ≤ 256 := h.lim (by omega)
  have b1 : b ≤ 1000 := by omega
  have hb10 : blen (10 ^ b) ≤ 1100 := by have := blen_ten b; omega
  have P1 := Lib.hid (show blen (10 ^ b) ≤ 32 * 256 by omega)
  obtain ⟨x, hx⟩ : ∃ x, canon neg v 0 = x := ⟨_, rfl⟩
  obtain ⟨y, hy⟩ : ∃ x, canon false (10 ^ b) 0 = x := ⟨_, rfl⟩
  have VX := Lib.hid (show vld x by rw [← hx]; exact (canonB_vld hv).1)
  have VY := Lib.hid (show vld y by rw [← hy]; exact (canonB_vld hb10).1)
  have CX := Lib.hid (show chk (canon neg (val (limbs v)) 0) = (x, 0) by rw [val_limbs, (canonB_vld hv).2, hx])
  have CY := Lib.hid (show chk (canon false (val (limbs (10 ^ b))) 0) = (y, 0) by rw [val_limbs, (canonB_vld hb10).2, hy])
  rw [hx, hy]
  obtain ⟨z, er, hz⟩ : ∃ z er, divE x y p up = (z, er) := ⟨_, _, rfl⟩
  rw [hz]
  have HZ := Lib.hid hz
  have e1 : -32768 ≤ (0 : Int) := by omega
  have e2 : (0 : Int) ≤ 32768 := by omega
  clear h hv hT hx hy hz
  go_enter Tryz.func34, Tryz.ntmps34
  go_wp2_with fail
  obtain ⟨w1, hw⟩ : ∃ z9 : World, z9 = ((w.alloc (.cells #[.bool neg, .slice A n c, .int .i64 (b : Int), .int .i64 cnt] 56)).alloc (.cells #[.bool false, .slice none 0 0, .int .i64 0] 25)) := ⟨_, rfl⟩
  have HB1 := Lib.hid (show Below w.heap.size w w1 by rw [hw]; exact below_a2 _ _ _)
  have F1a := Lib.hid (H.out.belowW HB1.out)
  have F1t := Lib.hid (HT.out.belowW HB1.out)
  have F1k := Lib.hid (show Blk w1 (w.heap.size) 56 #[.bool neg, .slice A n c, .int .i64 (b : Int), .int .i64 cnt] by rw [hw]; exact (Blk.new _ _ _).alloc _)
  have F1r := Lib.hid (show Blk w1 (w.heap.size + 1) 25 #[.bool false, .slice none 0 0, .int .i64 0] by rw [hw]; exact Blk.new1 _ _ _ _)
  rw [← hw]
  clear hw
  have pk0 : (w1).cell? ⟨w.heap.size, 0, none⟩ = some (.bool neg) := F1k.out.cell 0
  have fk0 : (w1).frozen? ⟨w.heap.size, 0, none⟩ = false := F1k.out.frozen 0
  have pk1 : (w1).cell? ⟨w.heap.size, 1, none⟩ = some (.slice A n c) := F1k.out.cell 1
  have fk1 : (w1).frozen? ⟨w.heap.size, 1, none⟩ = false := F1k.out.frozen 1
  have pk2 : (w1).cell? ⟨w.heap.size, 2, none⟩ = some (.int .i64 (b : Int)) := F1k.out.cell 2
  have fk2 : (w1).frozen? ⟨w.heap.size, 2, none⟩ = false := F1k.out.frozen 2
  have pk3 : (w1).cell? ⟨w.heap.size, 3, none⟩ = some (.int .i64 cnt) := F1k.out.cell 3
  have fk3 : (w1).frozen? ⟨w.heap.size, 3, none⟩ = false := F1k.out.frozen 3
  go_wp2_with fail
  refine (make_ok' neg A n c 0 (limbs v) w1 F1a.out F1t.out hn e1 e2).mono ?_
  rw [CX.out]
  rintro e w2 ⟨L, ln, lc, rfl, HS, HB2⟩
  have F2a := Lib.hid (F1a.out.belowW HB2.out)
  have F2t := Lib.hid (F1t.out.belowW HB2.out)
  have F2k := Lib.hid (F1k.out.belowW HB2.out)
  have F2r := Lib.hid (F1r.out.belowW HB2.out)
  have HL2 := Lib.hid (HB1.out.trans (HB2.out.mono HB1.out.size))
  have F2s := Lib.hid (HS.out)
  clear pk0 fk0 pk1 fk1 pk2 fk2 pk3 fk3
  go_upto_region 2 with (fail)
  obtain ⟨w3, hw⟩ : ∃ z9 : World, z9 = w2.alloc (.cells #[.bool x.neg, .slice L ln lc, .int .i64 x.e] 25) := ⟨_, rfl⟩
  have HB3 := Lib.hid (show Below w2.heap.size w2 w3 by rw [hw]; exact below_a1 _ _)
  have F3vx := Lib.hid (show Blk w3 w2.heap.size 25 #[.bool x.neg, .slice L ln lc, .int .i64 x.e] by rw [hw]; exact Blk.new _ _ _)
  rw [← hw]
  clear hw
  have F3a := Lib.hid (F2a.out.belowW HB3.out)
  have F3t := Lib.hid (F2t.out.belowW HB3.out)
  have F3k := Lib.hid (F2k.out.belowW HB3.out)
  have F3r := Lib.hid (F2r.out.belowW HB3.out)
  have F3s := Lib.hid (F2s.out.belowW HB3.out)
  have HL3 := Lib.hid (HL2.out.trans (HB3.out.mono HL2.out.size))
  have pk0 : (w3).cell? ⟨w.heap.size, 0, none⟩ = some (.bool neg) := F3k.out.cell 0
  have fk0 : (w3).frozen? ⟨w.heap.size, 0, none⟩ = false := F3k.out.frozen 0
  have pk1 : (w3).cell? ⟨w.heap.size, 1, none⟩ = some (.slice A n c) := F3k.out.cell 1
  have fk1 : (w3).frozen? ⟨w.heap.size, 1, none⟩ = false := F3k.out.frozen 1
  have pk2 : (w3).cell? ⟨w.heap.size, 2, none⟩ = some (.int .i64 (b : Int)) := F3k.out.cell 2
  have fk2 : (w3).frozen? ⟨w.heap.size, 2, none⟩ = false := F3k.out.frozen 2
  have pk3 : (w3).cell? ⟨w.heap.size, 3, none⟩ = some (.int .i64 cnt) := F3k.out.cell 3
  have fk3 : (w3).frozen? ⟨w.heap.size, 3, none⟩ = false := F3k.out.frozen 3
  go_wp2_with fail
  refine (power_ten b w3 b1).mono ?_
  rintro e w4 ⟨P, q, qc, rfl, HP, HB4⟩
  have F4a := Lib.hid (F3a.out.belowW HB4.out)
  have F4t := Lib.hid (F3t.out.belowW HB4.out)
  have F4k := Lib.hid (F3k.out.belowW HB4.out)
  have F4r := Lib.hid (F3r.out.belowW HB4.out)
  have F4s := Lib.hid (F3s.out.belowW HB4.out)
  have F4vx := Lib.hid (F3vx.out.belowW HB4.out)
  have HL4 := Lib.hid (HL3.out.trans (HB4.out.mono HL3.out.size))
  have F4pp := Lib.hid (HP.out)
  have hp : q ≤ 256 := HP.out.lim P1.out
  go_wp2_with fail
  refine (make_ok' false P q qc 0 (limbs (10 ^ b)) w4 F4pp.out F4t.out hp e1 e2).mono ?_
  rw [CY.out]
  rintro e w5 ⟨R, rn, rc, rfl, HS2, HB5⟩
  have F5a := Lib.hid (F4a.out.belowW HB5.out)
  have F5t := Lib.hid (F4t.out.belowW HB5.out)
  have F5k := Lib.hid (F4k.out.belowW HB5.out)
  have F5r := Lib.hid (F4r.out.belowW HB5.out)
  have F5s := Lib.hid (F4s.out.belowW HB5.out)
  have F5vx := Lib.hid (F4vx.out.belowW HB5.out)
  have F5pp := Lib.hid (F4pp.out.belowW HB5.out)
  have HL5 := Lib.hid (HL4.out.trans (HB5.out.mono HL4.out.size))
  have F5s2 := Lib.hid (HS2.out)
  clear pk0 fk0 pk1 fk1 pk2 fk2 pk3 fk3
  go_upto_region 5 with (fail)
  obtain ⟨w6, hw⟩ : ∃ z9 : World, z9 = w5.alloc (.cells #[.bool y.neg, .slice R rn rc, .int .i64 y.e] 25) := ⟨_, rfl⟩
  have HB6 := Lib.hid (show Below w5.heap.size w5 w6 by rw [hw]; exact below_a1 _ _)
  have F6vy := Lib.hid (show Blk w6 w5.heap.size 25 #[.bool y.neg, .slice R rn rc, .int .i64 y.e] by rw [hw]; exact Blk.new _ _ _)
  rw [← hw]
  clear hw
  have F6a := Lib.hid (F5a.out.belowW HB6.out)
  have F6t := Lib.hid (F5t.out.belowW HB6.out)
  have F6k := Lib.hid (F5k.out.belowW HB6.out)
  have F6r := Lib.hid (F5r.out.belowW HB6.out)
  have F6s := Lib.hid (F5s.out.belowW HB6.out)
  have F6vx := Lib.hid (F5vx.out.belowW HB6.out)
  have F6pp := Lib.hid (F5pp.out.belowW HB6.out)
  have F6s2 := Lib.hid (F5s2.out.belowW HB6.out)
  have HL6 := Lib.hid (HL5.out.trans (HB6.out.mono HL5.out.size))
  have pvx0 : (w6).cell? ⟨w2.heap.size, 0, none⟩ = some (.bool x.neg) := F6vx.out.cell 0
  have fvx0 : (w6).frozen? ⟨w2.heap.size, 0, none⟩ = false := F6vx.out.frozen 0
  have pvx1 : (w6).cell? ⟨w2.heap.size, 1, none⟩ = some (.slice L ln lc) := F6vx.out.cell 1
  have fvx1 : (w6).frozen? ⟨w2.heap.size, 1, none⟩ = false := F6vx.out.frozen 1
  have pvx2 : (w6).cell? ⟨w2.heap.size, 2, none⟩ = some (.int .i64 x.e) := F6vx.out.cell 2
  have fvx2 : (w6).frozen? ⟨w2.heap.size, 2, none⟩ = false := F6vx.out.frozen 2
  have pvy0 : (w6).cell? ⟨w5.heap.size, 0, none⟩ = some (.bool y.neg) := F6vy.out.cell 0
  have fvy0 : (w6).frozen? ⟨w5.heap.size, 0, none⟩ = false := F6vy.out.frozen 0
  have pvy1 : (w6).cell? ⟨w5.heap.size, 1, none⟩ = some (.slice R rn rc) := F6vy.out.cell 1
  have fvy1 : (w6).frozen? ⟨w5.heap.size, 1, none⟩ = false := F6vy.out.frozen 1
  have pvy2 : (w6).cell? ⟨w5.heap.size, 2, none⟩ = some (.int .i64 y.e) := F6vy.out.cell 2
  have fvy2 : (w6).frozen? ⟨w5.heap.size, 2, none⟩ = false := F6vy.out.frozen 2
  cases up with
  | false =>
    go_wp2_with fail
    refine (DivDown_any x y L R ln lc rn rc p w6 F6s.out F6s2.out VX.out VY.out F6t.out).mono ?_
    rw [HZ.out]
    rintro e w7 ⟨U, u, uc, rfl, HU, HB7⟩
    have F7a := Lib.hid (F6a.out.belowW HB7.out)
    have F7t := Lib.hid (F6t.out.belowW HB7.out)
    have F7k := Lib.hid (F6k.out.belowW HB7.out)
    have F7r := Lib.hid (F6r.out.belowW HB7.out)
    have F7s := Lib.hid (F6s.out.belowW HB7.out)
    have F7vx := Lib.hid (F6vx.out.belowW HB7.out)
    have F7pp := Lib.hid (F6pp.out.belowW HB7.out)
    have F7s2 := Lib.hid (F6s2.out.belowW HB7.out)
    have F7vy := Lib.hid (F6vy.out.belowW HB7.out)
    have HL7 := Lib.hid (HL6.out.trans (HB7.out.mono HL6.out.size))
    have F7u := Lib.hid (HU.out)
    clear pvx0 fvx0 pvx1 fvx1 pvx2 fvx2 pvy0 fvy0 pvy1 fvy1 pvy2 fvy2
    have pr0 : (w7).cell? ⟨w.heap.size + 1, 0, none⟩ = some (.bool false) := F7r.out.cell 0
    have fr0 : (w7).frozen? ⟨w.heap.size + 1, 0, none⟩ = false := F7r.out.frozen 0
    have pr1 : (w7).cell? ⟨w.heap.size + 1, 1, none⟩ = some (.slice none 0 0) := F7r.out.cell 1
    have fr1 : (w7).frozen? ⟨w.heap.size + 1, 1, none⟩ = false := F7r.out.frozen 1
    have pr2 : (w7).cell? ⟨w.heap.size + 1, 2, none⟩ = some (.int .i64 0) := F7r.out.cell 2
    have fr2 : (w7).frozen? ⟨w.heap.size + 1, 2, none⟩ = false := F7r.out.frozen 2
    go_wp2_with fail
    refine bodyPost_ret (v := .tuple #[.agg #[.bool z.neg, .slice U u uc, .int .i64 z.e], .int .i64 er]) (by simp [results, Tryz.results34, go_sem, pr0, pr1, pr2]) rfl ?_
    exact ⟨U, u, uc, rfl, Lib.hid (store3_sl F7u.out F7r.out noU3 _ _ _), Lib.hid (store3_below HL7.out F7r.out _ _ _ (by omega))⟩
  | true =>
    go_wp2_with fail
    refine (DivUp_any x y L R ln lc rn rc p w6 F6s.out F6s2.out VX.out VY.out F6t.out).mono ?_
    rw [HZ.out]
    rintro e w7 ⟨U, u, uc, rfl, HU, HB7⟩
    have F7a := Lib.hid (F6a.out.belowW HB7.out)
    have F7t := Lib.hid (F6t.out.belowW HB7.out)
    have F7k := Lib.hid (F6k.out.belowW HB7.out)
    have F7r := Lib.hid (F6r.out.belowW HB7.out)
    have F7s := Lib.hid (F6s.out.belowW HB7.out)
    have F7vx := Lib.hid (F6vx.out.belowW HB7.out)
    have F7pp := Lib.hid (F6pp.out.belowW HB7.out)
    have F7s2 := Lib.hid (F6s2.out.belowW HB7.out)
    have F7vy := Lib.hid (F6vy.out.belowW HB7.out)
    have HL7 := Lib.hid (HL6.out.trans (HB7.out.mono HL6.out.size))
    have F7u := Lib.hid (HU.out)
    clear pvx0 fvx0 pvx1 fvx1 pvx2 fvx2 pvy0 fvy0 pvy1 fvy1 pvy2 fvy2
    have pr0 : (w7).cell? ⟨w.heap.size + 1, 0, none⟩ = some (.bool false) := F7r.out.cell 0
    have fr0 : (w7).frozen? ⟨w.heap.size + 1, 0, none⟩ = false := F7r.out.frozen 0
    have pr1 : (w7).cell? ⟨w.heap.size + 1, 1, none⟩ = some (.slice none 0 0) := F7r.out.cell 1
    have fr1 : (w7).frozen? ⟨w.heap.size + 1, 1, none⟩ = false := F7r.out.frozen 1
    have pr2 : (w7).cell? ⟨w.heap.size + 1, 2, none⟩ = some (.int .i64 0) := F7r.out.cell 2
    have fr2 : (w7).frozen? ⟨w.heap.size + 1, 2, none⟩ = false := F7r.out.frozen 2
    go_wp2_with fail
    refine bodyPost_ret (v := .tuple #[.agg #[.bool z.neg, .slice U u uc, .int .i64 z.e], .int .i64 er]) (by simp [results, Tryz.results34, go_sem, pr0, pr1, pr2]) rfl ?_
    exact ⟨U, u, uc, rfl, Lib.hid (store3_sl F7u.out F7r.out noU3 _ _ _), Lib.hid (store3_below HL7.out F7r.out _ _ _ (by omega))⟩
end Go.Proofs.YtffdkakogeofmaaGreatDoor
