/-
  The walks of ratio.Text, the reference's decimal, Text.
-/
import Derived.Test.YtnogfceojmnjiaaGreatDoorRaD
import Derived.Test.YtnogfceojmnjiaaGreatDoorRatPlain4
import Derived.Lib.ItoaLen
import Derived.Laws.BytesArg
set_option linter.unusedVariables false
namespace Go.Proofs.YtnogfceojmnjiaaGreatDoor
open Go.RowKit Go.Fl Go.Fl.Nm Go.Fl.Dy Go.Fl.Rt
/-- A text. -/
def StrP (l : List UInt8) (w : World) (e : Ending) (w' : World) : Prop :=
  ∃ S : ByteArray, e = .returned (.string S) ∧ Hid (S.data.toList = l) ∧ Hid (Below w.heap.size w w')
def textE (n d : Int) : List UInt8 := if vB n d then textR n d else []
theorem grow_below (w : World) (k : Nat) (os : Array Obj) : Below w.heap.size w (Sort.grow (w.drewN k) os) :=
  ⟨rfl, rfl, rfl, by simp [Sort.grow, World.drewN], fun i hi => by simp [Sort.grow, World.drewN, Array.getElem?_append, hi]⟩
theorem itoa_any (n : Int) (w : World) (hT : RB w) (h1 : -9223372036854775808 ≤ n) (h2 : n ≤ 9223372036854775807) :
    Calls Tryz.prog 63 #[.int .i64 n] w (StrP (Lib.itoa n) w) :=
  (Tryz.strconv_Itoa n h1 h2 w hT.p10).mono fun e w' ⟨he, k, os, hw⟩ => ⟨_, he, Lib.hid rfl, Lib.hid (by rw [hw]; exact grow_below w k os)⟩
theorem size_itoa {A : ByteArray} {n : Int} (h : A.data.toList = Lib.itoa n) (h1 : -9223372036854775808 ≤ n) (h2 : n ≤ 9223372036854775807) : A.size ≤ 21 := by
  have e := Lib.itoa_length_le n h1 h2
  rw [← h] at e
  simpa using e
theorem size_sum {A B : ByteArray} {n d : Int} (hA : A.data.toList = Lib.itoa n) (hB : B.data.toList = Lib.itoa d) (h1 : -9223372036854775808 ≤ n) (h2 : n ≤ 9223372036854775807) (h3 : -9223372036854775808 ≤ d) (h4 : d ≤ 9223372036854775807) : ¬ 9223372036854775807 < A.size + (1 + B.size) := by
  have a := size_itoa hA h1 h2
  have b := size_itoa hB h3 h4
  omega
theorem size_one {A : ByteArray} {n : Int} (hA : A.data.toList = Lib.itoa n) (h1 : -9223372036854775808 ≤ n) (h2 : n ≤ 9223372036854775807) : ¬ 9223372036854775807 < A.size + 1 := by
  have a := size_itoa hA h1 h2
  omega
theorem size_sum' {A B : ByteArray} {n d : Int} (hA : A.data.toList = Lib.itoa n) (hB : B.data.toList = Lib.itoa d) (h1 : -9223372036854775808 ≤ n) (h2 : n ≤ 9223372036854775807) (h3 : -9223372036854775808 ≤ d) (h4 : d ≤ 9223372036854775807) : ¬ 9223372036854775807 < A.size + 1 + B.size := by
  have a := size_itoa hA h1 h2
  have b := size_itoa hB h3 h4
  omega
theorem data_app (a b : ByteArray) : (a ++ b).data.toList = a.data.toList ++ b.data.toList := by simp

set_option maxHeartbeats 1000000 in
theorem text_q (n d : Int) (w : World) (hT : RB w) (h1 : -9223372036854775808 ≤ n) (h2 : n ≤ 9223372036854775807) (h3 : -9223372036854775808 ≤ d) (h4 : d ≤ 9223372036854775807) :
    Calls Tryz.prog 24 #[.agg #[.int .i64 n, .int .i64 d]] w (StrP (textE n d) w) := by
  have HT := Lib.hid hT
  clear hT
  cases hv : vB n d with
  | false =>
    have HV := Lib.hid hv
    have HR := Lib.hid (show textE n d = [] by unfold textE; rw [hv]; rfl)
    clear hv
    go_enter Tryz.func24, Tryz.ntmps24
    go_wp2_with fail
    obtain ⟨w1, hw⟩ : ∃ z9 : World, z9 = (w.alloc (.cells #[.int .i64 n, .int .i64 d] 23)) := ⟨_, rfl⟩
    have HB1 := Lib.hid (show Below w.heap.size w w1 by rw [hw]; exact below_a1 _ _)
    have F1t := Lib.hid (HT.out.belowW HB1.out)
    have F1k := Lib.hid (show Blk w1 (w.heap.size) 23 #[.int .i64 n, .int .i64 d] by rw [hw]; exact Blk.new _ _ _)
    rw [← hw]
    clear hw
    refine (valid_q n d w1 h1 h2 h3 h4).mono ?_
    rw [HV.out]
    rintro e w2 ⟨rfl, HB2⟩
    have F2t := Lib.hid (F1t.out.belowW HB2.out)
    have F2k := Lib.hid (F1k.out.belowW HB2.out)
    have HL2 := Lib.hid (HB1.out.trans (HB2.out.mono HB1.out.size))
    go_wp2_with fail
    go_ret
    exact ⟨⟨#[]⟩, rfl, Lib.hid (by rw [HR.out]), HL2⟩
  | true =>
    have HV := Lib.hid hv
    by_cases hd : d = 1
    · have HR := Lib.hid (show textE n d = Lib.itoa n by unfold textE textR; rw [hv, if_pos hd]; simp)
      have dd : (d != 1) = false := by simp [hd]
      clear hv hd
      go_enter Tryz.func24, Tryz.ntmps24
      go_wp2_with fail
      obtain ⟨w1, hw⟩ : ∃ z9 : World, z9 = (w.alloc (.cells #[.int .i64 n, .int .i64 d] 23)) := ⟨_, rfl⟩
      have HB1 := Lib.hid (show Below w.heap.size w w1 by rw [hw]; exact below_a1 _ _)
      have F1t := Lib.hid (HT.out.belowW HB1.out)
      have F1k := Lib.hid (show Blk w1 (w.heap.size) 23 #[.int .i64 n, .int .i64 d] by rw [hw]; exact Blk.new _ _ _)
      rw [← hw]
      clear hw
      refine (valid_q n d w1 h1 h2 h3 h4).mono ?_
      rw [HV.out]
      rintro e w2 ⟨rfl, HB2⟩
      have F2t := Lib.hid (F1t.out.belowW HB2.out)
      have F2k := Lib.hid (F1k.out.belowW HB2.out)
      have HL2 := Lib.hid (HB1.out.trans (HB2.out.mono HB1.out.size))
      have pk0 : (w2).cell? ⟨w.heap.size, 0, none⟩ = some (.int .i64 n) := F2k.out.cell 0
      have fk0 : (w2).frozen? ⟨w.heap.size, 0, none⟩ = false := F2k.out.frozen 0
      have pk1 : (w2).cell? ⟨w.heap.size, 1, none⟩ = some (.int .i64 d) := F2k.out.cell 1
      have fk1 : (w2).frozen? ⟨w.heap.size, 1, none⟩ = false := F2k.out.frozen 1
      go_wp2_with fail
      refine (itoa_any n w2 F2t.out h1 h2).mono ?_
      rintro e w3 ⟨A, rfl, HA, HB3⟩
      have F3t := Lib.hid (F2t.out.belowW HB3.out)
      have F3k := Lib.hid (F2k.out.belowW HB3.out)
      have HL3 := Lib.hid (HL2.out.trans (HB3.out.mono HL2.out.size))
      clear pk0 pk1 fk0 fk1
      have pk0 : (w3).cell? ⟨w.heap.size, 0, none⟩ = some (.int .i64 n) := F3k.out.cell 0
      have fk0 : (w3).frozen? ⟨w.heap.size, 0, none⟩ = false := F3k.out.frozen 0
      have pk1 : (w3).cell? ⟨w.heap.size, 1, none⟩ = some (.int .i64 d) := F3k.out.cell 1
      have fk1 : (w3).frozen? ⟨w.heap.size, 1, none⟩ = false := F3k.out.frozen 1
      go_wp2_with fail
      go_ret
      exact ⟨A, rfl, Lib.hid (by rw [HR.out]; exact HA.out), HL3⟩
    · have HR := Lib.hid (show textE n d = Lib.itoa n ++ 47 :: Lib.itoa d by unfold textE textR; rw [hv, if_neg hd]; rfl)
      have dd : (d != 1) = true := by simp [hd]
      clear hv hd
      go_enter Tryz.func24, Tryz.ntmps24
      go_wp2_with fail
      obtain ⟨w1, hw⟩ : ∃ z9 : World, z9 = (w.alloc (.cells #[.int .i64 n, .int .i64 d] 23)) := ⟨_, rfl⟩
      have HB1 := Lib.hid (show Below w.heap.size w w1 by rw [hw]; exact below_a1 _ _)
      have F1t := Lib.hid (HT.out.belowW HB1.out)
      have F1k := Lib.hid (show Blk w1 (w.heap.size) 23 #[.int .i64 n, .int .i64 d] by rw [hw]; exact Blk.new _ _ _)
      rw [← hw]
      clear hw
      refine (valid_q n d w1 h1 h2 h3 h4).mono ?_
      rw [HV.out]
      rintro e w2 ⟨rfl, HB2⟩
      have F2t := Lib.hid (F1t.out.belowW HB2.out)
      have F2k := Lib.hid (F1k.out.belowW HB2.out)
      have HL2 := Lib.hid (HB1.out.trans (HB2.out.mono HB1.out.size))
      have pk0 : (w2).cell? ⟨w.heap.size, 0, none⟩ = some (.int .i64 n) := F2k.out.cell 0
      have fk0 : (w2).frozen? ⟨w.heap.size, 0, none⟩ = false := F2k.out.frozen 0
      have pk1 : (w2).cell? ⟨w.heap.size, 1, none⟩ = some (.int .i64 d) := F2k.out.cell 1
      have fk1 : (w2).frozen? ⟨w.heap.size, 1, none⟩ = false := F2k.out.frozen 1
      go_wp2_with fail
      refine (itoa_any n w2 F2t.out h1 h2).mono ?_
      rintro e w3 ⟨A, rfl, HA, HB3⟩
      have F3t := Lib.hid (F2t.out.belowW HB3.out)
      have F3k := Lib.hid (F2k.out.belowW HB3.out)
      have HL3 := Lib.hid (HL2.out.trans (HB3.out.mono HL2.out.size))
      clear pk0 pk1 fk0 fk1
      have pk0 : (w3).cell? ⟨w.heap.size, 0, none⟩ = some (.int .i64 n) := F3k.out.cell 0
      have fk0 : (w3).frozen? ⟨w.heap.size, 0, none⟩ = false := F3k.out.frozen 0
      have pk1 : (w3).cell? ⟨w.heap.size, 1, none⟩ = some (.int .i64 d) := F3k.out.cell 1
      have fk1 : (w3).frozen? ⟨w.heap.size, 1, none⟩ = false := F3k.out.frozen 1
      go_wp2_with fail
      refine (itoa_any d w3 F3t.out h3 h4).mono ?_
      rintro e w4 ⟨B, rfl, HYb, HB4⟩
      have F4t := Lib.hid (F3t.out.belowW HB4.out)
      have F4k := Lib.hid (F3k.out.belowW HB4.out)
      have HL4 := Lib.hid (HL3.out.trans (HB4.out.mono HL3.out.size))
      have zA : ¬ 9223372036854775807 < A.size + (1 + B.size) := size_sum HA.out HYb.out h1 h2 h3 h4
      have zB : ¬ 9223372036854775807 < 1 + B.size := by omega
      go_wp2_with fail
      go_ret
      exact ⟨A ++ (⟨#[47]⟩ ++ B), rfl, Lib.hid (by rw [HR.out, data_app, data_app, HA.out, HYb.out]; rfl), HL4⟩

/-- One digit. -/
def digB (n : Nat) : ByteArray := ⟨#[UInt8.ofNat (48 + n % 10)]⟩
theorem digB_size (n : Nat) : (digB n).size = 1 := rfl
theorem digB_list (n : Nat) : (digB n).data.toList = [UInt8.ofNat (48 + n % 10)] := rfl
theorem vB_n1 {n d : Int} (h : vB n d = true) : -4611686018427387904 ≤ n := by have := vB_iff.1 h; unfold valid at this; have e : (MX : Int) = 1073741824 := rfl; omega
theorem vB_n2 {n d : Int} (h : vB n d = true) : n ≤ 4611686018427387904 := by have := vB_iff.1 h; unfold valid at this; have e : (MX : Int) = 1073741824 := rfl; omega
theorem vB_d1 {n d : Int} (h : vB n d = true) : -4611686018427387904 ≤ d := by have := vB_iff.1 h; unfold valid at this; have e : (MX : Int) = 1073741824 := rfl; omega
theorem vB_d2 {n d : Int} (h : vB n d = true) : d ≤ 4611686018427387904 := by have := vB_iff.1 h; unfold valid at this; have e : (MX : Int) = 1073741824 := rfl; omega
theorem one_byte (w : World) (n : Nat) :
    (convert 109 9 (.slice (some ⟨w.heap.size, 0, none⟩) 1 1)).run Tryz.prog (w.alloc (.cells #[.int .u8 (48 + (n : Int) % 10)] 5)) = .ok (.string (digB n)) (w.alloc (.cells #[.int .u8 (48 + (n : Int) % 10)] 5)) := by
  have h : (UInt8.ofNat (48 + n % 10)).toNat = 48 + n % 10 := by
    rw [UInt8.toNat_ofNat']
    omega
  have e := run_convert_bytes_back (P := Tryz.prog) (w.alloc (.cells #[.int .u8 (48 + (n : Int) % 10)] 5)) 109 9 5 ⟨w.heap.size, 0, none⟩ 1 [UInt8.ofNat (48 + n % 10)] (by kernel_rfl) (by kernel_rfl) (by kernel_rfl) (by
    intro j hj
    have hj0 : j = 0 := by simpa using hj
    subst hj0
    have c := (Blk.new w 5 #[.int .u8 (48 + (n : Int) % 10)]).cell 0
    simp only [List.getElem_cons_zero, h]
    rw [show ((⟨w.heap.size, 0, none⟩ : Addr).add 0) = ⟨w.heap.size, 0, none⟩ from rfl, c]
    simp)
  exact e
theorem dec_size {A : ByteArray} {n : Nat} (h : A.data.toList = Lib.decDigits n) (hn : n ≤ 4611686018427387904) : A.size ≤ 21 :=
  size_itoa (n := n) (by rw [h, Lib.itoa_nonneg]) (by omega) (by omega)
set_option maxRecDepth 100000 in
set_option maxHeartbeats 2000000 in
theorem decimal_nat (n : Nat) : ∀ (w : World), n ≤ 4611686018427387904 → Calls Tryz.prog 64 #[.int .i64 n] w (StrP (Lib.decDigits n) w) := by
  induction n using Nat.strongRecOn with
  | ind n ih =>
    intro w hn
    have IH := Lib.hid ih
    clear ih
    have d0 : decide ((n : Int) < 0) = false := decide_eq_false (by omega)
    have kc := one_byte w n
    have HB1 := Lib.hid (below_a1 w (.cells #[.int .u8 (48 + (n : Int) % 10)] 5))
    by_cases h : n < 10
    · have d1 : decide ((10 : Int) ≤ n) = false := decide_eq_false (by omega)
      have HR := Lib.hid (show (digB n).data.toList = Lib.decDigits n by rw [digB_list, Lib.decDigits_one h, Nat.mod_eq_of_lt h])
      clear h
      go_enter Tryz.func64, Tryz.ntmps64
      go_wp2_with fail
      go_ret
      exact ⟨digB n, rfl, HR, HB1⟩
    · have d1 : decide ((10 : Int) ≤ n) = true := decide_eq_true (by omega)
      have HR := Lib.hid (show Lib.decDigits n = Lib.decDigits (n / 10) ++ [UInt8.ofNat (48 + n % 10)] from dec_big h)
      have hlt : n / 10 < n := by omega
      have hle : n / 10 ≤ 4611686018427387904 := by omega
      have HI := fun w => IH.out (n / 10) hlt w hle
      have ed : (n : Int).tdiv 10 = ((n / 10 : Nat) : Int) := by
        rw [Int.tdiv_eq_ediv_of_nonneg (by omega)]; rfl
      have HI2 := Lib.hid HI
      clear h IH HI
      go_enter Tryz.func64, Tryz.ntmps64
      go_wp2_with fail
      refine (HI2.out _).mono ?_
      rintro e w2 ⟨A, rfl, HA, HB2⟩
      have zA : ¬ 9223372036854775807 < A.size + (digB n).size := by
        have := dec_size HA.out hle
        rw [digB_size]; omega
      go_wp2_with fail
      go_ret
      exact ⟨A ++ digB n, rfl, Lib.hid (by rw [HR.out, data_app, HA.out, digB_list]), Lib.hid (HB1.out.trans (HB2.out.mono HB1.out.size))⟩
set_option maxRecDepth 100000 in
set_option maxHeartbeats 2000000 in
theorem decimal_any (n : Int) (w : World) (h1 : -4611686018427387904 ≤ n) (h2 : n ≤ 4611686018427387904) :
    Calls Tryz.prog 64 #[.int .i64 n] w (StrP (Lib.itoa n) w) := by
  by_cases h : 0 ≤ n
  · obtain ⟨m, rfl⟩ := Int.eq_ofNat_of_zero_le h
    have e := decimal_nat m w (by omega)
    rw [← Lib.itoa_nonneg] at e
    exact e
  · obtain ⟨m, hm⟩ := Int.eq_ofNat_of_zero_le (show 0 ≤ -n by omega)
    have hn : n = -(m : Int) := by omega
    subst hn
    have HR := Lib.hid (Lib.itoa_neg m (by omega))
    have d0 : decide (0 < m) = true := decide_eq_true (by omega)
    have hle : m ≤ 4611686018427387904 := by omega
    have HI := Lib.hid (fun w => decimal_nat m w hle)
    clear h hm
    go_enter Tryz.func64, Tryz.ntmps64
    go_wp2_with fail
    refine (HI.out _).mono ?_
    rintro e w2 ⟨A, rfl, HA, HB2⟩
    have zA : ¬ 9223372036854775807 < 1 + A.size := by
      have := dec_size HA.out hle
      omega
    go_wp2_with fail
    go_ret
    exact ⟨⟨#[45]⟩ ++ A, rfl, Lib.hid (by rw [HR.out, data_app, HA.out]; rfl), HB2⟩

set_option maxRecDepth 100000 in
set_option maxHeartbeats 2000000 in
theorem text_r (n d : Int) (w : World) (hT : RB w) (h1 : -9223372036854775808 ≤ n) (h2 : n ≤ 9223372036854775807) (h3 : -9223372036854775808 ≤ d) (h4 : d ≤ 9223372036854775807) :
    Calls Tryz.prog 25 #[.agg #[.int .i64 n, .int .i64 d]] w (StrP (textE n d) w) := by
  have HT := Lib.hid hT
  clear hT
  cases hv : vB n d with
  | false =>
    have HV := Lib.hid hv
    have HR := Lib.hid (show textE n d = [] by unfold textE; rw [hv]; rfl)
    clear hv
    go_enter Tryz.func25, Tryz.ntmps25
    go_wp2_with fail
    obtain ⟨w1, hw⟩ : ∃ z9 : World, z9 = (w.alloc (.cells #[.int .i64 n, .int .i64 d] 23)) := ⟨_, rfl⟩
    have HB1 := Lib.hid (show Below w.heap.size w w1 by rw [hw]; exact below_a1 _ _)
    have F1t := Lib.hid (HT.out.belowW HB1.out)
    have F1k := Lib.hid (show Blk w1 (w.heap.size) 23 #[.int .i64 n, .int .i64 d] by rw [hw]; exact Blk.new _ _ _)
    rw [← hw]
    clear hw
    refine (valid_r n d w1 h1 h2 h3 h4).mono ?_
    rw [HV.out]
    rintro e w2 ⟨rfl, HB2⟩
    have F2t := Lib.hid (F1t.out.belowW HB2.out)
    have F2k := Lib.hid (F1k.out.belowW HB2.out)
    have HL2 := Lib.hid (HB1.out.trans (HB2.out.mono HB1.out.size))
    go_wp2_with fail
    go_ret
    exact ⟨⟨#[]⟩, rfl, Lib.hid (by rw [HR.out]), HL2⟩
  | true =>
    have HV := Lib.hid hv
    have n1 : -4611686018427387904 ≤ n := vB_n1 hv
    have n2 : n ≤ 4611686018427387904 := vB_n2 hv
    have m1 : -4611686018427387904 ≤ d := vB_d1 hv
    have m2 : d ≤ 4611686018427387904 := vB_d2 hv
    by_cases hd : d = 1
    · have HR := Lib.hid (show textE n d = Lib.itoa n by unfold textE textR; rw [hv, if_pos hd]; simp)
      have dd : (d == 1) = true := by simp [hd]
      clear hv hd
      go_enter Tryz.func25, Tryz.ntmps25
      go_wp2_with fail
      obtain ⟨w1, hw⟩ : ∃ z9 : World, z9 = (w.alloc (.cells #[.int .i64 n, .int .i64 d] 23)) := ⟨_, rfl⟩
      have HB1 := Lib.hid (show Below w.heap.size w w1 by rw [hw]; exact below_a1 _ _)
      have F1t := Lib.hid (HT.out.belowW HB1.out)
      have F1k := Lib.hid (show Blk w1 (w.heap.size) 23 #[.int .i64 n, .int .i64 d] by rw [hw]; exact Blk.new _ _ _)
      rw [← hw]
      clear hw
      refine (valid_r n d w1 h1 h2 h3 h4).mono ?_
      rw [HV.out]
      rintro e w2 ⟨rfl, HB2⟩
      have F2t := Lib.hid (F1t.out.belowW HB2.out)
      have F2k := Lib.hid (F1k.out.belowW HB2.out)
      have HL2 := Lib.hid (HB1.out.trans (HB2.out.mono HB1.out.size))
      have pk0 : (w2).cell? ⟨w.heap.size, 0, none⟩ = some (.int .i64 n) := F2k.out.cell 0
      have fk0 : (w2).frozen? ⟨w.heap.size, 0, none⟩ = false := F2k.out.frozen 0
      have pk1 : (w2).cell? ⟨w.heap.size, 1, none⟩ = some (.int .i64 d) := F2k.out.cell 1
      have fk1 : (w2).frozen? ⟨w.heap.size, 1, none⟩ = false := F2k.out.frozen 1
      go_wp2_with fail
      refine (decimal_any n w2 n1 n2).mono ?_
      rintro e w3 ⟨A, rfl, HA, HB3⟩
      have F3t := Lib.hid (F2t.out.belowW HB3.out)
      have F3k := Lib.hid (F2k.out.belowW HB3.out)
      have HL3 := Lib.hid (HL2.out.trans (HB3.out.mono HL2.out.size))
      go_wp2_with fail
      go_ret
      exact ⟨A, rfl, Lib.hid (by rw [HR.out]; exact HA.out), HL3⟩
    · have HR := Lib.hid (show textE n d = Lib.itoa n ++ 47 :: Lib.itoa d by unfold textE textR; rw [hv, if_neg hd]; rfl)
      have dd : (d == 1) = false := by simp [hd]
      clear hv hd
      go_enter Tryz.func25, Tryz.ntmps25
      go_wp2_with fail
      obtain ⟨w1, hw⟩ : ∃ z9 : World, z9 = (w.alloc (.cells #[.int .i64 n, .int .i64 d] 23)) := ⟨_, rfl⟩
      have HB1 := Lib.hid (show Below w.heap.size w w1 by rw [hw]; exact below_a1 _ _)
      have F1t := Lib.hid (HT.out.belowW HB1.out)
      have F1k := Lib.hid (show Blk w1 (w.heap.size) 23 #[.int .i64 n, .int .i64 d] by rw [hw]; exact Blk.new _ _ _)
      rw [← hw]
      clear hw
      refine (valid_r n d w1 h1 h2 h3 h4).mono ?_
      rw [HV.out]
      rintro e w2 ⟨rfl, HB2⟩
      have F2t := Lib.hid (F1t.out.belowW HB2.out)
      have F2k := Lib.hid (F1k.out.belowW HB2.out)
      have HL2 := Lib.hid (HB1.out.trans (HB2.out.mono HB1.out.size))
      have pk0 : (w2).cell? ⟨w.heap.size, 0, none⟩ = some (.int .i64 n) := F2k.out.cell 0
      have fk0 : (w2).frozen? ⟨w.heap.size, 0, none⟩ = false := F2k.out.frozen 0
      have pk1 : (w2).cell? ⟨w.heap.size, 1, none⟩ = some (.int .i64 d) := F2k.out.cell 1
      have fk1 : (w2).frozen? ⟨w.heap.size, 1, none⟩ = false := F2k.out.frozen 1
      go_wp2_with fail
      have z0 : w2.drew.cell? ⟨w.heap.size, 0, none⟩ = some (.int .i64 n) := F2k.out.cell 0
      have z1 : w2.drew.cell? ⟨w.heap.size, 1, none⟩ = some (.int .i64 d) := F2k.out.cell 1
      have KN := Lib.hid (fun w => decimal_any n w n1 n2)
      have KD := Lib.hid (fun w => decimal_any d w m1 m2)
      have HS := Lib.hid (And.intro (And.intro h1 h2) (And.intro h3 h4))
      clear n1 n2 m1 m2
      go_region_held3 (fun w' => w'.cell? ⟨w.heap.size, 0, none⟩ = some (.int .i64 n) ∧ w'.cell? ⟨w.heap.size, 1, none⟩ = some (.int .i64 d)) ((with_reducible refine ⟨?_, ?_⟩) <;> (with_reducible assumption)) (first
        | (go_at_call_of 64 (Value.int .i64 n)
           (with_reducible refine (KN.out _).mono ?_)
           rintro e x1 ⟨A, rfl, HA, HX1⟩
           have H1 := Lib.hid (show Below w2.heap.size w2 x1 from ⟨HX1.out.os, HX1.out.tape, HX1.out.output, HX1.out.size, HX1.out.block⟩)
           have K1 := Lib.hid (F2k.out.belowW H1.out)
           have zA : ¬ 9223372036854775807 < A.size + 1 := size_one HA.out HS.out.1.1 HS.out.1.2
           have y0 : x1.cell? ⟨w.heap.size, 0, none⟩ = some (.int .i64 n) := K1.out.cell 0
           have y1 : x1.cell? ⟨w.heap.size, 1, none⟩ = some (.int .i64 d) := K1.out.cell 1)
        | (go_at_call_of 64 (Value.int .i64 d)
           (with_reducible refine (KD.out _).mono ?_)
           rintro e x2 ⟨B, rfl, HYb, HX2⟩
           have H2 := Lib.hid (H1.out.trans (HX2.out.mono H1.out.size))
           have K2 := Lib.hid (F2k.out.belowW H2.out)
           have zB : ¬ 9223372036854775807 < A.size + 1 + B.size := size_sum' HA.out HYb.out HS.out.1.1 HS.out.1.2 HS.out.2.1 HS.out.2.2
           have v0 : x2.cell? ⟨w.heap.size, 0, none⟩ = some (.int .i64 n) := K2.out.cell 0
           have v1 : x2.cell? ⟨w.heap.size, 1, none⟩ = some (.int .i64 d) := K2.out.cell 1))
      go_wp2_with fail
      go_ret
      exact ⟨A ++ ⟨#[47]⟩ ++ B, rfl, Lib.hid (by rw [HR.out, data_app, data_app, HA.out, HYb.out]; simp), Lib.hid (HL2.out.trans (H2.out.mono HL2.out.size))⟩

end Go.Proofs.YtnogfceojmnjiaaGreatDoor
