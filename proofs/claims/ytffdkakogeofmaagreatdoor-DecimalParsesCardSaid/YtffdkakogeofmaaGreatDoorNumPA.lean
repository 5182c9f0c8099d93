/-
  The walks of natural's Parse.
-/
import Derived.Test.YtffdkakogeofmaaGreatDoorPkB
import Derived.Test.YtffdkakogeofmaaGreatDoorNumV
import Derived.Deep.RegionHeld3
import Derived.Deep.RegionWith
import Derived.Lib.SlTrimSet
import Derived.Outline
set_option linter.unusedVariables false
namespace Go.Fl.Nm
open Go.Lib Go.RowKit Go.Fl
def digits10 : List UInt8 := [48, 49, 50, 51, 52, 53, 54, 55, 56, 57]
def isDig (b : UInt8) : Bool := decide (48 ≤ b.toNat) && decide (b.toNat ≤ 57)
theorem digits_contains (b : UInt8) : digits10.contains b = isDig b := by
  have h : ∀ k : Fin 256, digits10.contains (UInt8.ofNat k.val) = isDig (UInt8.ofNat k.val) := by decide +kernel
  have := h ⟨b.toNat, b.toNat_lt⟩
  simpa using this
theorem dw_nil (p : UInt8 → Bool) (l : List UInt8) : l.dropWhile p = [] ↔ ∀ x ∈ l, p x = true := by
  induction l with
  | nil => simp
  | cons x l ih =>
    by_cases h : p x = true
    · rw [List.dropWhile_cons_of_pos h, ih]; simp [h]
    · rw [List.dropWhile_cons_of_neg h]
      constructor
      · intro e; cases e
      · intro e; exact absurd (e x (by simp)) h
theorem dw_head {p : UInt8 → Bool} {l : List UInt8} {y : UInt8} {r : List UInt8} (h : l.dropWhile p = y :: r) : p y = false := by
  induction l with
  | nil => cases h
  | cons x l ih =>
    by_cases hx : p x = true
    · rw [List.dropWhile_cons_of_pos hx] at h; exact ih h
    · rw [List.dropWhile_cons_of_neg hx] at h
      injection h with h1 h2
      rw [← h1]; simpa using hx
theorem trim_digits (l : List UInt8) : (trimS l digits10 = []) ↔ l.all isDig = true := by
  have e : (fun b => digits10.contains b) = isDig := funext digits_contains
  unfold trimS trimLeftS trimRightS
  rw [e, dw_nil]
  constructor
  · intro h
    rw [List.all_eq_true]
    intro x hx
    cases hh : l.reverse.dropWhile isDig with
    | nil => exact (dw_nil _ _).1 hh x (by simpa using hx)
    | cons y r =>
      have h1 := dw_head hh
      have h2 := h y (by rw [hh]; simp)
      rw [h1] at h2
      cases h2
  · intro h x hx
    rw [List.all_eq_true] at h
    rw [(dw_nil isDig l.reverse).2 (fun y hy => h y (by simpa using hy))] at hx
    simp at hx
/-- The value of a numeral. -/
def dval (l : List UInt8) : Nat := l.foldl (fun v b => 10 * v + (b.toNat - 48)) 0
theorem dval_snoc (l : List UInt8) (b : UInt8) : dval (l ++ [b]) = 10 * dval l + (b.toNat - 48) := by simp [dval]
theorem dval_lt_from : ∀ (l : List UInt8) (v : Nat), l.all isDig = true → l.foldl (fun v b => 10 * v + (b.toNat - 48)) v < (v + 1) * 10 ^ l.length := by
  intro l
  induction l with
  | nil => intro v _; simp
  | cons b l ih =>
    intro v h
    rw [List.all_cons, Bool.and_eq_true] at h
    have h2 : b.toNat ≤ 57 := by
      have := h.1
      simp [isDig] at this
      omega
    have h1 := ih (10 * v + (b.toNat - 48)) h.2
    have h3 : (10 * v + (b.toNat - 48) + 1) * 10 ^ l.length ≤ ((v + 1) * 10) * 10 ^ l.length := Nat.mul_le_mul_right _ (by omega)
    rw [List.foldl_cons, List.length_cons, Nat.pow_succ, Nat.mul_comm (10 ^ l.length), ← Nat.mul_assoc]
    omega
theorem dval_lt (l : List UInt8) (h : l.all isDig = true) : dval l < 10 ^ l.length := by
  have := dval_lt_from l 0 h
  simpa [dval] using this
/-- The texts that are decimal numerals. -/
def isNum (l : List UInt8) : Bool := l.all isDig && decide (0 < l.length) && (decide (l.head? ≠ some 48) || decide (l.length = 1))
theorem num_len {l : List UInt8} (h : l.all isDig = true) (hl : l.length ≤ 1000) : (limbs (dval l)).length ≤ 200 := by
  apply len_two_pow (p := 4 * l.length) _ (by omega)
  have h1 := dval_lt l h
  have h2 : (10 : Nat) ^ l.length ≤ 16 ^ l.length := Nat.pow_le_pow_left (by omega) _
  have h3 : (16 : Nat) ^ l.length = 2 ^ (4 * l.length) := by rw [Nat.pow_mul]
  omega
theorem dval_dec (v : Nat) : dval (decDigits v) = v := by
  induction v using Nat.strongRecOn with
  | ind v ih =>
    by_cases h : v < 10
    · rw [decDigits_one h]
      simp [dval]; omega
    · rw [dec_big h, dval_snoc, ih (v / 10) (by omega)]
      have : (UInt8.ofNat (48 + v % 10)).toNat = 48 + v % 10 := by simp; omega
      rw [this]; omega
theorem dec_digits (v : Nat) : (decDigits v).all isDig = true := by
  induction v using Nat.strongRecOn with
  | ind v ih =>
    by_cases h : v < 10
    · rw [decDigits_one h]
      simp [isDig]; omega
    · rw [dec_big h, List.all_append, ih (v / 10) (by omega)]
      simp [isDig]; omega
theorem dec_head (v : Nat) (hv : 0 < v) : (decDigits v).head? ≠ some 48 := by
  induction v using Nat.strongRecOn with
  | ind v ih =>
    by_cases h : v < 10
    · rw [decDigits_one h]
      intro e
      simp at e
      have := congrArg UInt8.toNat e
      simp at this
      omega
    · rw [dec_big h]
      have h1 := ih (v / 10) (by omega) (by omega)
      cases hd : decDigits (v / 10) with
      | nil =>
        have := decDigits_length (v / 10)
        rw [hd] at this
        have := Go.Fl.Nm.nDigits_pos (v / 10)
        simp at *
        omega
      | cons x r => rw [hd] at h1; simpa using h1
theorem dec_num (v : Nat) : isNum (decDigits v) = true := by
  unfold isNum
  rw [dec_digits, decDigits_length]
  have := Go.Fl.Nm.nDigits_pos v
  rcases Nat.eq_zero_or_pos v with h | h
  · subst h
    rw [nDigits_small (by omega)]
    simp
  · simp [dec_head v h, this]
end Go.Fl.Nm

namespace Go.Proofs.YtffdkakogeofmaaGreatDoor
open Go.RowKit Go.Fl Go.Fl.Nm

set_option maxHeartbeats 400000 in
theorem nParse_full (s : ByteArray) (w : World) (h : 1000 < s.size) (hs : s.size ≤ maxLen) :
    Calls Tryz.prog 63 #[.string s] w (ErrP 5 w) := by
  have hd : decide ((1000 : Int) < s.size) = true := by simp; omega
  unfold maxLen at hs
  go_enter Tryz.func63, Tryz.ntmps63
  go_wp2_with fail
  refine bodyPost_ret (v := .tuple #[.slice none 0 0, .int .i64 5]) (by simp [results, Tryz.results63, go_sem]) rfl ?_
  exact ⟨rfl, Lib.hid (Below.refl _ _)⟩

theorem bl_data (s : ByteArray) : s.toList = s.data.toList := by
  rw [ByteArray.toList_eq]
theorem head_dig (s : ByteArray) (h : 0 < s.size) : s.data.toList.head? = some s[0] := by
  have h2 : 0 < s.data.size := h
  rw [List.head?_eq_getElem?, List.getElem?_eq_getElem (by simpa using h2)]
  rfl

set_option maxHeartbeats 800000 in
theorem nParse_form (s : ByteArray) (w : World) (h : s.size ≤ 1000) (hn : isNum s.data.toList = false) :
    Calls Tryz.prog 63 #[.string s] w (ErrP 3 w) := by
  have hd : decide ((1000 : Int) < s.size) = false := by simp; omega
  have HN := Lib.hid hn
  clear hn
  have hlen : s.data.toList.length = s.size := rfl
  by_cases h0 : s.size = 0
  · have hE : s.toList.isEmpty = true := by
      rw [bl_data, List.isEmpty_iff, ← List.length_eq_zero_iff]; omega
    clear h0 hlen
    go_enter Tryz.func63, Tryz.ntmps63
    go_wp2_with fail
    refine bodyPost_ret (v := .tuple #[.slice none 0 0, .int .i64 3]) (by simp [results, Tryz.results63, go_sem]) rfl ?_
    exact ⟨rfl, Lib.hid (Below.refl _ _)⟩
  · have hE : s.toList.isEmpty = false := by
      rw [bl_data]
      cases hh : s.data.toList with
      | nil => rw [hh] at hlen; simp at hlen; omega
      | cons x r => rfl
    have hp : 0 < s.size := by omega
    have HH := Lib.hid (head_dig s hp)
    have HLEN := Lib.hid hlen
    clear h0 hlen
    by_cases hz : s[0].toNat = 48 ∧ 1 < s.size
    · have hz1 : ((s[0].toNat : Int) == 48) = true := by rw [beq_iff_eq]; omega
      have hz2 : decide ((1 : Int) < s.size) = true := by simp; omega
      clear hz
      go_enter Tryz.func63, Tryz.ntmps63
      go_wp2_with fail
      refine bodyPost_ret (v := .tuple #[.slice none 0 0, .int .i64 3]) (by simp [results, Tryz.results63, go_sem]) rfl ?_
      exact ⟨rfl, Lib.hid (Below.refl _ _)⟩
    · have hall : s.data.toList.all isDig = false := by
        cases hh : s.data.toList.all isDig with
        | false => rfl
        | true =>
          have := HN.out
          unfold isNum at this
          rw [hh, HLEN.out, HH.out] at this
          simp [hp] at this
          exfalso
          apply hz
          have h48 := congrArg UInt8.toNat this.1
          simp at h48
          exact ⟨h48, by omega⟩
      have HT := Lib.hid (show Lib.trimS s.data.toList [48, 49, 50, 51, 52, 53, 54, 55, 56, 57] ≠ [] from fun e => by
        have := (trim_digits s.data.toList).1 e
        rw [hall] at this
        cases this)
      have KT := Lib.hid (Tryz.strings_Trim_digits s w (by omega))
      have hts : (⟨(Lib.trimS s.data.toList [48, 49, 50, 51, 52, 53, 54, 55, 56, 57]).toArray⟩ : ByteArray).toList.isEmpty = false := by
        rw [bl_data]
        cases hh : Lib.trimS s.data.toList [48, 49, 50, 51, 52, 53, 54, 55, 56, 57] with
        | nil => exact absurd hh HT.out
        | cons x r => rfl
      generalize (⟨(Lib.trimS s.data.toList [48, 49, 50, 51, 52, 53, 54, 55, 56, 57]).toArray⟩ : ByteArray) = ts at *
      clear hall HT
      by_cases hz0 : s[0].toNat = 48
      · have hz1 : ((s[0].toNat : Int) == 48) = true := by rw [beq_iff_eq]; omega
        have hz2 : decide ((1 : Int) < s.size) = false := by simp; omega
        clear hz hz0
        go_enter Tryz.func63, Tryz.ntmps63
        go_wp2_with fail
        refine KT.out.mono ?_
        rintro e w1 ⟨rfl, hb⟩
        go_wp2_with fail
        refine bodyPost_ret (v := .tuple #[.slice none 0 0, .int .i64 3]) (by simp [results, Tryz.results63, go_sem]) rfl ?_
        exact ⟨rfl, Lib.hid hb⟩
      · have hz1 : ((s[0].toNat : Int) == 48) = false := by rw [beq_eq_false_iff_ne]; omega
        clear hz hz0
        go_enter Tryz.func63, Tryz.ntmps63
        go_wp2_with fail
        refine KT.out.mono ?_
        rintro e w1 ⟨rfl, hb⟩
        go_wp2_with fail
        refine bodyPost_ret (v := .tuple #[.slice none 0 0, .int .i64 3]) (by simp [results, Tryz.results63, go_sem]) rfl ?_
        exact ⟨rfl, Lib.hid hb⟩

def ParRel (w : World) (s : ByteArray) (k : Nat) (ov iv : Value) (wr : World) : Prop :=
  ∃ (i : Nat) (X : Option Addr) (n c : Nat) (l : List Nat), iv = .int .i64 i ∧ ov = .slice X n c ∧ i ≤ s.size ∧ k = s.size - i ∧ Hid (Nw wr tU w.heap.size X n c l) ∧ Hid (val l = dval (s.data.toList.take i)) ∧ Hid (tl l = n) ∧ n ≤ 200 ∧ Hid (Below w.heap.size w wr)

set_option maxHeartbeats 1600000 in
set_option maxRecDepth 100000 in
theorem nParse_ok (s : ByteArray) (w : World) (h : s.size ≤ 1000) (hn : isNum s.data.toList = true) :
    Calls Tryz.prog 63 #[.string s] w (Res w.heap.size (dval s.data.toList) w) := by
  have hd : decide ((1000 : Int) < s.size) = false := by simp; omega
  have hlen : s.data.toList.length = s.size := rfl
  have hall : s.data.toList.all isDig = true := by
    unfold isNum at hn
    rw [Bool.and_eq_true, Bool.and_eq_true] at hn
    exact hn.1.1
  have hp : 0 < s.size := by
    unfold isNum at hn
    rw [Bool.and_eq_true, Bool.and_eq_true] at hn
    have := hn.1.2
    simp at this
    rw [← hlen]
    rcases Nat.eq_zero_or_pos s.data.toList.length with h0 | h0
    · have := List.eq_nil_of_length_eq_zero h0
      simp_all
    · exact h0
  have hz : s[0].toNat = 48 → s.size = 1 := fun hz => by
    have h2 := hn
    unfold isNum at h2
    rw [Bool.and_eq_true, Bool.or_eq_true] at h2
    rcases h2.2 with h3 | h3
    · exfalso
      rw [head_dig s hp] at h3
      have : s[0] = 48 := UInt8.toNat_inj.1 hz
      simp [this] at h3
    · have := of_decide_eq_true h3
      omega
  have hE : s.toList.isEmpty = false := by
    rw [bl_data]
    cases hh : s.data.toList with
    | nil => rw [hh] at hlen; simp at hlen; omega
    | cons x r => rfl
  have HT := Lib.hid ((trim_digits s.data.toList).2 hall)
  have KT := Lib.hid (Tryz.strings_Trim_digits s w (by omega))
  rw [show Lib.trimS s.data.toList [48, 49, 50, 51, 52, 53, 54, 55, 56, 57] = [] from HT.out] at KT
  have HALL := Lib.hid hall
  clear hn hall HT
  by_cases hz0 : s[0].toNat = 48
  · have hz1 : ((s[0].toNat : Int) == 48) = true := by rw [beq_iff_eq]; omega
    have hz2 : decide ((1 : Int) < s.size) = false := by have := hz hz0; simp; omega
    clear hz hz0 hlen
    go_enter Tryz.func63, Tryz.ntmps63
    go_wp2_with fail
    refine KT.out.mono ?_
    rintro e w1 ⟨rfl, hb⟩
    have HB1 := Lib.hid hb
    clear hb
    go_wp2_with fail
    go_loopg [4, 28] s.size (ParRel w s)
    case atStart => exact ⟨0, none, 0, 0, [], rfl, rfl, by omega, rfl, Lib.hid (Nw.none_ _ _ _), Lib.hid rfl, Lib.hid rfl, by omega, HB1⟩
    case round =>
      obtain ⟨i, X, n, c, l, rfl, rfl, hi, rfl, HX, HXV, HXT, hn, HBL⟩ := hrel
      by_cases hin : i < s.size
      · have hdi : decide (i < s.size) = true := by simpa using hin
        have b0 : (0 : Int) ≤ i := by omega
        have b1 : (i : Int) < s.size := by omega
        go_wp2_with fail
        obtain ⟨q, hq⟩ : ∃ q, s.data.toList[i]? = some q := ⟨_, List.getElem?_eq_getElem hin⟩
        have hsi : s[i] = q := by
          have h1 := List.getElem?_eq_getElem (l := s.data.toList) hin
          rw [hq] at h1
          injection h1 with h1
          exact h1.symm
        have hqd : 48 ≤ q.toNat ∧ q.toNat ≤ 57 := by
          have h1 := List.all_eq_true.1 HALL.out q (List.mem_of_getElem? hq)
          unfold isDig at h1
          rw [Bool.and_eq_true] at h1
          exact ⟨of_decide_eq_true h1.1, of_decide_eq_true h1.2⟩
        have HQ := Lib.hid hq
        clear hq
        obtain ⟨dd, hdd⟩ : ∃ dd : Nat, (q.toNat : Int) - 48 = dd := ⟨q.toNat - 48, by omega⟩
        have HDD := Lib.hid (show dd = q.toNat - 48 by omega)
        have hd9 : dd ≤ 9 := by omega
        have okd : ok [dd] := by intro x hx; simp at hx; subst hx; unfold BB; omega
        have ok10 : ok [10] := by intro x hx; simp at hx; subst hx; decide
        have hm1 : 1 ≤ maxLen := by unfold maxLen; omega
        have e1 : (wr.alloc (.cells #[.int .u32 (dd : Int)] tU)).heap.size = wr.heap.size + 1 := by simp
        have e2 : (wr.alloc (.cells #[.int .u32 10] tU)).heap.size = wr.heap.size + 1 := by simp
        have A0 := HX.out.sl
        have L0 := HBL.out.size
        have LW1 := Lib.hid (show Below w.heap.size w (wr.alloc (.cells #[.int .u32 10] tU)).drew from below_drewN (HBL.out.alloc L0 _) 1)
        have LW2 := Lib.hid (show Below w.heap.size w ((wr.alloc (.cells #[.int .u32 10] tU)).alloc (.cells #[.int .u32 (dd : Int)] tU)).drew from below_drewN ((HBL.out.alloc L0 _).alloc (by rw [e2]; omega) _) 1)
        have LW3 := Lib.hid (show Below w.heap.size w ((wr.alloc (.cells #[.int .u32 (dd : Int)] tU)).alloc (.cells #[.int .u32 10] tU)).drew from below_drewN ((HBL.out.alloc L0 _).alloc (by rw [e1]; omega) _) 1)
        have A1 := Lib.hid (show Sl (wr.alloc (.cells #[.int .u32 10] tU)).drew X n c l from (A0.alloc _).drewN 1)
        have A2 := Lib.hid (show Sl ((wr.alloc (.cells #[.int .u32 10] tU)).alloc (.cells #[.int .u32 (dd : Int)] tU)).drew X n c l from ((A0.alloc _).alloc _).drewN 1)
        have A3 := Lib.hid (show Sl ((wr.alloc (.cells #[.int .u32 (dd : Int)] tU)).alloc (.cells #[.int .u32 10] tU)).drew X n c l from ((A0.alloc _).alloc _).drewN 1)
        have M1 := Lib.hid (show Sl (wr.alloc (.cells #[.int .u32 10] tU)).drew (some ⟨wr.heap.size, 0, none⟩) 1 1 [10] from (Sl.new (w := wr) (t := tU) (l := [10]) 1 ok10 rfl hm1).drewN 1)
        have M2 := Lib.hid (show Sl ((wr.alloc (.cells #[.int .u32 10] tU)).alloc (.cells #[.int .u32 (dd : Int)] tU)).drew (some ⟨wr.heap.size, 0, none⟩) 1 1 [10] from ((Sl.new (w := wr) (t := tU) (l := [10]) 1 ok10 rfl hm1).alloc _).drewN 1)
        have M3 := Lib.hid (show Sl ((wr.alloc (.cells #[.int .u32 (dd : Int)] tU)).alloc (.cells #[.int .u32 10] tU)).drew (some ⟨wr.heap.size + 1, 0, none⟩) 1 1 [10] from by
          rw [← e1]; exact (Sl.new (w := wr.alloc (.cells #[.int .u32 (dd : Int)] tU)) (t := tU) (l := [10]) 1 ok10 rfl hm1).drewN 1)
        have D2 := Lib.hid (show Sl ((wr.alloc (.cells #[.int .u32 10] tU)).alloc (.cells #[.int .u32 (dd : Int)] tU)).drew (some ⟨wr.heap.size + 1, 0, none⟩) 1 1 [dd] from by
          rw [← e2]; exact (Sl.new (w := wr.alloc (.cells #[.int .u32 10] tU)) (t := tU) (l := [dd]) 1 okd rfl hm1).drewN 1)
        have D3 := Lib.hid (show Sl ((wr.alloc (.cells #[.int .u32 (dd : Int)] tU)).alloc (.cells #[.int .u32 10] tU)).drew (some ⟨wr.heap.size, 0, none⟩) 1 1 [dd] from ((Sl.new (w := wr) (t := tU) (l := [dd]) 1 okd rfl hm1).alloc _).drewN 1)
        have HVS := Lib.hid (show val l * val [10] + val [dd] = dval (s.data.toList.take (i + 1)) by
          rw [take_succ_at HQ.out, dval_snoc, ← HXV.out, ← HDD.out]
          simp [val]; omega)
        have HOK := Lib.hid okd
        have hw1 : IntKind.u8.wrap (dd : Int) = dd := by simp [IntKind.wrap, IntKind.bits, IntKind.signed]; omega
        have hw2 : IntKind.u32.wrap (dd : Int) = dd := by simp [IntKind.wrap, IntKind.bits, IntKind.signed]; omega
        clear e1 e2 A0 ok10 okd
        go_region_with (first
          | (go_at_call 94
             refine (mul_any X _ n c 1 1 l [10] _ (by first | exact A1.out | exact A2.out | exact A3.out) (by first | exact M1.out | exact M2.out | exact M3.out) (by omega) (by omega)).mono ?_
             rintro e w2 ⟨M, nm, cm, lm, rfl, HM, HMV, hnm, HB2⟩
             have HL2 := Lib.hid (show Below w.heap.size w w2 from by first | exact LW1.out.trans (HB2.out.mono LW1.out.size) | exact LW2.out.trans (HB2.out.mono LW2.out.size) | exact LW3.out.trans (HB2.out.mono LW3.out.size)))
          | (go_at_call 102
             refine (add_any M _ nm cm 1 1 lm [dd] _ (by first | exact HM.out.sl | exact HM.out.sl.alloc _) (by first | exact D2.out.below HB2.out | exact D3.out.below HB2.out | exact Sl.new (w := w2) (t := tU) (l := [dd]) 1 HOK.out rfl hm1) (by omega) (by omega)).mono ?_
             rintro e w3 ⟨S, ns, cs, ls, rfl, HS, HSV, hns, HB3⟩
             have HL3 := Lib.hid (show Below w.heap.size w w3 from by first | exact HL2.out.trans (HB3.out.mono HL2.out.size) | exact (HL2.out.alloc HL2.out.size _).trans (HB3.out.mono (Nat.le_trans HL2.out.size (by simp))))
             have HS3 := Lib.hid (show Nw w3 tU w.heap.size S ns cs ls from by first | exact HS.out.base HL2.out.size | exact HS.out.base (Nat.le_trans HL2.out.size (by simp)))))
        all_goals
          (have htn := (trim_nw HS3.out).1
           have HTN := Lib.hid (trim_nw HS3.out).2
           have HTV := Lib.hid (val_trim ls)
           have HTT := Lib.hid (tl_take ls)
           have HTL := Lib.hid (tl_limbs HS3.out.sl.ok)
           have HV3 := Lib.hid (show val ls = dval (s.data.toList.take (i + 1)) by rw [HSV.out, HMV.out]; exact HVS.out)
           rw [HV3.out] at HTV HTL
           have hk200 : tl ls ≤ 200 := by
             rw [HTL.out]
             exact num_len (by
               rw [List.all_eq_true]
               intro x hx
               exact List.all_eq_true.1 HALL.out x (List.mem_of_mem_take hx)) (by rw [List.length_take]; omega)
           generalize hky : tl ls = ky at *
           have HKY := Lib.hid hky
           clear hky
           go_wp2_with fail
           refine (trim_any S ns cs ls w3 HS3.out.sl).mono ?_
           rintro e w4 ⟨rfl, rfl⟩
           rw [HKY.out]
           go_wp2_with fail
           go_roundg (s.size - (i + 1))
           case measure => omega
           case rel => exact ⟨i + 1, S, ky, cs, _, by go_num, rfl, by omega, rfl, HTN, HTV, HTT, hk200, HL3⟩)
      · obtain rfl : i = s.size := by omega
        have hdi : decide (s.size < s.size) = false := by simp
        have HVE := Lib.hid (show val l = dval s.data.toList by
          rw [HXV.out, List.take_of_length_le (show s.data.toList.length ≤ s.size from Nat.le_refl _)])
        go_wp2_with fail
        refine (done_any X n c l wr w.heap.size HX.out).mono ?_
        rw [HVE.out]
        rintro e w3 ⟨D, y, ly, er, rfl, HN3, HR3, HL3⟩
        go_wp2_with fail
        refine bodyPost_ret (v := .tuple #[.slice D y y, .int .i64 er]) (by simp [results, Tryz.results63, go_sem]) rfl ?_
        exact ⟨D, y, ly, er, rfl, HN3, HR3, Lib.hid (HBL.out.trans (HL3.out.mono HBL.out.size))⟩
  · have hz1 : ((s[0].toNat : Int) == 48) = false := by rw [beq_eq_false_iff_ne]; omega
    clear hz hz0 hlen
    go_enter Tryz.func63, Tryz.ntmps63
    go_wp2_with fail
    refine KT.out.mono ?_
    rintro e w1 ⟨rfl, hb⟩
    have HB1 := Lib.hid hb
    clear hb
    go_wp2_with fail
    go_loopg [4, 28] s.size (ParRel w s)
    case atStart => exact ⟨0, none, 0, 0, [], rfl, rfl, by omega, rfl, Lib.hid (Nw.none_ _ _ _), Lib.hid rfl, Lib.hid rfl, by omega, HB1⟩
    case round =>
      obtain ⟨i, X, n, c, l, rfl, rfl, hi, rfl, HX, HXV, HXT, hn, HBL⟩ := hrel
      by_cases hin : i < s.size
      · have hdi : decide (i < s.size) = true := by simpa using hin
        have b0 : (0 : Int) ≤ i := by omega
        have b1 : (i : Int) < s.size := by omega
        go_wp2_with fail
        obtain ⟨q, hq⟩ : ∃ q, s.data.toList[i]? = some q := ⟨_, List.getElem?_eq_getElem hin⟩
        have hsi : s[i] = q := by
          have h1 := List.getElem?_eq_getElem (l := s.data.toList) hin
          rw [hq] at h1
          injection h1 with h1
          exact h1.symm
        have hqd : 48 ≤ q.toNat ∧ q.toNat ≤ 57 := by
          have h1 := List.all_eq_true.1 HALL.out q (List.mem_of_getElem? hq)
          unfold isDig at h1
          rw [Bool.and_eq_true] at h1
          exact ⟨of_decide_eq_true h1.1, of_decide_eq_true h1.2⟩
        have HQ := Lib.hid hq
        clear hq
        obtain ⟨dd, hdd⟩ : ∃ dd : Nat, (q.toNat : Int) - 48 = dd := ⟨q.toNat - 48, by omega⟩
        have HDD := Lib.hid (show dd = q.toNat - 48 by omega)
        have hd9 : dd ≤ 9 := by omega
        have okd : ok [dd] := by intro x hx; simp at hx; subst hx; unfold BB; omega
        have ok10 : ok [10] := by intro x hx; simp at hx; subst hx; decide
        have hm1 : 1 ≤ maxLen := by unfold maxLen; omega
        have e1 : (wr.alloc (.cells #[.int .u32 (dd : Int)] tU)).heap.size = wr.heap.size + 1 := by simp
        have e2 : (wr.alloc (.cells #[.int .u32 10] tU)).heap.size = wr.heap.size + 1 := by simp
        have A0 := HX.out.sl
        have L0 := HBL.out.size
        have LW1 := Lib.hid (show Below w.heap.size w (wr.alloc (.cells #[.int .u32 10] tU)).drew from below_drewN (HBL.out.alloc L0 _) 1)
        have LW2 := Lib.hid (show Below w.heap.size w ((wr.alloc (.cells #[.int .u32 10] tU)).alloc (.cells #[.int .u32 (dd : Int)] tU)).drew from below_drewN ((HBL.out.alloc L0 _).alloc (by rw [e2]; omega) _) 1)
        have LW3 := Lib.hid (show Below w.heap.size w ((wr.alloc (.cells #[.int .u32 (dd : Int)] tU)).alloc (.cells #[.int .u32 10] tU)).drew from below_drewN ((HBL.out.alloc L0 _).alloc (by rw [e1]; omega) _) 1)
        have A1 := Lib.hid (show Sl (wr.alloc (.cells #[.int .u32 10] tU)).drew X n c l from (A0.alloc _).drewN 1)
        have A2 := Lib.hid (show Sl ((wr.alloc (.cells #[.int .u32 10] tU)).alloc (.cells #[.int .u32 (dd : Int)] tU)).drew X n c l from ((A0.alloc _).alloc _).drewN 1)
        have A3 := Lib.hid (show Sl ((wr.alloc (.cells #[.int .u32 (dd : Int)] tU)).alloc (.cells #[.int .u32 10] tU)).drew X n c l from ((A0.alloc _).alloc _).drewN 1)
        have M1 := Lib.hid (show Sl (wr.alloc (.cells #[.int .u32 10] tU)).drew (some ⟨wr.heap.size, 0, none⟩) 1 1 [10] from (Sl.new (w := wr) (t := tU) (l := [10]) 1 ok10 rfl hm1).drewN 1)
        have M2 := Lib.hid (show Sl ((wr.alloc (.cells #[.int .u32 10] tU)).alloc (.cells #[.int .u32 (dd : Int)] tU)).drew (some ⟨wr.heap.size, 0, none⟩) 1 1 [10] from ((Sl.new (w := wr) (t := tU) (l := [10]) 1 ok10 rfl hm1).alloc _).drewN 1)
        have M3 := Lib.hid (show Sl ((wr.alloc (.cells #[.int .u32 (dd : Int)] tU)).alloc (.cells #[.int .u32 10] tU)).drew (some ⟨wr.heap.size + 1, 0, none⟩) 1 1 [10] from by
          rw [← e1]; exact (Sl.new (w := wr.alloc (.cells #[.int .u32 (dd : Int)] tU)) (t := tU) (l := [10]) 1 ok10 rfl hm1).drewN 1)
        have D2 := Lib.hid (show Sl ((wr.alloc (.cells #[.int .u32 10] tU)).alloc (.cells #[.int .u32 (dd : Int)] tU)).drew (some ⟨wr.heap.size + 1, 0, none⟩) 1 1 [dd] from by
          rw [← e2]; exact (Sl.new (w := wr.alloc (.cells #[.int .u32 10] tU)) (t := tU) (l := [dd]) 1 okd rfl hm1).drewN 1)
        have D3 := Lib.hid (show Sl ((wr.alloc (.cells #[.int .u32 (dd : Int)] tU)).alloc (.cells #[.int .u32 10] tU)).drew (some ⟨wr.heap.size, 0, none⟩) 1 1 [dd] from ((Sl.new (w := wr) (t := tU) (l := [dd]) 1 okd rfl hm1).alloc _).drewN 1)
        have HVS := Lib.hid (show val l * val [10] + val [dd] = dval (s.data.toList.take (i + 1)) by
          rw [take_succ_at HQ.out, dval_snoc, ← HXV.out, ← HDD.out]
          simp [val]; omega)
        have HOK := Lib.hid okd
        have hw1 : IntKind.u8.wrap (dd : Int) = dd := by simp [IntKind.wrap, IntKind.bits, IntKind.signed]; omega
        have hw2 : IntKind.u32.wrap (dd : Int) = dd := by simp [IntKind.wrap, IntKind.bits, IntKind.signed]; omega
        clear e1 e2 A0 ok10 okd
        go_region_with (first
          | (go_at_call 94
             refine (mul_any X _ n c 1 1 l [10] _ (by first | exact A1.out | exact A2.out | exact A3.out) (by first | exact M1.out | exact M2.out | exact M3.out) (by omega) (by omega)).mono ?_
             rintro e w2 ⟨M, nm, cm, lm, rfl, HM, HMV, hnm, HB2⟩
             have HL2 := Lib.hid (show Below w.heap.size w w2 from by first | exact LW1.out.trans (HB2.out.mono LW1.out.size) | exact LW2.out.trans (HB2.out.mono LW2.out.size) | exact LW3.out.trans (HB2.out.mono LW3.out.size)))
          | (go_at_call 102
             refine (add_any M _ nm cm 1 1 lm [dd] _ (by first | exact HM.out.sl | exact HM.out.sl.alloc _) (by first | exact D2.out.below HB2.out | exact D3.out.below HB2.out | exact Sl.new (w := w2) (t := tU) (l := [dd]) 1 HOK.out rfl hm1) (by omega) (by omega)).mono ?_
             rintro e w3 ⟨S, ns, cs, ls, rfl, HS, HSV, hns, HB3⟩
             have HL3 := Lib.hid (show Below w.heap.size w w3 from by first | exact HL2.out.trans (HB3.out.mono HL2.out.size) | exact (HL2.out.alloc HL2.out.size _).trans (HB3.out.mono (Nat.le_trans HL2.out.size (by simp))))
             have HS3 := Lib.hid (show Nw w3 tU w.heap.size S ns cs ls from by first | exact HS.out.base HL2.out.size | exact HS.out.base (Nat.le_trans HL2.out.size (by simp)))))
        all_goals
          (have htn := (trim_nw HS3.out).1
           have HTN := Lib.hid (trim_nw HS3.out).2
           have HTV := Lib.hid (val_trim ls)
           have HTT := Lib.hid (tl_take ls)
           have HTL := Lib.hid (tl_limbs HS3.out.sl.ok)
           have HV3 := Lib.hid (show val ls = dval (s.data.toList.take (i + 1)) by rw [HSV.out, HMV.out]; exact HVS.out)
           rw [HV3.out] at HTV HTL
           have hk200 : tl ls ≤ 200 := by
             rw [HTL.out]
             exact num_len (by
               rw [List.all_eq_true]
               intro x hx
               exact List.all_eq_true.1 HALL.out x (List.mem_of_mem_take hx)) (by rw [List.length_take]; omega)
           generalize hky : tl ls = ky at *
           have HKY := Lib.hid hky
           clear hky
           go_wp2_with fail
           refine (trim_any S ns cs ls w3 HS3.out.sl).mono ?_
           rintro e w4 ⟨rfl, rfl⟩
           rw [HKY.out]
           go_wp2_with fail
           go_roundg (s.size - (i + 1))
           case measure => omega
           case rel => exact ⟨i + 1, S, ky, cs, _, by go_num, rfl, by omega, rfl, HTN, HTV, HTT, hk200, HL3⟩)
      · obtain rfl : i = s.size := by omega
        have hdi : decide (s.size < s.size) = false := by simp
        have HVE := Lib.hid (show val l = dval s.data.toList by
          rw [HXV.out, List.take_of_length_le (show s.data.toList.length ≤ s.size from Nat.le_refl _)])
        go_wp2_with fail
        refine (done_any X n c l wr w.heap.size HX.out).mono ?_
        rw [HVE.out]
        rintro e w3 ⟨D, y, ly, er, rfl, HN3, HR3, HL3⟩
        go_wp2_with fail
        refine bodyPost_ret (v := .tuple #[.slice D y y, .int .i64 er]) (by simp [results, Tryz.results63, go_sem]) rfl ?_
        exact ⟨D, y, ly, er, rfl, HN3, HR3, Lib.hid (HBL.out.trans (HL3.out.mono HBL.out.size))⟩
end Go.Proofs.YtffdkakogeofmaaGreatDoor
