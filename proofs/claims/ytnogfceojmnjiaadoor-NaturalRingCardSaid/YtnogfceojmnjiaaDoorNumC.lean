/-
  Walks of long, Clip, done, Cmp, Bits.
-/
import Derived.Test.YtnogfceojmnjiaaDoorNumB
import Derived.Test.YtnogfceojmnjiaaDoorNumShelf
namespace Go.Proofs.YtnogfceojmnjiaaDoor
open Go.RowKit Go.Fl Go.Fl.Nm

theorem bitLen_blen (x : Nat) (h : x < 2 ^ 64) : Lib.bitLen x = blen x := by
  induction x using Nat.strongRecOn with
  | ind x ih =>
    by_cases h0 : x = 0
    · subst h0; rfl
    · rw [Lib.bitLen_half x h0 h, ih (x / 2) (by omega) (by omega)]
      by_cases h1 : x / 2 = 0
      · have : x = 1 := by omega
        subst this; rfl
      · have e : x = 2 ^ 1 * (x / 2) + x % 2 := by omega
        conv => rhs; rw [e]
        rw [blen_mul h1 (by omega)]

/-- A slice value by its parts. -/
abbrev SV := Option Addr × Nat × Nat
def sv (p : SV) : Value := .slice p.1 p.2.1 p.2.2
def longer (K : Nat) (p : SV) : Bool := decide (K < p.2.1)

def LenFn (F K : Nat) : Prop := ∀ (A : Option Addr) (n c : Nat) (w : World), n ≤ maxLen → Calls Tryd.prog F #[.slice A n c] w fun e w' => e = .returned (.bool (decide (K < n))) ∧ w = w'
set_option maxHeartbeats 400000 in
theorem lenFn_natural : LenFn 34 256 := by
  intro A n c w hn
  unfold maxLen at hn
  go_enter Tryd.func34, Tryd.ntmps34
  go_wp2
  go_ret
  exact ⟨ret_bool (by simp; omega), rfl⟩
def IdxPost (b : Bool) (w : World) (e : Ending) (w' : World) : Prop := ∃ r : Int, e = .returned (.int .i64 r) ∧ Hid (decide (0 ≤ r) = b) ∧ w = w'

set_option maxHeartbeats 400000 in
set_option maxRecDepth 100000 in
theorem index_lens_natural (g m : Nat) (xs : List SV) (w : World) (hm : xs.length = m) (hm2 : m ≤ 1000) (hx : ∀ p ∈ xs, p.2.1 ≤ maxLen) (hc : ∀ j p, xs[j]? = some p → w.cell? ⟨g, j, none⟩ = some (sv p)) :
    Calls Tryd.prog 49 #[.slice (some ⟨g, 0, none⟩) m m, .func (.func 34) #[] #[]] w (IdxPost (xs.any (longer 256)) w) := by
  have HM := Lib.hid hm
  have HX := Lib.hid hx
  have HC := Lib.hid hc
  clear hm hx hc
  go_enter Tryd.func49, Tryd.ntmps49
  go_wp2_with fail
  go_loop [8] (fun i => ∃ j : Nat, i = .int .i64 j ∧ j ≤ m ∧ Hid ((xs.take j).any (longer 256) = false)) (fun i => m - (intOf i).toNat)
  case atStart => exact ⟨0, rfl, by omega, Lib.hid (by simp)⟩
  case round =>
    obtain ⟨j, rfl, hj, HA⟩ := hrel
    by_cases hlt : j < m
    · obtain ⟨p, hp⟩ : ∃ p, xs[j]? = some p := ⟨_, List.getElem?_eq_getElem (by rw [HM.out]; exact hlt)⟩
      obtain ⟨A, n, c⟩ := p
      have hcell : w.cell? ⟨g, j, none⟩ = some (.slice A n c) := HC.out j _ hp
      have HP := Lib.hid hp
      have HN := Lib.hid (HX.out _ (List.mem_of_getElem? hp))
      clear hp
      by_cases hk : 256 < n
      · have hk' : decide (256 < n) = true := by simp [hk]
        go_wp2_with fail
        refine (lenFn_natural A n c _ HN.out).mono ?_
        rintro e w1 ⟨rfl, rfl⟩
        rw [hk']
        go_wp2_with fail
        go_ret
        refine ⟨j, rfl, Lib.hid ?_, rfl⟩
        rw [List.any_eq_true.2 ⟨_, List.mem_of_getElem? HP.out, by simpa [longer] using hk⟩]
        simp
      · have hk' : decide (256 < n) = false := by simpa using hk
        go_wp2_with fail
        refine (lenFn_natural A n c _ HN.out).mono ?_
        rintro e w1 ⟨rfl, rfl⟩
        rw [hk']
        go_wp2_with fail
        go_round
        case rel =>
          refine ⟨j + 1, by go_num, by omega, Lib.hid ?_⟩
          rw [take_succ_at HP.out, List.any_append, HA.out]
          simp [longer]; omega
        case measure => simp [intOf]; omega
    · go_wp2_with fail
      go_ret
      refine ⟨-1, rfl, Lib.hid ?_, rfl⟩
      have := HA.out
      rw [List.take_of_length_le (by rw [HM.out]; omega)] at this
      rw [this]
      simp

set_option maxHeartbeats 400000 in
theorem contains_lens_natural (g m : Nat) (xs : List SV) (w : World) (hm : xs.length = m) (hm2 : m ≤ 1000) (hx : ∀ p ∈ xs, p.2.1 ≤ maxLen) (hc : ∀ j p, xs[j]? = some p → w.cell? ⟨g, j, none⟩ = some (sv p)) :
    Calls Tryd.prog 33 #[.slice (some ⟨g, 0, none⟩) m m, .func (.func 34) #[] #[]] w fun e w' => e = .returned (.bool (xs.any (longer 256))) ∧ w = w' := by
  have HI := Lib.hid (index_lens_natural g m xs w hm hm2 hx hc)
  clear hm hx hc
  go_enter Tryd.func33, Tryd.ntmps33
  go_wp2_with fail
  refine HI.out.mono ?_
  rintro e w1 ⟨r, rfl, HB, rfl⟩
  go_wp2_with fail
  go_ret
  exact ⟨ret_bool HB.out, rfl⟩

/-- A function that asks whether one of some slices is longer than K. -/
def LongFn (f K : Nat) : Prop := ∀ (g m : Nat) (xs : List SV) (w : World), xs.length = m → m ≤ 1000 → (∀ p ∈ xs, p.2.1 ≤ maxLen) → (∀ j p, xs[j]? = some p → w.cell? ⟨g, j, none⟩ = some (sv p)) →
    Calls Tryd.prog f #[.slice (some ⟨g, 0, none⟩) m m] w fun e w' => e = .returned (.bool (xs.any (longer K))) ∧ w = w'
set_option maxHeartbeats 400000 in
theorem longFn_natural : LongFn 17 256 := by
  intro g m xs w hm hm2 hx hc
  have HI := Lib.hid (contains_lens_natural g m xs w hm hm2 hx hc)
  clear hm hx hc
  go_enter Tryd.func17, Tryd.ntmps17
  go_wp2_with fail
  refine HI.out.mono ?_
  rintro e w1 ⟨rfl, rfl⟩
  go_wp2_with fail
  go_ret
  exact ⟨rfl, rfl⟩
/-- At one slice, laid in a new block. -/
theorem LongFn.one {f K : Nat} (h : LongFn f K) (A : Option Addr) (n c : Nat) (w : World) (hn : n ≤ maxLen) :
    Calls Tryd.prog f #[.slice (some ⟨w.heap.size, 0, none⟩) 1 1] (w.alloc (.cells #[.slice A n c] 22)) fun e w' => e = .returned (.bool (decide (K < n))) ∧ w' = w.alloc (.cells #[.slice A n c] 22) := by
  refine (h w.heap.size 1 [(A, n, c)] _ rfl (by omega) (by simp [hn]) (fun j p hp => ?_)).mono ?_
  · rw [(Blk.new w _ _).cell]
    match j with
    | 0 => simp at hp; subst hp; rfl
    | j + 1 => simp at hp
  · rintro e w' ⟨rfl, rfl⟩
    exact ⟨by simp [longer], rfl⟩
/-- At two slices. -/
theorem LongFn.two {f K : Nat} (h : LongFn f K) (A B : Option Addr) (n c m d : Nat) (w : World) (hn : n ≤ maxLen) (hm : m ≤ maxLen) :
    Calls Tryd.prog f #[.slice (some ⟨w.heap.size, 0, none⟩) 2 2] (w.alloc (.cells #[.slice A n c, .slice B m d] 22)) fun e w' => e = .returned (.bool (decide (K < n ∨ K < m))) ∧ w' = w.alloc (.cells #[.slice A n c, .slice B m d] 22) := by
  refine (h w.heap.size 2 [(A, n, c), (B, m, d)] _ rfl (by omega) (by simp [hn, hm]) (fun j p hp => ?_)).mono ?_
  · rw [(Blk.new w _ _).cell]
    match j with
    | 0 => simp at hp; subst hp; rfl
    | 1 => simp at hp; subst hp; rfl
    | j + 2 => simp at hp
  · rintro e w' ⟨rfl, rfl⟩
    exact ⟨by simp [longer], rfl⟩

set_option maxHeartbeats 400000 in
theorem clip_any (A : Option Addr) (n c : Nat) (w : World) (hn : n ≤ c) (hc : c ≤ maxLen) (hA : A = none → c = 0) :
    Calls Tryd.prog 24 #[.slice A n c] w fun e w' => e = .returned (.slice A n n) ∧ w = w' := by
  unfold maxLen at hc
  cases A with
  | none =>
    obtain rfl := hA rfl
    obtain rfl : n = 0 := by omega
    go_enter Tryd.func24, Tryd.ntmps24
    go_wp2
    go_ret
    exact ⟨rfl, rfl⟩
  | some ad =>
    clear hA
    go_enter Tryd.func24, Tryd.ntmps24
    go_wp2
    go_ret
    exact ⟨rfl, rfl⟩

set_option maxHeartbeats 400000 in
theorem bits_any (A : Option Addr) (n c : Nat) (l : List Nat) (w : World) (h : Sl w A n c l) (hn : n ≤ 100000) :
    Calls Tryd.prog 16 #[.slice A n c] w fun e w' => e = .returned (.int .i64 (blen (val l) : Nat)) ∧ w = w' := by
  have H := Lib.hid h
  have HT := Lib.hid (tl_le l)
  have HL := Lib.hid h.len
  clear h
  by_cases h0 : tl l = 0
  · have HV := Lib.hid (show blen (val l) = 0 by rw [val_zero_iff.2 h0]; rfl)
    go_enter Tryd.func16, Tryd.ntmps16
    go_wp2_with fail
    refine (trim_any A n c l w H.out).mono ?_
    rintro e w1 ⟨rfl, rfl⟩
    rw [h0]
    go_wp2_with fail
    go_ret
    exact ⟨ret_int (by rw [HV.out]; rfl), rfl⟩
  · have htn : tl l ≤ n := by rw [← HL.out]; exact HT.out
    obtain ⟨m, hm⟩ : ∃ m, tl l = m + 1 := ⟨tl l - 1, by omega⟩
    obtain ⟨b, off, x, hA, hb, hx, hxB, hcell⟩ := H.out.at_ (i := m) (by omega)
    subst hA
    have HV := Lib.hid (show blen (val l) = 32 * m + blen x by
      have := blen_val H.out.ok (by omega) (show l[tl l - 1]? = some x by rw [hm]; exact hx)
      rw [this, hm]; omega)
    have HM := Lib.hid hm
    have hb32 : blen x ≤ 32 := blen_le (by rw [← BB_pow]; exact hxB)
    have hmn : m + 1 ≤ n := by omega
    clear hx h0 hm htn
    unfold BB at hxB
    go_enter Tryd.func16, Tryd.ntmps16
    go_wp2_with fail
    refine (trim_any _ n c l w H.out).mono ?_
    rintro e w1 ⟨rfl, rfl⟩
    rw [HM.out]
    have hne : ((m : Int) + 1 == 0) = false := by rw [beq_eq_false_iff_ne]; omega
    go_wp2_with fail
    refine (Tryd.bits_Len32 x w (by omega) (by omega)).mono ?_
    rintro e w2 ⟨rfl, rfl⟩
    rw [show Lib.bitLen ((x : Int).toNat) = blen x from bitLen_blen x (by omega)]
    go_wp2_with fail
    go_ret
    exact ⟨ret_int (by rw [HV.out]; omega), rfl⟩
end Go.Proofs.YtnogfceojmnjiaaDoor
