/-
  Walks of long, Clip, done, Cmp, Bits.
  Walks of Cmp, done; new slices.
  New slices of limbs; the walk of add.
  The walk of sub.
  The walk of mul.
  The walks of short, shr, shl.
-/
import Derived.Test.YtoogeihbhhcpaaaGreatDoorPkB
import Derived.Laws.MakeOwn
set_option linter.unusedVariables false
namespace Go.Proofs.YtoogeihbhhcpaaaGreatDoor
open Go.RowKit Go.Fl Go.Fl.Nm

theorem bitLen_blen (x : Nat) (h : x < 2 ^ 64) : Lib.bitLen x = blen x := by
  induction x using Nat.strongRecOn with
  | ind x ih =>
    by_cases h0 : x = 0
    · subst h0; rfl
    · rw [Lib.bitLen_half x h0 h, ih (x / 2) (by omega) (by omega)]
      by_cases h1 : x / 2 = 0
      · have : x = 1 := by omega
        subst this; rfl
      · have e : x = 2 ^ 1 * (x / 2) + x % 2 := by omega
        conv => rhs; rw [e]
        rw [blen_mul h1 (by omega)]

/-- A slice value by its parts. -/
abbrev SV := Option Addr × Nat × Nat
def sv (p : SV) : Value := .slice p.1 p.2.1 p.2.2
def longer (K : Nat) (p : SV) : Bool := decide (K < p.2.1)

def LenFn (F K : Nat) : Prop := ∀ (A : Option Addr) (n c : Nat) (w : World), n ≤ maxLen → Calls Tryz.prog F #[.slice A n c] w fun e w' => e = .returned (.bool (decide (K < n))) ∧ w = w'
set_option maxHeartbeats 400000 in
theorem lenFn_natural : LenFn 173 256 := by
  intro A n c w hn
  unfold maxLen at hn
  go_enter Tryz.func173, Tryz.ntmps173
  go_wp2
  go_ret
  exact ⟨ret_bool (by simp; omega), rfl⟩
def IdxPost (b : Bool) (w : World) (e : Ending) (w' : World) : Prop := ∃ r : Int, e = .returned (.int .i64 r) ∧ Hid (decide (0 ≤ r) = b) ∧ w = w'

set_option maxHeartbeats 400000 in
set_option maxRecDepth 100000 in
theorem index_lens_natural (g m : Nat) (xs : List SV) (w : World) (hm : xs.length = m) (hm2 : m ≤ 1000) (hx : ∀ p ∈ xs, p.2.1 ≤ maxLen) (hc : ∀ j p, xs[j]? = some p → w.cell? ⟨g, j, none⟩ = some (sv p)) :
    Calls Tryz.prog 193 #[.slice (some ⟨g, 0, none⟩) m m, .func (.func 173) #[] #[]] w (IdxPost (xs.any (longer 256)) w) := by
  have HM := Lib.hid hm
  have HX := Lib.hid hx
  have HC := Lib.hid hc
  clear hm hx hc
  go_enter Tryz.func193, Tryz.ntmps193
  go_wp2_with fail
  go_loop [8] (fun i => ∃ j : Nat, i = .int .i64 j ∧ j ≤ m ∧ Hid ((xs.take j).any (longer 256) = false)) (fun i => m - (intOf i).toNat)
  case atStart => exact ⟨0, rfl, by omega, Lib.hid (by simp)⟩
  case round =>
    obtain ⟨j, rfl, hj, HA⟩ := hrel
    by_cases hlt : j < m
    · obtain ⟨p, hp⟩ : ∃ p, xs[j]? = some p := ⟨_, List.getElem?_eq_getElem (by rw [HM.out]; exact hlt)⟩
      obtain ⟨A, n, c⟩ := p
      have hcell : w.cell? ⟨g, j, none⟩ = some (.slice A n c) := HC.out j _ hp
      have HP := Lib.hid hp
      have HN := Lib.hid (HX.out _ (List.mem_of_getElem? hp))
      clear hp
      by_cases hk : 256 < n
      · have hk' : decide (256 < n) = true := by simp [hk]
        go_wp2_with fail
        refine (lenFn_natural A n c _ HN.out).mono ?_
        rintro e w1 ⟨rfl, rfl⟩
        rw [hk']
        go_wp2_with fail
        go_ret
        refine ⟨j, rfl, Lib.hid ?_, rfl⟩
        rw [List.any_eq_true.2 ⟨_, List.mem_of_getElem? HP.out, by simpa [longer] using hk⟩]
        simp
      · have hk' : decide (256 < n) = false := by simpa using hk
        go_wp2_with fail
        refine (lenFn_natural A n c _ HN.out).mono ?_
        rintro e w1 ⟨rfl, rfl⟩
        rw [hk']
        go_wp2_with fail
        go_round
        case rel =>
          refine ⟨j + 1, by go_num, by omega, Lib.hid ?_⟩
          rw [take_succ_at HP.out, List.any_append, HA.out]
          simp [longer]; omega
        case measure => simp [intOf]; omega
    · go_wp2_with fail
      go_ret
      refine ⟨-1, rfl, Lib.hid ?_, rfl⟩
      have := HA.out
      rw [List.take_of_length_le (by rw [HM.out]; omega)] at this
      rw [this]
      simp

set_option maxHeartbeats 400000 in
theorem contains_lens_natural (g m : Nat) (xs : List SV) (w : World) (hm : xs.length = m) (hm2 : m ≤ 1000) (hx : ∀ p ∈ xs, p.2.1 ≤ maxLen) (hc : ∀ j p, xs[j]? = some p → w.cell? ⟨g, j, none⟩ = some (sv p)) :
    Calls Tryz.prog 172 #[.slice (some ⟨g, 0, none⟩) m m, .func (.func 173) #[] #[]] w fun e w' => e = .returned (.bool (xs.any (longer 256))) ∧ w = w' := by
  have HI := Lib.hid (index_lens_natural g m xs w hm hm2 hx hc)
  clear hm hx hc
  go_enter Tryz.func172, Tryz.ntmps172
  go_wp2_with fail
  refine HI.out.mono ?_
  rintro e w1 ⟨r, rfl, HB, rfl⟩
  go_wp2_with fail
  go_ret
  exact ⟨ret_bool HB.out, rfl⟩

/-- A function that asks whether one of some slices is longer than K. -/
def LongFn (f K : Nat) : Prop := ∀ (g m : Nat) (xs : List SV) (w : World), xs.length = m → m ≤ 1000 → (∀ p ∈ xs, p.2.1 ≤ maxLen) → (∀ j p, xs[j]? = some p → w.cell? ⟨g, j, none⟩ = some (sv p)) →
    Calls Tryz.prog f #[.slice (some ⟨g, 0, none⟩) m m] w fun e w' => e = .returned (.bool (xs.any (longer K))) ∧ w = w'
set_option maxHeartbeats 400000 in
theorem longFn_natural : LongFn 138 256 := by
  intro g m xs w hm hm2 hx hc
  have HI := Lib.hid (contains_lens_natural g m xs w hm hm2 hx hc)
  clear hm hx hc
  go_enter Tryz.func138, Tryz.ntmps138
  go_wp2_with fail
  refine HI.out.mono ?_
  rintro e w1 ⟨rfl, rfl⟩
  go_wp2_with fail
  go_ret
  exact ⟨rfl, rfl⟩
/-- At one slice, laid in a new block. -/
theorem LongFn.one {f K : Nat} (h : LongFn f K) (A : Option Addr) (n c : Nat) (w : World) (hn : n ≤ maxLen) :
    Calls Tryz.prog f #[.slice (some ⟨w.heap.size, 0, none⟩) 1 1] (w.alloc (.cells #[.slice A n c] 38)) fun e w' => e = .returned (.bool (decide (K < n))) ∧ w' = w.alloc (.cells #[.slice A n c] 38) := by
  refine (h w.heap.size 1 [(A, n, c)] _ rfl (by omega) (by simp [hn]) (fun j p hp => ?_)).mono ?_
  · rw [(Blk.new w _ _).cell]
    match j with
    | 0 => simp at hp; subst hp; rfl
    | j + 1 => simp at hp
  · rintro e w' ⟨rfl, rfl⟩
    exact ⟨by simp [longer], rfl⟩
/-- At two slices. -/
theorem LongFn.two {f K : Nat} (h : LongFn f K) (A B : Option Addr) (n c m d : Nat) (w : World) (hn : n ≤ maxLen) (hm : m ≤ maxLen) :
    Calls Tryz.prog f #[.slice (some ⟨w.heap.size, 0, none⟩) 2 2] (w.alloc (.cells #[.slice A n c, .slice B m d] 38)) fun e w' => e = .returned (.bool (decide (K < n ∨ K < m))) ∧ w' = w.alloc (.cells #[.slice A n c, .slice B m d] 38) := by
  refine (h w.heap.size 2 [(A, n, c), (B, m, d)] _ rfl (by omega) (by simp [hn, hm]) (fun j p hp => ?_)).mono ?_
  · rw [(Blk.new w _ _).cell]
    match j with
    | 0 => simp at hp; subst hp; rfl
    | 1 => simp at hp; subst hp; rfl
    | j + 2 => simp at hp
  · rintro e w' ⟨rfl, rfl⟩
    exact ⟨by simp [longer], rfl⟩

set_option maxHeartbeats 400000 in
theorem clip_any (A : Option Addr) (n c : Nat) (w : World) (hn : n ≤ c) (hc : c ≤ maxLen) (hA : A = none → c = 0) :
    Calls Tryz.prog 178 #[.slice A n c] w fun e w' => e = .returned (.slice A n n) ∧ w = w' := by
  unfold maxLen at hc
  cases A with
  | none =>
    obtain rfl := hA rfl
    obtain rfl : n = 0 := by omega
    go_enter Tryz.func178, Tryz.ntmps178
    go_wp2
    go_ret
    exact ⟨rfl, rfl⟩
  | some ad =>
    clear hA
    go_enter Tryz.func178, Tryz.ntmps178
    go_wp2
    go_ret
    exact ⟨rfl, rfl⟩

set_option maxHeartbeats 400000 in
theorem bits_any (A : Option Addr) (n c : Nat) (l : List Nat) (w : World) (h : Sl w A n c l) (hn : n ≤ 100000) :
    Calls Tryz.prog 101 #[.slice A n c] w fun e w' => e = .returned (.int .i64 (blen (val l) : Nat)) ∧ w = w' := by
  have H := Lib.hid h
  have HT := Lib.hid (tl_le l)
  have HL := Lib.hid h.len
  clear h
  by_cases h0 : tl l = 0
  · have HV := Lib.hid (show blen (val l) = 0 by rw [val_zero_iff.2 h0]; rfl)
    go_enter Tryz.func101, Tryz.ntmps101
    go_wp2_with fail
    refine (trim_any A n c l w H.out).mono ?_
    rintro e w1 ⟨rfl, rfl⟩
    rw [h0]
    go_wp2_with fail
    go_ret
    exact ⟨ret_int (by rw [HV.out]; rfl), rfl⟩
  · have htn : tl l ≤ n := by rw [← HL.out]; exact HT.out
    obtain ⟨m, hm⟩ : ∃ m, tl l = m + 1 := ⟨tl l - 1, by omega⟩
    obtain ⟨b, off, x, hA, hb, hx, hxB, hcell⟩ := H.out.at_ (i := m) (by omega)
    subst hA
    have HV := Lib.hid (show blen (val l) = 32 * m + blen x by
      have := blen_val H.out.ok (by omega) (show l[tl l - 1]? = some x by rw [hm]; exact hx)
      rw [this, hm]; omega)
    have HM := Lib.hid hm
    have hb32 : blen x ≤ 32 := blen_le (by rw [← BB_pow]; exact hxB)
    have hmn : m + 1 ≤ n := by omega
    clear hx h0 hm htn
    unfold BB at hxB
    go_enter Tryz.func101, Tryz.ntmps101
    go_wp2_with fail
    refine (trim_any _ n c l w H.out).mono ?_
    rintro e w1 ⟨rfl, rfl⟩
    rw [HM.out]
    have hne : ((m : Int) + 1 == 0) = false := by rw [beq_eq_false_iff_ne]; omega
    go_wp2_with fail
    refine (Tryz.bits_Len32 x w (by omega) (by omega)).mono ?_
    rintro e w2 ⟨rfl, rfl⟩
    rw [show Lib.bitLen ((x : Int).toNat) = blen x from bitLen_blen x (by omega)]
    go_wp2_with fail
    go_ret
    exact ⟨ret_int (by rw [HV.out]; omega), rfl⟩
end Go.Proofs.YtoogeihbhhcpaaaGreatDoor
namespace Go.Proofs.YtoogeihbhhcpaaaGreatDoor
open Go.RowKit Go.Fl Go.Fl.Nm

theorem drewN_drewN (w : World) (a b : Nat) : (w.drewN a).drewN b = w.drewN (a + b) := by
  unfold World.drewN; simp [Nat.add_assoc]

theorem drew1 {w wr : World} (h : ∃ q, wr = w.drewN q) (k : Nat) : ∃ q, wr.drewN k = w.drewN q := by
  obtain ⟨q, rfl⟩ := h
  exact ⟨_, drewN_drewN w q k⟩

def CmpPost (w : World) (r : Int) (e : Ending) (w' : World) : Prop := e = .returned (.int .i64 r) ∧ ∃ q, w' = w.drewN q

set_option maxHeartbeats 800000 in
set_option maxRecDepth 100000 in
theorem cmp_any (A B : Option Addr) (n c m d : Nat) (a b : List Nat) (w : World) (ha : Sl w A n c a) (hb : Sl w B m d b) :
    Calls Tryz.prog 103 #[.slice A n c, .slice B m d] w (CmpPost w (cmpN (val a) (val b))) := by
  have hna := ha.max
  have hmb := hb.max
  unfold maxLen at hna hmb
  have HA := Lib.hid ha
  have HB := Lib.hid hb
  have hta : tl a ≤ n := by rw [← ha.len]; exact tl_le a
  have htb : tl b ≤ m := by rw [← hb.len]; exact tl_le b
  clear ha hb
  generalize hx : tl a = x at *
  generalize hy : tl b = y at *
  have HX := Lib.hid hx
  have HY := Lib.hid hy
  clear hx hy
  by_cases hlt : x < y
  · have HV := Lib.hid (cmpN_lt (val_lt_of_len HA.out.ok (show tl a < tl b by rw [HX.out, HY.out]; exact hlt)))
    have hne : ((x : Int) != y) = true := by rw [bne_iff_ne]; omega
    go_enter Tryz.func103, Tryz.ntmps103
    go_wp2_with fail
    refine (trim_any A n c a w HA.out).mono ?_
    rintro e w1 ⟨rfl, rfl⟩
    rw [HX.out]
    go_wp2_with fail
    refine (trim_any B m d b w HB.out).mono ?_
    rintro e w1 ⟨rfl, rfl⟩
    rw [HY.out]
    go_wp2_with fail
    go_ret
    exact ⟨ret_int HV.out.symm, 0, rfl⟩
  by_cases hgt : y < x
  · have HV := Lib.hid (cmpN_gt (val_lt_of_len HB.out.ok (show tl b < tl a by rw [HX.out, HY.out]; exact hgt)))
    have hne : ((x : Int) != y) = true := by rw [bne_iff_ne]; omega
    go_enter Tryz.func103, Tryz.ntmps103
    go_wp2_with fail
    refine (trim_any A n c a w HA.out).mono ?_
    rintro e w1 ⟨rfl, rfl⟩
    rw [HX.out]
    go_wp2_with fail
    refine (trim_any B m d b w HB.out).mono ?_
    rintro e w1 ⟨rfl, rfl⟩
    rw [HY.out]
    go_wp2_with fail
    go_ret
    exact ⟨ret_int HV.out.symm, 0, rfl⟩
  obtain rfl : y = x := by omega
  have hne : ((y : Int) != y) = false := by simp
  clear hlt hgt
  go_enter Tryz.func103, Tryz.ntmps103
  go_wp2_with fail
  refine (trim_any A n c a w HA.out).mono ?_
  rintro e w1 ⟨rfl, rfl⟩
  rw [HX.out]
  go_wp2_with fail
  refine (trim_any B m d b w HB.out).mono ?_
  rintro e w1 ⟨rfl, rfl⟩
  rw [HY.out]
  go_wp2_with fail
  go_loopg [5] y (fun k i wr => i = .int .i64 ((k : Int) - 1) ∧ k ≤ y ∧ Hid ((a.take y).drop k = (b.take y).drop k) ∧ Hid (∃ q, wr = w.drewN q))
  case atStart => exact ⟨rfl, by omega, Lib.hid (by rw [List.drop_eq_nil_of_le (List.length_take_le _ _), List.drop_eq_nil_of_le (List.length_take_le _ _)]), Lib.hid ⟨0, rfl⟩⟩
  case round =>
    obtain ⟨rfl, hk, HD, HQ⟩ := hrel
    cases gk with
    | zero =>
      have HV := Lib.hid (cmpN_eq (show val a = val b by
        have := HD.out
        rw [List.drop_zero, List.drop_zero] at this
        rw [← val_trim a, ← val_trim b, HX.out, HY.out, this]))
      rw [show ((0 : Nat) : Int) - 1 = -1 by omega]
      go_wp2_with fail
      go_ret
      exact ⟨ret_int HV.out.symm, HQ.out⟩
    | succ j =>
      rw [show ((j + 1 : Nat) : Int) - 1 = j by omega]
      obtain ⟨b1, o1, x1, hA, hb1, hx1, hxB1, hcell1⟩ := HA.out.at_ (i := j) (by omega)
      obtain ⟨b2, o2, x2, hB, hb2, hx2, hxB2, hcell2⟩ := HB.out.at_ (i := j) (by omega)
      subst hA hB
      have hc1 : wr.cell? ⟨b1, o1 + j, none⟩ = some (.int .u32 x1) := by obtain ⟨q, rfl⟩ := HQ.out; exact hcell1
      have hc2 : wr.cell? ⟨b2, o2 + j, none⟩ = some (.int .u32 x2) := by obtain ⟨q, rfl⟩ := HQ.out; exact hcell2
      clear hcell1 hcell2
      have HX1 := Lib.hid (show (a.take y)[j]? = some x1 by rw [List.getElem?_take_of_lt (by omega)]; exact hx1)
      have HX2 := Lib.hid (show (b.take y)[j]? = some x2 by rw [List.getElem?_take_of_lt (by omega)]; exact hx2)
      have HVA := Lib.hid (show val (a.take y) = val a by have := val_trim a; rwa [HX.out] at this)
      have HVB := Lib.hid (show val (b.take y) = val b by have := val_trim b; rwa [HY.out] at this)
      have i0 : (0 : Int) ≤ j := by omega
      have i1 : (j : Int) < y := by omega
      unfold BB at hxB1 hxB2
      clear hx1 hx2
      by_cases hl : x1 < x2
      · have HV := Lib.hid (cmpN_lt (val_lt_of_top (ok_take HA.out.ok y) HX1.out HX2.out hl HD.out))
        rw [HVA.out, HVB.out] at HV
        go_wp2_with fail
        go_quiet (fail)
        go_wp2_with fail
        go_ret
        exact ⟨ret_int HV.out.symm, drew1 HQ.out _⟩
      by_cases hg : x2 < x1
      · have HV := Lib.hid (cmpN_gt (val_lt_of_top (ok_take HB.out.ok y) HX2.out HX1.out hg HD.out.symm))
        rw [HVA.out, HVB.out] at HV
        have d1 : decide (x1 < x2) = false := by simp; omega
        go_wp2_with fail
        go_quiet (fail)
        go_wp2_with fail
        go_quiet (fail)
        go_wp2_with fail
        go_ret
        exact ⟨ret_int HV.out.symm, by first | exact drew1 (drew1 HQ.out _) _ | exact drew1 HQ.out _⟩
      · obtain rfl : x1 = x2 := by omega
        have HD' := Lib.hid (show (a.take y).drop j = (b.take y).drop j by rw [drop_at HX1.out, drop_at HX2.out, HD.out])
        have d1 : decide (x1 < x1) = false := by simp
        clear hl hg
        go_wp2_with fail
        go_quiet (fail)
        go_wp2_with fail
        go_quiet (fail)
        go_wp2_with fail
        go_roundg j
        case measure => omega
        case rel => exact ⟨by first | rfl | go_num, by omega, HD', Lib.hid (by first | exact drew1 (drew1 HQ.out _) _ | exact drew1 HQ.out _)⟩
end Go.Proofs.YtoogeihbhhcpaaaGreatDoor
namespace Go.Fl.Nm
open Go.RowKit Go.Fl

/-- The cells of a block that holds just the limbs l. -/
def UA (l : List Nat) : Array Value := (U l).toArray
theorem UA_size (l : List Nat) : (UA l).size = l.length := by simp [UA, U]
theorem UA_at (l : List Nat) (i x : Nat) (h : l[i]? = some x) : (UA l)[i]? = some (.int .u32 x) := by
  unfold UA; rw [List.getElem?_toArray]; exact U_at l i x h
theorem UA_set (l : List Nat) (i x : Nat) : (UA l).setIfInBounds i (.int .u32 x) = UA (l.set i x) := by
  unfold UA; rw [U_set]; simp
def zeros (n : Nat) : List Nat := List.replicate n 0
theorem zeros_len (n : Nat) : (zeros n).length = n := by simp [zeros]
theorem zeros_at (n j : Nat) (h : j < n) : (zeros n)[j]? = some 0 := by simp [zeros, h]
theorem made_zeros (n : Nat) : madeCells (Value.int .u32 0).cells (n * 1) = UA (zeros n) := by
  apply Array.ext_getElem?
  intro i
  unfold madeCells UA U zeros
  by_cases h : i < n
  · simp [Value.cells, h, Nat.mod_one]
  · simp [h]
theorem blkU_cell {w : World} {g : Nat} {t : TypeId} {l : List Nat} (h : Blk w g t (UA l)) {i x : Nat} (hx : l[i]? = some x) : w.cell? ⟨g, i, none⟩ = some (.int .u32 x) := (h.cell i).trans (UA_at l i x hx)
theorem blkU_set {w : World} {g : Nat} {t : TypeId} {l : List Nat} (h : Blk w g t (UA l)) (i x : Nat) : Blk (w.setCell ⟨g, i, none⟩ (.int .u32 x)) g t (UA (l.set i x)) := by
  rw [h.setCell_eq, UA_set]; exact h.put _
theorem at_set_ne {α : Type} {l : List α} {i j : Nat} (x : α) (h : i ≠ j) : (l.set i x)[j]? = l[j]? := by rw [List.getElem?_set_ne h]
theorem val_set {l : List Nat} {j o : Nat} (z : Nat) (h : l[j]? = some o) : val (l.set j z) + BB ^ j * o = val l + BB ^ j * z := by
  induction l generalizing j with
  | nil => simp at h
  | cons x l ih =>
    cases j with
    | zero => simp at h; subst h; simp [val_cons]; omega
    | succ j =>
      simp only [List.getElem?_cons_succ] at h
      have := ih h
      simp only [List.set_cons_succ, val_cons, Nat.pow_succ]
      have e1 : BB ^ j * BB * o = BB * (BB ^ j * o) := by rw [Nat.mul_comm (BB ^ j) BB, Nat.mul_assoc]
      have e2 : BB ^ j * BB * z = BB * (BB ^ j * z) := by rw [Nat.mul_comm (BB ^ j) BB, Nat.mul_assoc]
      have e3 : BB * (val (l.set j z) + BB ^ j * o) = BB * (val l + BB ^ j * z) := by rw [this]
      rw [Nat.mul_add, Nat.mul_add] at e3
      rw [e1, e2]; omega
theorem val_set0 {l : List Nat} {j : Nat} (z : Nat) (h : l[j]? = some 0) : val (l.set j z) = val l + BB ^ j * z := by
  have := val_set z h; simpa using this

/-- A slice in a block from 'base' on, at the block's head, that nothing else names. -/
def Nw (w : World) (t : TypeId) (base : Nat) (A : Option Addr) (n c : Nat) (l : List Nat) : Prop :=
  Sl w A n c l ∧ (0 < n → ∃ (g : Nat) (cs : Array Value), A = some ⟨g, 0, none⟩ ∧ base ≤ g ∧ Blk w g t cs)
theorem Nw.sl {w : World} {t : TypeId} {base : Nat} {A : Option Addr} {n c : Nat} {l : List Nat} (h : Nw w t base A n c l) : Sl w A n c l := h.1
theorem Nw.cut {w : World} {t : TypeId} {base : Nat} {A : Option Addr} {n c : Nat} {l : List Nat} (h : Nw w t base A n c l) {m c' : Nat} (hm : m ≤ n) (hc : m ≤ c') (hc' : c' ≤ maxLen) (hn : A = none → c' = 0) : Nw w t base A m c' (l.take m) :=
  ⟨h.1.cut hm hc hc' hn, fun h0 => h.2 (by omega)⟩
theorem Nw.below {w w' : World} {t : TypeId} {base : Nat} {A : Option Addr} {n c : Nat} {l : List Nat} (h : Nw w t base A n c l) (hb : Below w.heap.size w w') : Nw w' t base A n c l :=
  ⟨h.1.below hb, fun h0 => by
    obtain ⟨g, cs, hA, hg, hB⟩ := h.2 h0
    exact ⟨g, cs, hA, hg, hB.below hb hB.lt⟩⟩
theorem Nw.base {w : World} {t : TypeId} {base base' : Nat} {A : Option Addr} {n c : Nat} {l : List Nat} (h : Nw w t base A n c l) (hb : base' ≤ base) : Nw w t base' A n c l :=
  ⟨h.1, fun h0 => by
    obtain ⟨g, cs, hA, hg, hB⟩ := h.2 h0
    exact ⟨g, cs, hA, by omega, hB⟩⟩
theorem Nw.alloc {w : World} {t : TypeId} {base : Nat} {A : Option Addr} {n c : Nat} {l : List Nat} (h : Nw w t base A n c l) (o : Obj) : Nw (w.alloc o) t base A n c l :=
  ⟨h.1.alloc o, fun h0 => by
    obtain ⟨g, cs, hA, hg, hB⟩ := h.2 h0
    exact ⟨g, cs, hA, hg, hB.alloc o⟩⟩
theorem Nw.none_ (w : World) (t : TypeId) (base : Nat) : Nw w t base none 0 0 [] := ⟨Sl.none_ w, fun h => absurd h (by omega)⟩
/-- Out of a block that is known whole. -/
theorem Nw.of_blk {w : World} {t : TypeId} {base g n : Nat} {l : List Nat} (hB : Blk w g t (UA l)) (hok : ok l) (hg : base ≤ g) (hn : l.length = n) (hm : n ≤ maxLen) : Nw w t base (some ⟨g, 0, none⟩) n n l :=
  ⟨⟨hn, hok, Nat.le_refl _, hm, fun h => (by cases h), by rw [U_len, hn]; omega, fun _ => ⟨g, 0, rfl, hB.lt, fun j u hu => by
    rw [Nat.zero_add, hB.cell]
    unfold UA
    rw [List.getElem?_toArray]; exact hu⟩⟩, fun _ => ⟨g, _, rfl, hg, hB⟩⟩
end Go.Fl.Nm

namespace Go.Proofs.YtoogeihbhhcpaaaGreatDoor
open Go.RowKit Go.Fl Go.Fl.Nm

/-- The element type of the new slices. -/
abbrev tU : TypeId := 125
theorem Tryz.infoU32 : (Tryz.prog.info? 125).map (fun i => (i.zero, i.size, i.bytes)) = some (some (.int .u32 0), 1, 4) := by kernel_rfl
theorem make_u32 (n c : Nat) (N C : Int) (hN : N = n) (hC : C = c) (hnc : n ≤ c) (hc : c ≤ 1000000) (w : World) : (Instr.makeSlice 38 (.int .i64 N) (.int .i64 C)).run Tryz.prog w = .ok (.slice (some ⟨w.heap.size, 0, none⟩) n c) (w.alloc (.cells (UA (zeros c)) 125)) := by
  subst hN hC
  obtain ⟨i0, hi, hz0, hz1, hz2⟩ := info_parts Tryz.infoU32
  have := run_make (P := Tryz.prog) w 38 125 i0 _ Tryz.underlying38 hi hz0 .i64 .i64 n c (by omega) (by omega) (by rw [hz2]; omega) (by omega)
  rw [this, hz1, Int.toNat_natCast, Int.toNat_natCast, made_zeros]

/-- A new slice with the value v, of at most N limbs. -/
def Fv (N v : Nat) (w : World) (e : Ending) (w' : World) : Prop :=
  ∃ (A : Option Addr) (n c : Nat) (l : List Nat), e = .returned (.slice A n c) ∧ Hid (Nw w' tU w.heap.size A n c l) ∧ Hid (val l = v) ∧ n ≤ N ∧ Hid (Below w.heap.size w w')

def AddRel (w : World) (g n : Nat) (a b : List Nat) (k : Nat) (cv iv : Value) (wr : World) : Prop :=
  ∃ (i cc : Nat) (l : List Nat), iv = .int .i64 i ∧ cv = .int .u32 cc ∧ cc ≤ 1 ∧ i ≤ n ∧ k = n - i ∧ Hid (l.length = n + 1) ∧ Hid (ok l) ∧ Hid (Blk wr g tU (UA l)) ∧
    Hid (val l + BB ^ i * cc = val (a.take i) + val (b.take i)) ∧ Hid (∀ j, i ≤ j → j < n + 1 → l[j]? = some 0) ∧ Hid (Below w.heap.size w wr)

theorem add_step {l a b : List Nat} {i n x y cc : Nat} (hl : l.length = n + 1) (hok : ok l) (hi : i < n) (hv : val l + BB ^ i * cc = val (a.take i) + val (b.take i)) (hz : ∀ j, i ≤ j → j < n + 1 → l[j]? = some 0)
    (ha : val (a.take (i + 1)) = val (a.take i) + BB ^ i * x) (hb : val (b.take (i + 1)) = val (b.take i) + BB ^ i * y) :
    (l.set i ((x + y + cc) % BB)).length = n + 1 ∧ ok (l.set i ((x + y + cc) % BB)) ∧ val (l.set i ((x + y + cc) % BB)) + BB ^ (i + 1) * ((x + y + cc) / BB) = val (a.take (i + 1)) + val (b.take (i + 1)) ∧
      (∀ j, i + 1 ≤ j → j < n + 1 → (l.set i ((x + y + cc) % BB))[j]? = some 0) := by
  refine ⟨by simp [hl], ok_set hok _ _ (Nat.mod_lt _ BB_pos), ?_, fun j h1 h2 => by rw [at_set_ne _ (by omega)]; exact hz j (by omega) h2⟩
  rw [val_set0 _ (hz i (by omega) (by omega)), ha, hb, Nat.pow_succ, Nat.mul_assoc]
  have e : BB ^ i * (x + y + cc) = BB ^ i * ((x + y + cc) % BB) + BB ^ i * (BB * ((x + y + cc) / BB)) := by rw [← Nat.mul_add, Nat.mod_add_div]
  simp only [Nat.mul_add] at e ⊢
  omega

set_option maxHeartbeats 800000 in
set_option maxRecDepth 100000 in
/-- add, the first number being no shorter. -/
theorem add_ge (A B : Option Addr) (n c m d : Nat) (a b : List Nat) (w : World) (ha : Sl w A n c a) (hb : Sl w B m d b) (hmn : m ≤ n) (hn : n ≤ 100000) :
    Calls Tryz.prog 149 #[.slice A n c, .slice B m d] w (Fv (n + 1) (val a + val b) w) := by
  have HA := Lib.hid ha
  have HB := Lib.hid hb
  clear ha hb
  have hlt : decide (n < m) = false := by simp; omega
  have hmk := make_u32 (n + 1) (n + 1) ((n : Int) + 1) ((n : Int) + 1) (by omega) (by omega) (by omega) (by omega)
  have HB0 := Lib.hid (Blk.new w tU (UA (zeros (n + 1))))
  have HL0 := Lib.hid ((Below.refl w.heap.size w).alloc (Nat.le_refl _) (.cells (UA (zeros (n + 1))) tU))
  go_enter Tryz.func149, Tryz.ntmps149
  go_wp2_with fail
  clear hmk
  go_loopg [6, 23] n (AddRel w w.heap.size n a b)
  case atStart => exact ⟨0, 0, zeros (n + 1), rfl, rfl, by omega, by omega, rfl, Lib.hid (zeros_len _), Lib.hid (ok_zeros _), HB0, Lib.hid (by simp [val_nil, zeros, val_zeros]), Lib.hid (fun j _ h => zeros_at _ j h), HL0⟩
  case round =>
    obtain ⟨i, cc, l, rfl, rfl, hcc, hi, rfl, HLEN, HOK, HBK, HV, HZ, HBL⟩ := hrel
    by_cases hin : i < n
    · obtain ⟨b1, o1, x, hA, hb1, hx, hxB, hcell1⟩ := HA.out.at_ hin
      subst hA
      have hc1 : wr.cell? ⟨b1, o1 + i, none⟩ = some (.int .u32 x) := (HBL.out.cell (p := ⟨b1, _, none⟩) hb1).trans hcell1
      have HX := Lib.hid hx
      clear hcell1 hx
      unfold BB at hxB
      have hg1 : wr.cell? ⟨w.heap.size, i, none⟩ = some (.int .u32 (0 : Nat)) := blkU_cell HBK.out (HZ.out i (by omega) (by omega))
      have hg2 : wr.frozen? ⟨w.heap.size, i, none⟩ = false := HBK.out.frozen i
      by_cases him : i < m
      · obtain ⟨b2, o2, y, hB, hb2, hy, hyB, hcell2⟩ := HB.out.at_ him
        subst hB
        have hc2 : wr.cell? ⟨b2, o2 + i, none⟩ = some (.int .u32 y) := (HBL.out.cell (p := ⟨b2, _, none⟩) hb2).trans hcell2
        have HS := Lib.hid (add_step HLEN.out HOK.out hin HV.out HZ.out (val_take_succ HX.out) (val_take_succ hy))
        clear hcell2 hy
        unfold BB at hyB
        go_wp2_with fail
        refine (add32_any x y cc _ hxB hyB hcc).mono ?_
        rintro e w1 ⟨rfl, rfl⟩
        go_wp2_with fail
        go_roundg (n - (i + 1))
        case measure => omega
        case rel =>
          refine ⟨i + 1, (x + y + cc) / BB, l.set i ((x + y + cc) % BB), by go_num, by unfold BB; simp, by unfold BB; omega, by omega, rfl, Lib.hid HS.out.1, Lib.hid HS.out.2.1, Lib.hid ?_, Lib.hid HS.out.2.2.1, Lib.hid HS.out.2.2.2, Lib.hid (HBL.out.setCell (Nat.le_refl _) _)⟩
          have := blkU_set HBK.out i ((x + y + cc) % BB)
          rw [show (((x + y + cc) % BB : Nat) : Int) = ((x : Int) + y + cc) % 4294967296 by unfold BB; omega] at this
          exact this
      · have HS := Lib.hid (add_step (y := 0) HLEN.out HOK.out hin HV.out HZ.out (val_take_succ HX.out) (by rw [List.take_of_length_le (by rw [HB.out.len]; omega), List.take_of_length_le (by rw [HB.out.len]; omega)]; simp))
        have K := add32_any x 0 cc wr hxB (by omega) hcc
        rw [show ((0 : Nat) : Int) = 0 from rfl] at K
        have HK := Lib.hid K
        clear K
        go_wp2_with fail
        refine HK.out.mono ?_
        rintro e w1 ⟨rfl, rfl⟩
        clear HK
        go_wp2_with fail
        go_roundg (n - (i + 1))
        case measure => omega
        case rel =>
          refine ⟨i + 1, (x + 0 + cc) / BB, l.set i ((x + 0 + cc) % BB), by go_num, by unfold BB; simp, by unfold BB; omega, by omega, rfl, Lib.hid HS.out.1, Lib.hid HS.out.2.1, Lib.hid ?_, Lib.hid HS.out.2.2.1, Lib.hid HS.out.2.2.2, Lib.hid (HBL.out.setCell (Nat.le_refl _) _)⟩
          have := blkU_set HBK.out i ((x + 0 + cc) % BB)
          rw [show (((x + 0 + cc) % BB : Nat) : Int) = ((x : Int) + cc) % 4294967296 by unfold BB; omega] at this
          exact this
    · obtain rfl : i = n := by omega
      have hg1 : wr.cell? ⟨w.heap.size, i, none⟩ = some (.int .u32 (0 : Nat)) := blkU_cell HBK.out (HZ.out i (by omega) (by omega))
      have hg2 : wr.frozen? ⟨w.heap.size, i, none⟩ = false := HBK.out.frozen i
      go_wp2_with fail
      go_ret
      refine ⟨_, _, _, l.set i cc, rfl, Lib.hid (Nw.of_blk (blkU_set HBK.out i cc) (ok_set HOK.out _ _ (by unfold BB; omega)) (Nat.le_refl _) (by rw [List.length_set]; exact HLEN.out) (by unfold maxLen; omega)), Lib.hid ?_, by omega, Lib.hid (HBL.out.setCell (Nat.le_refl _) _)⟩
      have := HV.out
      rw [List.take_of_length_le (by rw [HA.out.len]; omega), List.take_of_length_le (by rw [HB.out.len]; omega)] at this
      rw [val_set0 _ (HZ.out i (by omega) (by omega)), this]

set_option maxHeartbeats 800000 in
set_option maxRecDepth 100000 in
/-- add, the first number being shorter. -/
theorem add_lt (A B : Option Addr) (n c m d : Nat) (a b : List Nat) (w : World) (ha : Sl w A n c a) (hb : Sl w B m d b) (hmn : m < n) (hn : n ≤ 100000) :
    Calls Tryz.prog 149 #[.slice B m d, .slice A n c] w (Fv (n + 1) (val a + val b) w) := by
  have HA := Lib.hid ha
  have HB := Lib.hid hb
  clear ha hb
  have hlt : decide (m < n) = true := by simp; omega
  have hmk := make_u32 (n + 1) (n + 1) ((n : Int) + 1) ((n : Int) + 1) (by omega) (by omega) (by omega) (by omega)
  have HB0 := Lib.hid (Blk.new w tU (UA (zeros (n + 1))))
  have HL0 := Lib.hid ((Below.refl w.heap.size w).alloc (Nat.le_refl _) (.cells (UA (zeros (n + 1))) tU))
  go_enter Tryz.func149, Tryz.ntmps149
  go_wp2_with fail
  clear hmk
  go_loopg [6, 23] n (AddRel w w.heap.size n a b)
  case atStart => exact ⟨0, 0, zeros (n + 1), rfl, rfl, by omega, by omega, rfl, Lib.hid (zeros_len _), Lib.hid (ok_zeros _), HB0, Lib.hid (by simp [val_nil, zeros, val_zeros]), Lib.hid (fun j _ h => zeros_at _ j h), HL0⟩
  case round =>
    obtain ⟨i, cc, l, rfl, rfl, hcc, hi, rfl, HLEN, HOK, HBK, HV, HZ, HBL⟩ := hrel
    by_cases hin : i < n
    · obtain ⟨b1, o1, x, hA, hb1, hx, hxB, hcell1⟩ := HA.out.at_ hin
      subst hA
      have hc1 : wr.cell? ⟨b1, o1 + i, none⟩ = some (.int .u32 x) := (HBL.out.cell (p := ⟨b1, _, none⟩) hb1).trans hcell1
      have HX := Lib.hid hx
      clear hcell1 hx
      unfold BB at hxB
      have hg1 : wr.cell? ⟨w.heap.size, i, none⟩ = some (.int .u32 (0 : Nat)) := blkU_cell HBK.out (HZ.out i (by omega) (by omega))
      have hg2 : wr.frozen? ⟨w.heap.size, i, none⟩ = false := HBK.out.frozen i
      by_cases him : i < m
      · obtain ⟨b2, o2, y, hB, hb2, hy, hyB, hcell2⟩ := HB.out.at_ him
        subst hB
        have hc2 : wr.cell? ⟨b2, o2 + i, none⟩ = some (.int .u32 y) := (HBL.out.cell (p := ⟨b2, _, none⟩) hb2).trans hcell2
        have HS := Lib.hid (add_step HLEN.out HOK.out hin HV.out HZ.out (val_take_succ HX.out) (val_take_succ hy))
        clear hcell2 hy
        unfold BB at hyB
        go_wp2_with fail
        refine (add32_any x y cc _ hxB hyB hcc).mono ?_
        rintro e w1 ⟨rfl, rfl⟩
        go_wp2_with fail
        go_roundg (n - (i + 1))
        case measure => omega
        case rel =>
          refine ⟨i + 1, (x + y + cc) / BB, l.set i ((x + y + cc) % BB), by go_num, by unfold BB; simp, by unfold BB; omega, by omega, rfl, Lib.hid HS.out.1, Lib.hid HS.out.2.1, Lib.hid ?_, Lib.hid HS.out.2.2.1, Lib.hid HS.out.2.2.2, Lib.hid (HBL.out.setCell (Nat.le_refl _) _)⟩
          have := blkU_set HBK.out i ((x + y + cc) % BB)
          rw [show (((x + y + cc) % BB : Nat) : Int) = ((x : Int) + y + cc) % 4294967296 by unfold BB; omega] at this
          exact this
      · have HS := Lib.hid (add_step (y := 0) HLEN.out HOK.out hin HV.out HZ.out (val_take_succ HX.out) (by rw [List.take_of_length_le (by rw [HB.out.len]; omega), List.take_of_length_le (by rw [HB.out.len]; omega)]; simp))
        have K := add32_any x 0 cc wr hxB (by omega) hcc
        rw [show ((0 : Nat) : Int) = 0 from rfl] at K
        have HK := Lib.hid K
        clear K
        go_wp2_with fail
        refine HK.out.mono ?_
        rintro e w1 ⟨rfl, rfl⟩
        clear HK
        go_wp2_with fail
        go_roundg (n - (i + 1))
        case measure => omega
        case rel =>
          refine ⟨i + 1, (x + 0 + cc) / BB, l.set i ((x + 0 + cc) % BB), by go_num, by unfold BB; simp, by unfold BB; omega, by omega, rfl, Lib.hid HS.out.1, Lib.hid HS.out.2.1, Lib.hid ?_, Lib.hid HS.out.2.2.1, Lib.hid HS.out.2.2.2, Lib.hid (HBL.out.setCell (Nat.le_refl _) _)⟩
          have := blkU_set HBK.out i ((x + 0 + cc) % BB)
          rw [show (((x + 0 + cc) % BB : Nat) : Int) = ((x : Int) + cc) % 4294967296 by unfold BB; omega] at this
          exact this
    · obtain rfl : i = n := by omega
      have hg1 : wr.cell? ⟨w.heap.size, i, none⟩ = some (.int .u32 (0 : Nat)) := blkU_cell HBK.out (HZ.out i (by omega) (by omega))
      have hg2 : wr.frozen? ⟨w.heap.size, i, none⟩ = false := HBK.out.frozen i
      go_wp2_with fail
      go_ret
      refine ⟨_, _, _, l.set i cc, rfl, Lib.hid (Nw.of_blk (blkU_set HBK.out i cc) (ok_set HOK.out _ _ (by unfold BB; omega)) (Nat.le_refl _) (by rw [List.length_set]; exact HLEN.out) (by unfold maxLen; omega)), Lib.hid ?_, by omega, Lib.hid (HBL.out.setCell (Nat.le_refl _) _)⟩
      have := HV.out
      rw [List.take_of_length_le (by rw [HA.out.len]; omega), List.take_of_length_le (by rw [HB.out.len]; omega)] at this
      rw [val_set0 _ (HZ.out i (by omega) (by omega)), this]

set_option maxHeartbeats 800000 in
set_option maxRecDepth 100000 in
theorem add_any (A B : Option Addr) (n c m d : Nat) (a b : List Nat) (w : World) (ha : Sl w A n c a) (hb : Sl w B m d b) (hn : n ≤ 100000) (hm : m ≤ 100000) :
    Calls Tryz.prog 149 #[.slice A n c, .slice B m d] w (Fv (max n m + 1) (val a + val b) w) := by
  by_cases hmn : m ≤ n
  · rw [Nat.max_eq_left hmn]
    exact add_ge A B n c m d a b w ha hb hmn hn
  · rw [Nat.max_eq_right (by omega), Nat.add_comm (val a)]
    exact add_lt B A m d n c b a w hb ha (by omega) hm
end Go.Proofs.YtoogeihbhhcpaaaGreatDoor
namespace Go.Proofs.YtoogeihbhhcpaaaGreatDoor
open Go.RowKit Go.Fl Go.Fl.Nm

end Go.Proofs.YtoogeihbhhcpaaaGreatDoor
namespace Go.Proofs.YtoogeihbhhcpaaaGreatDoor
open Go.RowKit Go.Fl Go.Fl.Nm

def MulRel (w : World) (g n m : Nat) (a b : List Nat) (k : Nat) (iv : Value) (wr : World) : Prop :=
  ∃ (i : Nat) (l : List Nat), iv = .int .i64 i ∧ i ≤ n ∧ k = n - i ∧ Hid (l.length = n + m) ∧ Hid (ok l) ∧ Hid (Blk wr g tU (UA l)) ∧
    Hid (val l = val (a.take i) * val b) ∧ Hid (∀ j, i + m ≤ j → j < n + m → l[j]? = some 0) ∧ Hid (Below w.heap.size w wr)
def MulIn (w : World) (g n m i x : Nat) (b l0 : List Nat) (k : Nat) (cv iv : Value) (wr : World) : Prop :=
  ∃ (kk cc : Nat) (l : List Nat), iv = .int .i64 kk ∧ cv = .int .u64 cc ∧ cc < 4294967296 ∧ kk ≤ m ∧ k = m - kk ∧ Hid (l.length = n + m) ∧ Hid (ok l) ∧ Hid (Blk wr g tU (UA l)) ∧
    Hid (val l + BB ^ (i + kk) * cc = val l0 + BB ^ i * (x * val (b.take kk))) ∧ Hid (∀ j, i + m ≤ j → j < n + m → l[j]? = some 0) ∧ Hid (Below w.heap.size w wr)

theorem mul_step {l l0 b : List Nat} {i n m kk x y o cc : Nat} (hl : l.length = n + m) (hok : ok l) (hv : val l + BB ^ (i + kk) * cc = val l0 + BB ^ i * (x * val (b.take kk)))
    (hz : ∀ j, i + m ≤ j → j < n + m → l[j]? = some 0) (hk : kk < m) (hb : val (b.take (kk + 1)) = val (b.take kk) + BB ^ kk * y) (ho : l[i + kk]? = some o) :
    (l.set (i + kk) ((x * y + o + cc) % BB)).length = n + m ∧ ok (l.set (i + kk) ((x * y + o + cc) % BB)) ∧
      val (l.set (i + kk) ((x * y + o + cc) % BB)) + BB ^ (i + (kk + 1)) * ((x * y + o + cc) / BB) = val l0 + BB ^ i * (x * val (b.take (kk + 1))) ∧
      (∀ j, i + m ≤ j → j < n + m → (l.set (i + kk) ((x * y + o + cc) % BB))[j]? = some 0) := by
  refine ⟨by simp [hl], ok_set hok _ _ (Nat.mod_lt _ BB_pos), ?_, fun j h1 h2 => by rw [at_set_ne _ (by omega)]; exact hz j h1 h2⟩
  have h1 := val_set ((x * y + o + cc) % BB) ho
  rw [hb, ← Nat.add_assoc i kk 1, Nat.pow_succ, Nat.mul_assoc (BB ^ (i + kk))]
  have e : BB ^ (i + kk) * (x * y + o + cc) = BB ^ (i + kk) * ((x * y + o + cc) % BB) + BB ^ (i + kk) * (BB * ((x * y + o + cc) / BB)) := by rw [← Nat.mul_add, Nat.mod_add_div]
  have e2 : BB ^ i * (x * (val (b.take kk) + BB ^ kk * y)) = BB ^ i * (x * val (b.take kk)) + BB ^ (i + kk) * (x * y) := by
    rw [Nat.mul_add x, Nat.mul_add, Nat.pow_add, Nat.mul_left_comm x, Nat.mul_assoc (BB ^ i)]
  rw [e2]
  simp only [Nat.mul_add] at e h1 ⊢
  omega
theorem mul_out {l l0 a b : List Nat} {i n m x cc : Nat} (hl : l.length = n + m) (hok : ok l) (hv : val l + BB ^ (i + m) * cc = val l0 + BB ^ i * (x * val b)) (h0 : val l0 = val (a.take i) * val b)
    (hz : ∀ j, i + m ≤ j → j < n + m → l[j]? = some 0) (hi : i < n) (hc : cc < BB) (ha : val (a.take (i + 1)) = val (a.take i) + BB ^ i * x) :
    (l.set (i + m) cc).length = n + m ∧ ok (l.set (i + m) cc) ∧ val (l.set (i + m) cc) = val (a.take (i + 1)) * val b ∧ (∀ j, i + 1 + m ≤ j → j < n + m → (l.set (i + m) cc)[j]? = some 0) := by
  refine ⟨by simp [hl], ok_set hok _ _ hc, ?_, fun j h1 h2 => by rw [at_set_ne _ (by omega)]; exact hz j (by omega) h2⟩
  rw [val_set0 _ (hz (i + m) (by omega) (by omega)), hv, h0, ha, Nat.add_mul, Nat.mul_assoc]
theorem mul_bd {x y : Nat} (hx : x < 4294967296) (hy : y < 4294967296) : (x : Int) * y ≤ 18446744065119617025 ∧ 0 ≤ (x : Int) * y ∧ x * y ≤ 18446744065119617025 := by
  have h : x * y ≤ 4294967295 * 4294967295 := Nat.mul_le_mul (by omega) (by omega)
  have e : ((x * y : Nat) : Int) = (x : Int) * y := by simp
  refine ⟨?_, ?_, by omega⟩ <;> rw [← e] <;> omega

set_option maxHeartbeats 800000 in
set_option maxRecDepth 100000 in
theorem mul_any (A B : Option Addr) (n c m d : Nat) (a b : List Nat) (w : World) (ha : Sl w A n c a) (hb : Sl w B m d b) (hn : n ≤ 100000) (hm : m ≤ 100000) :
    Calls Tryz.prog 145 #[.slice A n c, .slice B m d] w (Fv (n + m) (val a * val b) w) := by
  have HA := Lib.hid ha
  have HB := Lib.hid hb
  clear ha hb
  have hmk := make_u32 (n + m) (n + m) ((n : Int) + m) ((n : Int) + m) (by omega) (by omega) (by omega) (by omega)
  have HB0 := Lib.hid (Blk.new w tU (UA (zeros (n + m))))
  have HL0 := Lib.hid ((Below.refl w.heap.size w).alloc (Nat.le_refl _) (.cells (UA (zeros (n + m))) tU))
  go_enter Tryz.func145, Tryz.ntmps145
  go_wp2_with fail
  clear hmk
  go_loopg [20] n (MulRel w w.heap.size n m a b)
  case atStart => exact ⟨0, zeros (n + m), rfl, by omega, rfl, Lib.hid (zeros_len _), Lib.hid (ok_zeros _), HB0, Lib.hid (by simp [val_nil, zeros, val_zeros]), Lib.hid (fun j _ h => zeros_at _ j h), HL0⟩
  case round =>
    obtain ⟨i, l0, rfl, hi, rfl, HLEN0, HOK0, HBK0, HV0, HZ0, HBL0⟩ := hrel
    by_cases hin : i < n
    · obtain ⟨b1, o1, x, hA, hb1, hx, hxB, hcell1⟩ := HA.out.at_ hin
      subst hA
      have hc1 : wr.cell? ⟨b1, o1 + i, none⟩ = some (.int .u32 x) := (HBL0.out.cell (p := ⟨b1, _, none⟩) hb1).trans hcell1
      have HX := Lib.hid hx
      clear hcell1 hx
      unfold BB at hxB
      obtain ⟨wo, rfl⟩ : ∃ wo : World, wo = wr := ⟨_, rfl⟩
      go_wp2_with fail
      go_loopg [8, 27] m (MulIn w w.heap.size n m i x b l0)
      case atStart => exact ⟨0, 0, l0, rfl, rfl, by omega, by omega, rfl, HLEN0, HOK0, HBK0, Lib.hid (by simp [val_nil]), HZ0, HBL0⟩
      case round =>
        obtain ⟨kk, cc, l, rfl, rfl, hcc, hk, rfl, HLEN, HOK, HBK, HV, HZ, HBL⟩ := hrel
        by_cases hkm : kk < m
        · obtain ⟨b2, o2, y, hB, hb2, hy, hyB, hcell2⟩ := HB.out.at_ hkm
          subst hB
          have hc2 : wr.cell? ⟨b2, o2 + kk, none⟩ = some (.int .u32 y) := (HBL.out.cell (p := ⟨b2, _, none⟩) hb2).trans hcell2
          obtain ⟨o, ho⟩ : ∃ o, l[i + kk]? = some o := ⟨_, List.getElem?_eq_getElem (by rw [HLEN.out]; omega)⟩
          have hoB := ok_at HOK.out ho
          have hg1 : wr.cell? ⟨w.heap.size, i + kk, none⟩ = some (.int .u32 o) := blkU_cell HBK.out ho
          have hg2 : wr.frozen? ⟨w.heap.size, i + kk, none⟩ = false := HBK.out.frozen _
          have HS := Lib.hid (mul_step HLEN.out HOK.out HV.out HZ.out hkm (val_take_succ hy) ho)
          clear hcell2 hy ho
          unfold BB at hyB hoB
          obtain ⟨p1, p2, p3⟩ := mul_bd hxB hyB
          go_wp2_with fail
          have ec : (x : Int) * y + o + cc = ((x * y + o + cc : Nat) : Int) := by simp
          rw [ec]
          go_roundg (m - (kk + 1))
          case measure => omega
          case rel =>
            refine ⟨kk + 1, (x * y + o + cc) / BB, l.set (i + kk) ((x * y + o + cc) % BB), by go_num, ?_, ?_, by omega, rfl, Lib.hid HS.out.1, Lib.hid HS.out.2.1, Lib.hid ?_, Lib.hid HS.out.2.2.1, Lib.hid HS.out.2.2.2, Lib.hid (HBL.out.setCell (Nat.le_refl _) _)⟩
            · unfold BB; generalize x * y + o + cc = s; simp
            · unfold BB; generalize x * y = p at *; omega
            · have := blkU_set HBK.out (i + kk) ((x * y + o + cc) % BB)
              rw [show (((x * y + o + cc) % BB : Nat) : Int) = ((x * y + o + cc : Nat) : Int) % 4294967296 by unfold BB; generalize x * y + o + cc = s; simp] at this
              exact this
        · obtain rfl : kk = m := by omega
          have HV1 := Lib.hid HV.out
          rw [List.take_of_length_le (by rw [HB.out.len]; omega)] at HV1
          have HS := Lib.hid (mul_out HLEN.out HOK.out HV1.out HV0.out HZ.out hin hcc (val_take_succ HX.out))
          have hg1 : wr.cell? ⟨w.heap.size, i + kk, none⟩ = some (.int .u32 (0 : Nat)) := blkU_cell HBK.out (HZ.out _ (by omega) (by omega))
          have hg2 : wr.frozen? ⟨w.heap.size, i + kk, none⟩ = false := HBK.out.frozen _
          go_wp2_with fail
          go_roundg (n - (i + 1))
          case measure => omega
          case rel => exact ⟨i + 1, l.set (i + kk) cc, by go_num, by omega, rfl, Lib.hid HS.out.1, Lib.hid HS.out.2.1, Lib.hid (blkU_set HBK.out _ cc), Lib.hid HS.out.2.2.1, Lib.hid HS.out.2.2.2, Lib.hid (HBL.out.setCell (Nat.le_refl _) _)⟩
    · obtain rfl : i = n := by omega
      go_wp2_with fail
      go_ret
      refine ⟨_, _, _, l0, rfl, Lib.hid (Nw.of_blk HBK0.out HOK0.out (Nat.le_refl _) HLEN0.out (by unfold maxLen; omega)), Lib.hid ?_, by omega, HBL0⟩
      have h1 := HV0.out
      rwa [List.take_of_length_le (by rw [HA.out.len]; omega)] at h1
end Go.Proofs.YtoogeihbhhcpaaaGreatDoor
namespace Go.Proofs.YtoogeihbhhcpaaaGreatDoor
open Go.RowKit Go.Fl Go.Fl.Nm

def ShortPost (n d v : Nat) (w : World) (e : Ending) (w' : World) : Prop :=
  ∃ (A : Option Addr) (c : Nat) (l : List Nat), e = .returned (.tuple #[.slice A n c, .int .u32 (v % d : Nat)]) ∧ Hid (Nw w' tU w.heap.size A n c l) ∧ Hid (val l = v / d) ∧ Hid (Below w.heap.size w w')
def ShortRel (w : World) (g n d : Nat) (a : List Nat) (k : Nat) (rv iv : Value) (wr : World) : Prop :=
  ∃ (r : Nat) (l : List Nat), iv = .int .i64 ((k : Int) - 1) ∧ rv = .int .u32 r ∧ r < d ∧ k ≤ n ∧ Hid (l.length = n) ∧ Hid (ok l) ∧ Hid (Blk wr g tU (UA l)) ∧
    Hid (val (l.drop k) * d + r = val (a.drop k)) ∧ Hid (Below w.heap.size w wr)

theorem set_drop_succ {α : Type} (l : List α) (j : Nat) (x : α) : (l.set j x).drop (j + 1) = l.drop (j + 1) := by
  rw [List.drop_set_of_lt (by omega)]
theorem short_step {l a : List Nat} {j n d r x : Nat} (hl : l.length = n) (hok : ok l) (hj : j < n) (hr : r < d) (hv : val (l.drop (j + 1)) * d + r = val (a.drop (j + 1))) (hx : a[j]? = some x) (hxB : x < BB) :
    (l.set j ((r * BB + x) / d)).length = n ∧ ok (l.set j ((r * BB + x) / d)) ∧ val ((l.set j ((r * BB + x) / d)).drop j) * d + (r * BB + x) % d = val (a.drop j) ∧ (r * BB + x) / d < BB := by
  have hq : (r * BB + x) / d < BB := by
    rw [Nat.div_lt_iff_lt_mul (by omega)]
    have : (r + 1) * BB ≤ d * BB := Nat.mul_le_mul_right _ hr
    rw [Nat.mul_comm d] at this
    rw [Nat.add_mul] at this
    omega
  refine ⟨by simp [hl], ok_set hok _ _ hq, ?_, hq⟩
  have h1 : (l.set j ((r * BB + x) / d))[j]? = some ((r * BB + x) / d) := by rw [List.getElem?_set_self (by omega)]
  rw [val_drop h1, val_drop hx, set_drop_succ, ← hv, Nat.add_mul, Nat.mul_assoc, Nat.mul_add]
  have e := Nat.div_add_mod (r * BB + x) d
  rw [Nat.mul_comm d] at e
  rw [Nat.mul_comm BB r]
  omega

def DivPost (h l y : Nat) (w : World) (e : Ending) (w' : World) : Prop := ∃ q r : Nat, e = .returned (.tuple #[.int .u32 q, .int .u32 r]) ∧ Hid ((h * BB + l) / y = q) ∧ Hid ((h * BB + l) % y = r) ∧ r < y ∧ Hid (∃ n, w' = w.drewN n)
theorem div32_nat (h l y : Nat) (w : World) (hh : h < y) (hl : l < 4294967296) (hy : y < 4294967296) :
    Calls Tryz.prog 174 #[.int .u32 h, .int .u32 l, .int .u32 y] w (DivPost h l y w) := by
  refine (div32_any h l y w hh hl hy).mono ?_
  rintro e w1 ⟨rfl, hw⟩
  exact ⟨_, _, rfl, Lib.hid rfl, Lib.hid rfl, Nat.mod_lt _ (by omega), Lib.hid hw⟩

set_option maxHeartbeats 800000 in
set_option maxRecDepth 100000 in
theorem short_any (A : Option Addr) (n c d : Nat) (a : List Nat) (w : World) (ha : Sl w A n c a) (hn : n ≤ 100000) (hd0 : 0 < d) (hd : d < 4294967296) :
    Calls Tryz.prog 140 #[.slice A n c, .int .u32 d] w (ShortPost n d (val a) w) := by
  have HA := Lib.hid ha
  clear ha
  have hmk := make_u32 n n (n : Int) (n : Int) (by omega) (by omega) (by omega) (by omega)
  have HB0 := Lib.hid (Blk.new w tU (UA (zeros n)))
  have HL0 := Lib.hid ((Below.refl w.heap.size w).alloc (Nat.le_refl _) (.cells (UA (zeros n)) tU))
  go_enter Tryz.func140, Tryz.ntmps140
  go_wp2_with fail
  clear hmk
  go_loopg [7, 8] n (ShortRel w w.heap.size n d a)
  case atStart => exact ⟨0, zeros n, rfl, rfl, hd0, by omega, Lib.hid (zeros_len _), Lib.hid (ok_zeros _), HB0, Lib.hid (by rw [List.drop_eq_nil_of_le (by rw [zeros_len]; omega), List.drop_eq_nil_of_le (by rw [HA.out.len]; omega)]; simp [val_nil]), HL0⟩
  case round =>
    obtain ⟨r, l, rfl, rfl, hr, hk, HLEN, HOK, HBK, HV, HBL⟩ := hrel
    cases gk with
    | zero =>
      rw [show ((0 : Nat) : Int) - 1 = -1 by omega]
      have h1 := HV.out
      rw [List.drop_zero, List.drop_zero] at h1
      have HQ := Lib.hid (show val a / d = val l by rw [← h1, Nat.mul_comm, Nat.mul_add_div hd0, Nat.div_eq_of_lt hr]; omega)
      have HR := Lib.hid (show val a % d = r by rw [← h1, Nat.mul_comm, Nat.mul_add_mod, Nat.mod_eq_of_lt hr])
      clear h1
      go_wp2_with fail
      refine bodyPost_ret (v := .tuple #[.slice (some ⟨w.heap.size, 0, none⟩) n n, .int .u32 r]) (by simp [results, Tryz.results140, go_sem]) rfl ?_
      exact ⟨_, _, l, by rw [HR.out], Lib.hid (Nw.of_blk HBK.out HOK.out (Nat.le_refl _) HLEN.out (by unfold maxLen; omega)), Lib.hid HQ.out.symm, HBL⟩
    | succ j =>
      rw [show ((j + 1 : Nat) : Int) - 1 = j by omega]
      obtain ⟨b1, o1, x, hA, hb1, hx, hxB, hcell1⟩ := HA.out.at_ (i := j) (by omega)
      subst hA
      have hc1 : wr.cell? ⟨b1, o1 + j, none⟩ = some (.int .u32 x) := (HBL.out.cell (p := ⟨b1, _, none⟩) hb1).trans hcell1
      have HS := Lib.hid (short_step HLEN.out HOK.out (by omega) hr HV.out hx hxB)
      clear hcell1 hx
      unfold BB at hxB
      obtain ⟨o, ho⟩ : ∃ o, l[j]? = some o := ⟨_, List.getElem?_eq_getElem (by rw [HLEN.out]; omega)⟩
      have HO := Lib.hid ho
      clear ho
      go_wp2_with fail
      refine (div32_nat r x d _ hr hxB hd).mono ?_
      rintro e w1 ⟨qq, rr, rfl, HQ, HR, hrd, HW⟩
      have HB1 := Lib.hid (show Blk w1 w.heap.size tU (UA l) by obtain ⟨q, hq⟩ := HW.out; rw [hq]; exact HBK.out.drewN q)
      have HL1 := Lib.hid (show Below w.heap.size w w1 by obtain ⟨q, hq⟩ := HW.out; rw [hq]; exact below_drewN HBL.out q)
      rw [HQ.out, HR.out] at HS
      have hqB := HS.out.2.2.2
      unfold BB at hqB
      clear HW
      have hg1 : w1.cell? ⟨w.heap.size, j, none⟩ = some (.int .u32 o) := blkU_cell HB1.out HO.out
      have hg2 : w1.frozen? ⟨w.heap.size, j, none⟩ = false := HB1.out.frozen j
      go_wp2_with fail
      go_roundg j
      case measure => omega
      case rel => exact ⟨rr, l.set j qq, rfl, rfl, hrd, by omega, Lib.hid HS.out.1, Lib.hid HS.out.2.1, Lib.hid (blkU_set HB1.out j qq), Lib.hid HS.out.2.2.1, Lib.hid (HL1.out.setCell (Nat.le_refl _) _)⟩

end Go.Proofs.YtoogeihbhhcpaaaGreatDoor
