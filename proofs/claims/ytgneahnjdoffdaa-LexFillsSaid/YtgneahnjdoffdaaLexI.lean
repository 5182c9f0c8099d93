/-
  slices.IndexFunc and slices.ContainsFunc over tokens; 'short' (written by genidx.py).
-/
import Derived.Test.YtgneahnjdoffdaaLexY
namespace Go.Proofs.Ytgneahnjdoffdaa
open Go.RowKit Go.Fl Go.Fl.Lx

def IdxPost (w : World) (b : Bool) (e : Ending) (w' : World) : Prop := ∃ r : Int, e = .returned (.int .i64 r) ∧ Hid (decide (0 ≤ r) = b) ∧ Hid (Below w.heap.size w w')
def longP (t : TI) : Bool := decide (60 < t.text.length)
def badP (t : TI) : Bool := !validP t.kind t.text
theorem ti_take (l : List TI) (k : Nat) (t : TI) (h : l[k]? = some t) : l.take (k + 1) = l.take k ++ [t] := by
  rw [List.take_add_one, h]; rfl

theorem short1_any (t : TI) (w : World) (hl : t.text.length ≤ maxLen) :
    Calls Try.prog 49 #[.agg #[.int .i64 t.kind, .string ⟨t.text.toArray⟩, .int .i64 t.line, .int .i64 t.col]] w fun e w' => e = .returned (.bool (longP t)) ∧ Below w.heap.size w w' := by
  have hs : (⟨t.text.toArray⟩ : ByteArray).size = t.text.length := by simp [ByteArray.size]
  have HS := Lib.hid hs
  unfold maxLen at hl
  obtain ⟨s, hse⟩ : ∃ s : ByteArray, s = ⟨t.text.toArray⟩ := ⟨_, rfl⟩
  rw [← hse] at HS ⊢
  have hb : s.size ≤ 2 ^ 63 - 1 := by rw [HS.out]; exact hl
  clear hs hse hl
  by_cases hp : 60 < s.size
  · go_enter Try.func49, Try.ntmps49
    go_wp2_with fail
    go_ret
    exact ⟨ret_bool (by unfold longP; rw [← HS.out]; simp; omega), (Below.refl _ _).alloc (Nat.le_refl _) _⟩
  · go_enter Try.func49, Try.ntmps49
    go_wp2_with fail
    go_ret
    exact ⟨ret_bool (by unfold longP; rw [← HS.out]; simp; omega), (Below.refl _ _).alloc (Nat.le_refl _) _⟩

theorem fills1_any (t : TI) (w : World) (hl : t.text.length ≤ maxLen) :
    Calls Try.prog 26 #[.agg #[.int .i64 t.kind, .string ⟨t.text.toArray⟩, .int .i64 t.line, .int .i64 t.col]] w fun e w' => e = .returned (.bool (badP t)) ∧ Below w.heap.size w w' := by
  have hs : (⟨t.text.toArray⟩ : ByteArray).size ≤ maxLen := by simpa [ByteArray.size] using hl
  obtain ⟨v, hv⟩ : ∃ v, v = validP t.kind (⟨t.text.toArray⟩ : ByteArray).data.toList := ⟨_, rfl⟩
  have HV' := Lib.hid hv
  clear hl hv
  go_enter Try.func26, Try.ntmps26
  go_wp2_with fail
  refine (rvalid_any _ _ _ _ _ hs).mono ?_
  rintro e w2 ⟨rfl, hb2⟩
  rw [← HV'.out]
  have HB := Lib.hid (show Below w.heap.size w w2 from ((Below.refl _ _).alloc (Nat.le_refl _) _).trans (hb2.mono (by simp)))
  clear hb2
  cases v with
  | false =>
    go_wp2_with fail
    go_ret
    exact ⟨ret_bool (by unfold badP; rw [show validP t.kind t.text = _ from HV'.out.symm]; rfl), HB.out⟩
  | true =>
    go_wp2_with fail
    go_ret
    exact ⟨ret_bool (by unfold badP; rw [show validP t.kind t.text = _ from HV'.out.symm]; rfl), HB.out⟩

theorem back1_any (t : TI) (w : World) (hl : t.text.length ≤ maxLen) :
    Calls Try.prog 31 #[.agg #[.int .i64 t.kind, .string ⟨t.text.toArray⟩, .int .i64 t.line, .int .i64 t.col]] w fun e w' => e = .returned (.bool (badP t)) ∧ Below w.heap.size w w' := by
  have hs : (⟨t.text.toArray⟩ : ByteArray).size ≤ maxLen := by simpa [ByteArray.size] using hl
  obtain ⟨v, hv⟩ : ∃ v, v = validP t.kind (⟨t.text.toArray⟩ : ByteArray).data.toList := ⟨_, rfl⟩
  have HV' := Lib.hid hv
  clear hl hv
  go_enter Try.func31, Try.ntmps31
  go_wp2_with fail
  refine (rvalid_any _ _ _ _ _ hs).mono ?_
  rintro e w2 ⟨rfl, hb2⟩
  rw [← HV'.out]
  have HB := Lib.hid (show Below w.heap.size w w2 from ((Below.refl _ _).alloc (Nat.le_refl _) _).trans (hb2.mono (by simp)))
  clear hb2
  cases v with
  | false =>
    go_wp2_with fail
    go_ret
    exact ⟨ret_bool (by unfold badP; rw [show validP t.kind t.text = _ from HV'.out.symm]; rfl), HB.out⟩
  | true =>
    go_wp2_with fail
    go_ret
    exact ⟨ret_bool (by unfold badP; rw [show validP t.kind t.text = _ from HV'.out.symm]; rfl), HB.out⟩

set_option maxHeartbeats 400000 in
theorem idx_long (A : Option Addr) (n ca : Nat) (ts : List TI) (w : World) (hn : ts.length = n) (hl : ∀ t ∈ ts, t.text.length ≤ maxLen) (ha : Rd w 4 A n (tiCells ts)) (hm : n ≤ 65536) :
    Calls Try.prog 61 #[.slice A n ca, .func (.func 49) #[] #[]] w (IdxPost w (ts.any longP)) := by
  have HN := Lib.hid hn
  have HA := Lib.hid ha
  have HT := Lib.hid hl
  clear hn ha hl
  go_enter Try.func61, Try.ntmps61
  go_wp2_with fail
  go_loopg [8] n (fun k i wr => ∃ j : Nat, i = .int .i64 j ∧ j ≤ n ∧ k = n - j ∧ Hid ((ts.take j).any longP = false) ∧ Hid (Below w.heap.size w wr))
  case atStart => exact ⟨0, rfl, by omega, by omega, by unfold Hid; simp, Below.refl _ _⟩
  case round =>
    obtain ⟨j, rfl, hj, rfl, HF, HL⟩ := hrel
    have hls := HL.out.size
    by_cases hlt : j < n
    · obtain ⟨b, o, hA, hbl, hca⟩ := HA.out.at_ (by omega)
      subst hA
      obtain ⟨t, ht⟩ : ∃ t, ts[j]? = some t := ⟨_, List.getElem?_eq_getElem (by rw [HN.out]; exact hlt)⟩
      have x0 : wr.cell? ⟨b, o + j * 4, none⟩ = some (.int .i64 t.kind) := (HL.out.cell (p := ⟨b, _, none⟩) hbl).trans (hca (j * 4 + 0) _ (ti_at ts j _ ht 0 (by omega)))
      have x1 : wr.cell? ⟨b, o + j * 4 + 1, none⟩ = some (.string ⟨t.text.toArray⟩) := (HL.out.cell (p := ⟨b, _, none⟩) hbl).trans (hca (j * 4 + 1) _ (ti_at ts j _ ht 1 (by omega)))
      have x2 : wr.cell? ⟨b, o + j * 4 + 2, none⟩ = some (.int .i64 t.line) := (HL.out.cell (p := ⟨b, _, none⟩) hbl).trans (hca (j * 4 + 2) _ (ti_at ts j _ ht 2 (by omega)))
      have x3 : wr.cell? ⟨b, o + j * 4 + 3, none⟩ = some (.int .i64 t.col) := (HL.out.cell (p := ⟨b, _, none⟩) hbl).trans (hca (j * 4 + 3) _ (ti_at ts j _ ht 3 (by omega)))
      have HTL := Lib.hid (HT.out t (List.mem_of_getElem? ht))
      have HTK := Lib.hid (ti_take ts j t ht)
      have HME := Lib.hid (List.mem_of_getElem? ht)
      clear hca ht
      by_cases hp : longP t = true
      · go_wp2_with fail
        refine (short1_any t _ HTL.out).mono ?_
        rintro e w2 ⟨rfl, hb2⟩
        rw [hp]
        have HL2 := Lib.hid (HL.out.trans (hb2.mono hls))
        clear hb2
        go_wp2_with fail
        go_ret
        refine ⟨j, rfl, ?_, HL2.out⟩
        unfold Hid
        rw [List.any_eq_true.2 ⟨t, HME.out, hp⟩]
        simp
      · have hp' : longP t = false := by simpa using hp
        go_wp2_with fail
        refine (short1_any t _ HTL.out).mono ?_
        rintro e w2 ⟨rfl, hb2⟩
        rw [hp']
        have HL2 := Lib.hid (HL.out.trans (hb2.mono hls))
        clear hb2
        go_wp2_with fail
        go_roundg (n - (j + 1))
        case measure => omega
        case rel =>
          refine ⟨j + 1, by go_num, by omega, rfl, ?_, HL2.out⟩
          unfold Hid
          rw [HTK.out, List.any_append, HF.out]
          simp [hp']
    · have hjn : j = n := by omega
      go_wp2_with fail
      go_ret
      refine ⟨-1, rfl, ?_, HL.out⟩
      have := HF.out
      rw [hjn, ← HN.out, List.take_length] at this
      unfold Hid
      rw [this]; rfl

theorem has_long (A : Option Addr) (n ca : Nat) (ts : List TI) (w : World) (hn : ts.length = n) (hl : ∀ t ∈ ts, t.text.length ≤ maxLen) (ha : Rd w 4 A n (tiCells ts)) (hm : n ≤ 65536) :
    Calls Try.prog 48 #[.slice A n ca, .func (.func 49) #[] #[]] w fun e w' => e = .returned (.bool (ts.any longP)) ∧ Below w.heap.size w w' := by
  have HA := Lib.hid ha
  have HT := Lib.hid hl
  clear ha hl
  go_enter Try.func48, Try.ntmps48
  go_wp2_with fail
  refine (idx_long A n ca ts w hn HT.out HA.out hm).mono ?_
  rintro e w2 ⟨r, rfl, HR, HB⟩
  go_wp2_with fail
  all_goals (go_ret; refine ⟨?_, HB.out⟩; have h := HR.out; simp_all)

set_option maxHeartbeats 400000 in
theorem idx_fills (A : Option Addr) (n ca : Nat) (ts : List TI) (w : World) (hn : ts.length = n) (hl : ∀ t ∈ ts, t.text.length ≤ maxLen) (ha : Rd w 4 A n (tiCells ts)) (hm : n ≤ 65536) :
    Calls Try.prog 50 #[.slice A n ca, .func (.func 26) #[] #[]] w (IdxPost w (ts.any badP)) := by
  have HN := Lib.hid hn
  have HA := Lib.hid ha
  have HT := Lib.hid hl
  clear hn ha hl
  go_enter Try.func50, Try.ntmps50
  go_wp2_with fail
  go_loopg [8] n (fun k i wr => ∃ j : Nat, i = .int .i64 j ∧ j ≤ n ∧ k = n - j ∧ Hid ((ts.take j).any badP = false) ∧ Hid (Below w.heap.size w wr))
  case atStart => exact ⟨0, rfl, by omega, by omega, by unfold Hid; simp, Below.refl _ _⟩
  case round =>
    obtain ⟨j, rfl, hj, rfl, HF, HL⟩ := hrel
    have hls := HL.out.size
    by_cases hlt : j < n
    · obtain ⟨b, o, hA, hbl, hca⟩ := HA.out.at_ (by omega)
      subst hA
      obtain ⟨t, ht⟩ : ∃ t, ts[j]? = some t := ⟨_, List.getElem?_eq_getElem (by rw [HN.out]; exact hlt)⟩
      have x0 : wr.cell? ⟨b, o + j * 4, none⟩ = some (.int .i64 t.kind) := (HL.out.cell (p := ⟨b, _, none⟩) hbl).trans (hca (j * 4 + 0) _ (ti_at ts j _ ht 0 (by omega)))
      have x1 : wr.cell? ⟨b, o + j * 4 + 1, none⟩ = some (.string ⟨t.text.toArray⟩) := (HL.out.cell (p := ⟨b, _, none⟩) hbl).trans (hca (j * 4 + 1) _ (ti_at ts j _ ht 1 (by omega)))
      have x2 : wr.cell? ⟨b, o + j * 4 + 2, none⟩ = some (.int .i64 t.line) := (HL.out.cell (p := ⟨b, _, none⟩) hbl).trans (hca (j * 4 + 2) _ (ti_at ts j _ ht 2 (by omega)))
      have x3 : wr.cell? ⟨b, o + j * 4 + 3, none⟩ = some (.int .i64 t.col) := (HL.out.cell (p := ⟨b, _, none⟩) hbl).trans (hca (j * 4 + 3) _ (ti_at ts j _ ht 3 (by omega)))
      have HTL := Lib.hid (HT.out t (List.mem_of_getElem? ht))
      have HTK := Lib.hid (ti_take ts j t ht)
      have HME := Lib.hid (List.mem_of_getElem? ht)
      clear hca ht
      by_cases hp : badP t = true
      · go_wp2_with fail
        refine (fills1_any t _ HTL.out).mono ?_
        rintro e w2 ⟨rfl, hb2⟩
        rw [hp]
        have HL2 := Lib.hid (HL.out.trans (hb2.mono hls))
        clear hb2
        go_wp2_with fail
        go_ret
        refine ⟨j, rfl, ?_, HL2.out⟩
        unfold Hid
        rw [List.any_eq_true.2 ⟨t, HME.out, hp⟩]
        simp
      · have hp' : badP t = false := by simpa using hp
        go_wp2_with fail
        refine (fills1_any t _ HTL.out).mono ?_
        rintro e w2 ⟨rfl, hb2⟩
        rw [hp']
        have HL2 := Lib.hid (HL.out.trans (hb2.mono hls))
        clear hb2
        go_wp2_with fail
        go_roundg (n - (j + 1))
        case measure => omega
        case rel =>
          refine ⟨j + 1, by go_num, by omega, rfl, ?_, HL2.out⟩
          unfold Hid
          rw [HTK.out, List.any_append, HF.out]
          simp [hp']
    · have hjn : j = n := by omega
      go_wp2_with fail
      go_ret
      refine ⟨-1, rfl, ?_, HL.out⟩
      have := HF.out
      rw [hjn, ← HN.out, List.take_length] at this
      unfold Hid
      rw [this]; rfl

theorem has_fills (A : Option Addr) (n ca : Nat) (ts : List TI) (w : World) (hn : ts.length = n) (hl : ∀ t ∈ ts, t.text.length ≤ maxLen) (ha : Rd w 4 A n (tiCells ts)) (hm : n ≤ 65536) :
    Calls Try.prog 25 #[.slice A n ca, .func (.func 26) #[] #[]] w fun e w' => e = .returned (.bool (ts.any badP)) ∧ Below w.heap.size w w' := by
  have HA := Lib.hid ha
  have HT := Lib.hid hl
  clear ha hl
  go_enter Try.func25, Try.ntmps25
  go_wp2_with fail
  refine (idx_fills A n ca ts w hn HT.out HA.out hm).mono ?_
  rintro e w2 ⟨r, rfl, HR, HB⟩
  go_wp2_with fail
  all_goals (go_ret; refine ⟨?_, HB.out⟩; have h := HR.out; simp_all)

set_option maxHeartbeats 400000 in
theorem idx_back (A : Option Addr) (n ca : Nat) (ts : List TI) (w : World) (hn : ts.length = n) (hl : ∀ t ∈ ts, t.text.length ≤ maxLen) (ha : Rd w 4 A n (tiCells ts)) (hm : n ≤ 65536) :
    Calls Try.prog 50 #[.slice A n ca, .func (.func 31) #[] #[]] w (IdxPost w (ts.any badP)) := by
  have HN := Lib.hid hn
  have HA := Lib.hid ha
  have HT := Lib.hid hl
  clear hn ha hl
  go_enter Try.func50, Try.ntmps50
  go_wp2_with fail
  go_loopg [8] n (fun k i wr => ∃ j : Nat, i = .int .i64 j ∧ j ≤ n ∧ k = n - j ∧ Hid ((ts.take j).any badP = false) ∧ Hid (Below w.heap.size w wr))
  case atStart => exact ⟨0, rfl, by omega, by omega, by unfold Hid; simp, Below.refl _ _⟩
  case round =>
    obtain ⟨j, rfl, hj, rfl, HF, HL⟩ := hrel
    have hls := HL.out.size
    by_cases hlt : j < n
    · obtain ⟨b, o, hA, hbl, hca⟩ := HA.out.at_ (by omega)
      subst hA
      obtain ⟨t, ht⟩ : ∃ t, ts[j]? = some t := ⟨_, List.getElem?_eq_getElem (by rw [HN.out]; exact hlt)⟩
      have x0 : wr.cell? ⟨b, o + j * 4, none⟩ = some (.int .i64 t.kind) := (HL.out.cell (p := ⟨b, _, none⟩) hbl).trans (hca (j * 4 + 0) _ (ti_at ts j _ ht 0 (by omega)))
      have x1 : wr.cell? ⟨b, o + j * 4 + 1, none⟩ = some (.string ⟨t.text.toArray⟩) := (HL.out.cell (p := ⟨b, _, none⟩) hbl).trans (hca (j * 4 + 1) _ (ti_at ts j _ ht 1 (by omega)))
      have x2 : wr.cell? ⟨b, o + j * 4 + 2, none⟩ = some (.int .i64 t.line) := (HL.out.cell (p := ⟨b, _, none⟩) hbl).trans (hca (j * 4 + 2) _ (ti_at ts j _ ht 2 (by omega)))
      have x3 : wr.cell? ⟨b, o + j * 4 + 3, none⟩ = some (.int .i64 t.col) := (HL.out.cell (p := ⟨b, _, none⟩) hbl).trans (hca (j * 4 + 3) _ (ti_at ts j _ ht 3 (by omega)))
      have HTL := Lib.hid (HT.out t (List.mem_of_getElem? ht))
      have HTK := Lib.hid (ti_take ts j t ht)
      have HME := Lib.hid (List.mem_of_getElem? ht)
      clear hca ht
      by_cases hp : badP t = true
      · go_wp2_with fail
        refine (back1_any t _ HTL.out).mono ?_
        rintro e w2 ⟨rfl, hb2⟩
        rw [hp]
        have HL2 := Lib.hid (HL.out.trans (hb2.mono hls))
        clear hb2
        go_wp2_with fail
        go_ret
        refine ⟨j, rfl, ?_, HL2.out⟩
        unfold Hid
        rw [List.any_eq_true.2 ⟨t, HME.out, hp⟩]
        simp
      · have hp' : badP t = false := by simpa using hp
        go_wp2_with fail
        refine (back1_any t _ HTL.out).mono ?_
        rintro e w2 ⟨rfl, hb2⟩
        rw [hp']
        have HL2 := Lib.hid (HL.out.trans (hb2.mono hls))
        clear hb2
        go_wp2_with fail
        go_roundg (n - (j + 1))
        case measure => omega
        case rel =>
          refine ⟨j + 1, by go_num, by omega, rfl, ?_, HL2.out⟩
          unfold Hid
          rw [HTK.out, List.any_append, HF.out]
          simp [hp']
    · have hjn : j = n := by omega
      go_wp2_with fail
      go_ret
      refine ⟨-1, rfl, ?_, HL.out⟩
      have := HF.out
      rw [hjn, ← HN.out, List.take_length] at this
      unfold Hid
      rw [this]; rfl

theorem has_back (A : Option Addr) (n ca : Nat) (ts : List TI) (w : World) (hn : ts.length = n) (hl : ∀ t ∈ ts, t.text.length ≤ maxLen) (ha : Rd w 4 A n (tiCells ts)) (hm : n ≤ 65536) :
    Calls Try.prog 25 #[.slice A n ca, .func (.func 31) #[] #[]] w fun e w' => e = .returned (.bool (ts.any badP)) ∧ Below w.heap.size w w' := by
  have HA := Lib.hid ha
  have HT := Lib.hid hl
  clear ha hl
  go_enter Try.func25, Try.ntmps25
  go_wp2_with fail
  refine (idx_back A n ca ts w hn HT.out HA.out hm).mono ?_
  rintro e w2 ⟨r, rfl, HR, HB⟩
  go_wp2_with fail
  all_goals (go_ret; refine ⟨?_, HB.out⟩; have h := HR.out; simp_all)

def shortB (ts : List TI) : Bool := decide (ts.length ≤ 80) && !(ts.any longP)
theorem short_any (A : Option Addr) (n ca : Nat) (ts : List TI) (w : World) (hn : ts.length = n) (hm : n ≤ maxLen) (hl : ∀ t ∈ ts, t.text.length ≤ maxLen) (ha : Rd w 4 A n (tiCells ts)) :
    Calls Try.prog 23 #[.slice A n ca] w fun e w' => e = .returned (.bool (shortB ts)) ∧ Below w.heap.size w w' := by
  have HA := Lib.hid ha
  have HT := Lib.hid hl
  unfold maxLen at hm
  clear ha hl
  by_cases h80 : n ≤ 80
  · go_enter Try.func23, Try.ntmps23
    go_wp2_with fail
    refine (has_long A n ca ts w hn HT.out HA.out (by omega)).mono ?_
    rintro e w2 ⟨rfl, hb2⟩
    have HB := Lib.hid hb2
    have HS := Lib.hid (show shortB ts = !(ts.any longP) by unfold shortB; rw [hn]; simp [h80])
    clear hb2
    cases hb : ts.any longP with
    | false =>
      rw [hb] at HS
      go_wp2_with fail
      go_ret
      exact ⟨ret_bool (by rw [HS.out]; rfl), HB.out⟩
    | true =>
      rw [hb] at HS
      go_wp2_with fail
      go_ret
      exact ⟨ret_bool (by rw [HS.out]; rfl), HB.out⟩
  · have HS := Lib.hid (show shortB ts = false by unfold shortB; rw [hn]; simp [h80])
    have h80d : decide ((n : Int) ≤ 80) = false := by simp; omega
    go_enter Try.func23, Try.ntmps23
    go_wp2_with fail
    go_ret
    exact ⟨ret_bool (by rw [HS.out]), Below.refl _ _⟩
end Go.Proofs.Ytgneahnjdoffdaa
