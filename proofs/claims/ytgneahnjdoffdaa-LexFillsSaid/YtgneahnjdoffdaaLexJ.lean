/-
  lex.valid, lex.Join, the reference's Join, and the walk of LexJoins.
-/
import Derived.Test.YtgneahnjdoffdaaLexI
import Derived.Test.YtgneahnjdoffdaaLexShelf
namespace Go.Proofs.Ytgneahnjdoffdaa
open Go.RowKit Go.Fl Go.Fl.Lx

theorem cls_sym (b : UInt8) : (cls b == 6) = isSym b := by
  have := u8_all (p := fun c => (cls c == 6) == isSym c) (by decide +kernel) b
  simpa using this
theorem kind_err (l : List UInt8) : (kindOf l).2 = 0 ↔ (kindOf l).1 ≠ 0 := by
  unfold kindOf
  split
  · simp
  · split
    · simp
    · split <;> simp

set_option maxHeartbeats 800000 in
theorem lvalid_any (k : Int) (s : ByteArray) (l c : Int) (w : World) (hs : s.size ≤ maxLen) :
    Calls Try.prog 52 #[.agg #[.int .i64 k, .string s, .int .i64 l, .int .i64 c]] w fun e w' => e = .returned (.bool (validP k s.data.toList)) ∧ Below w.heap.size w w' := by
  have hs' := hs
  unfold maxLen at hs'
  by_cases h3 : k = 3
  · have h3' : (k == 3) = true := by simpa using h3
    by_cases h1 : s.size = 1
    · obtain ⟨b, hb⟩ : ∃ b, s.data.toList = [b] := by
        have : s.data.toList.length = 1 := by rw [length_data]; exact h1
        match hh : s.data.toList, this with
        | [b], _ => exact ⟨b, rfl⟩
      have h0 : 0 < s.size := by omega
      have h1' : ((s.size : Int) == 1) = true := by rw [h1]; rfl
      have HF := Lib.hid (show validP k s.data.toList = isSym s[0] by
        have : s[0] = b := by
          have := rest_cons s h0
          rw [hb] at this
          injection this with h _
          exact h.symm
        unfold validP
        rw [h3', hb, this]; rfl)
      obtain ⟨cb, hcb⟩ : ∃ cb : UInt8, cb = s[0] := ⟨_, rfl⟩
      rw [← hcb] at HF
      have HC := Lib.hid (cls_sym cb)
      clear h1 hb h3
      by_cases h6 : cls cb = 6
      · have h6' : ((cls cb : Int) == 6) = true := by rw [h6]; rfl
        have H6 := Lib.hid (show isSym cb = true by rw [← HC.out, h6]; rfl)
        clear h6
        go_enter Try.func52, Try.ntmps52
        go_wp2_with (go_at_call 33; rw [← hcb]; refine (class_any _ _).mono ?_; rintro e w' ⟨rfl, rfl⟩)
        go_ret
        exact ⟨ret_bool (by rw [HF.out, H6.out, ← hcb]; exact h6'), (Below.refl _ _).alloc (Nat.le_refl _) _⟩
      · have h6' : ((cls cb : Int) == 6) = false := by rw [beq_eq_false_iff_ne]; omega
        have H6 := Lib.hid (show isSym cb = false by rw [← HC.out, beq_eq_false_iff_ne]; exact h6)
        clear h6
        go_enter Try.func52, Try.ntmps52
        go_wp2_with (go_at_call 33; rw [← hcb]; refine (class_any _ _).mono ?_; rintro e w' ⟨rfl, rfl⟩)
        go_ret
        exact ⟨ret_bool (by rw [HF.out, H6.out, ← hcb]; exact h6'), (Below.refl _ _).alloc (Nat.le_refl _) _⟩
    · have h1' : ((s.size : Int) == 1) = false := by rw [beq_eq_false_iff_ne]; omega
      have HF := Lib.hid (show validP k s.data.toList = false by
        unfold validP
        rw [h3', if_pos rfl]
        split
        · rename_i b hb
          exfalso
          have := congrArg List.length hb
          rw [length_data] at this
          exact h1 (by simpa using this)
        · rfl)
      clear h1 h3
      go_enter Try.func52, Try.ntmps52
      go_wp2_with fail
      go_ret
      exact ⟨ret_bool (by rw [HF.out]), (Below.refl _ _).alloc (Nat.le_refl _) _⟩
  · have h3' : (k == 3) = false := by simpa using h3
    have HE := Lib.hid (show validP k s.data.toList = ((kindOf s.data.toList).1 != 0 && ((kindOf s.data.toList).1 : Int) == k) by unfold validP; rw [h3']; rfl)
    have HKE := Lib.hid (kind_err s.data.toList)
    obtain ⟨kd, er, hke⟩ : ∃ kd er, kindOf s.data.toList = (kd, er) := ⟨_, _, rfl⟩
    rw [hke] at HE HKE
    have HK := Lib.hid hke
    clear hke h3
    by_cases h0 : er = 0
    · have h0' : ((er : Int) == 0) = true := by rw [h0]; rfl
      have H0 := Lib.hid (HKE.out.1 h0)
      clear h0
      go_enter Try.func52, Try.ntmps52
      go_wp2_with fail
      refine (kind_any _ _ hs).mono ?_
      rw [HK.out]
      rintro e w' ⟨rfl, n, rfl⟩
      go_wp2_with fail
      go_ret
      exact ⟨ret_bool (by rw [HE.out]; simp [H0.out]), below_drewN ((Below.refl _ _).alloc (Nat.le_refl _) _) n⟩
    · have h0' : ((er : Int) == 0) = false := by rw [beq_eq_false_iff_ne]; omega
      have H0 := Lib.hid (show kd = 0 by
        rcases Nat.eq_zero_or_pos kd with h | h
        · exact h
        · exact absurd (HKE.out.2 (by omega)) h0)
      clear h0
      go_enter Try.func52, Try.ntmps52
      go_wp2_with fail
      refine (kind_any _ _ hs).mono ?_
      rw [HK.out]
      rintro e w' ⟨rfl, n, rfl⟩
      go_wp2_with fail
      go_ret
      exact ⟨ret_bool (by rw [HE.out, H0.out]; simp), below_drewN ((Below.refl _ _).alloc (Nat.le_refl _) _) n⟩

def GivenPostI (w : World) (ts : List TI) (e : Ending) (w' : World) : Prop :=
  ∃ v, e = .returned v ∧ w'.ownsRow w.heap.size 34 4 v ts.length (tiCells ts) ∧ Below w.heap.size w w'
def GivenRelI (w : World) (ts : List TI) (k : Nat) (ov iv : Value) (wr : World) : Prop :=
  ∃ j : Nat, iv = .int .i64 j ∧ j ≤ ts.length ∧ k = ts.length - j ∧ Hid (wr.ownsRow w.heap.size 34 4 ov j (tiCells (ts.take j))) ∧ Hid (Below w.heap.size w wr)

set_option maxHeartbeats 400000 in
theorem given_ti (A : Option Addr) (n ca : Nat) (ts : List TI) (w : World) (hn : n = ts.length) (ha : Rd w 4 A n (tiCells ts)) (hm : n ≤ 65536) :
    Calls Try.prog 14 #[.slice A n ca] w (GivenPostI w ts) := by
  have HN := Lib.hid hn
  have HA := Lib.hid ha
  clear hn ha
  go_enter Try.func14, Try.ntmps14
  go_wp2_with fail
  go_loopg [3, 8] n (fun k ov iv wr => GivenRelI w ts k ov iv wr)
  case atStart => exact ⟨0, rfl, by omega, by rw [HN.out]; rfl, World.ownsRow_nil _ _ _ _, Below.refl _ _⟩
  case round =>
    obtain ⟨j, rfl, hj, rfl, HO, HL⟩ := hrel
    rw [← HN.out] at hj
    by_cases hlt : j < n
    · obtain ⟨b, o, hA, hbl, hca⟩ := HA.out.at_ (by omega)
      subst hA
      obtain ⟨t, ht⟩ : ∃ t, ts[j]? = some t := ⟨_, List.getElem?_eq_getElem (by rw [← HN.out]; exact hlt)⟩
      have x0 : wr.cell? ⟨b, o + j * 4, none⟩ = some (.int .i64 t.kind) := (HL.out.cell (p := ⟨b, _, none⟩) hbl).trans (hca (j * 4 + 0) _ (ti_at ts j t ht 0 (by omega)))
      have x1 : wr.cell? ⟨b, o + j * 4 + 1, none⟩ = some (.string ⟨t.text.toArray⟩) := (HL.out.cell (p := ⟨b, _, none⟩) hbl).trans (hca (j * 4 + 1) _ (ti_at ts j t ht 1 (by omega)))
      have x2 : wr.cell? ⟨b, o + j * 4 + 2, none⟩ = some (.int .i64 t.line) := (HL.out.cell (p := ⟨b, _, none⟩) hbl).trans (hca (j * 4 + 2) _ (ti_at ts j t ht 2 (by omega)))
      have x3 : wr.cell? ⟨b, o + j * 4 + 3, none⟩ = some (.int .i64 t.col) := (HL.out.cell (p := ⟨b, _, none⟩) hbl).trans (hca (j * 4 + 3) _ (ti_at ts j t ht 3 (by omega)))
      have HTK := Lib.hid (ti_take ts j t ht)
      clear hca ht
      have hls := HL.out.size
      obtain ⟨i0, ti, tz0, tz1, tz2⟩ := info_parts Try.infoRTok
      go_wp2_with (at_builtin; refine wpList_append_lies _ rfl _ _ _ rfl w.heap.size 34 i0 _ 4 40 Try.underlying29 ti tz0 tz1 tz2 rfl (by omega) u3 j (tiCells (ts.take j)) rfl (by exact (HO.out.alloc _).alloc _) ⟨wr.heap.size + 1, 0, none⟩ 1 1 [.int .i64 t.kind, .string ⟨t.text.toArray⟩, .int .i64 t.line, .int .i64 t.col] rfl rfl (by exact World.news_of_block (cs := #[.int .i64 t.kind, .string ⟨t.text.toArray⟩, .int .i64 t.line, .int .i64 t.col]) (t := 34) (fr := (0, 0)) (by have := heap_alloc_new (wr.alloc (.cells #[.int .i64 t.kind, .string ⟨t.text.toArray⟩, .int .i64 t.line, .int .i64 t.col] 38)) (.cells #[.int .i64 t.kind, .string ⟨t.text.toArray⟩, .int .i64 t.line, .int .i64 t.col] 34); simpa using this)) (by simp [Value.oneCell']) (by omega) (by unfold maxLen; omega) (by omega) (by simp; omega) (wr.heap.size + 2) (by simp) ?_)
      intro g cap w2 hown hgrow hat hlt2
      have HO2 := Lib.hid hown
      have HL2 := Lib.hid (show Below w.heap.size w w2 from ((HL.out.alloc (by omega) _).alloc (by simp; omega) _).grown hgrow (by simp; omega) (fun k hk => (HO.out.lt k hk).1))
      clear hown hgrow hat hlt2 ti tz0 tz1 tz2
      go_wp2_with fail
      go_roundg (ts.length - (j + 1))
      case measure => rw [← HN.out]; omega
      case rel =>
        refine ⟨j + 1, by go_num, by rw [← HN.out]; omega, rfl, ?_, HL2.out⟩
        have := HO2.out
        unfold Hid
        rw [HTK.out]
        simpa [tiCells, TI.cells] using this
    · go_wp2_with fail
      go_ret
      have hjn : j = n := by omega
      subst hjn
      refine ⟨u3, rfl, ?_, HL.out⟩
      have := HO.out
      rw [HN.out, List.take_length] at this
      exact this
end Go.Proofs.Ytgneahnjdoffdaa
