/-
  The walk of LexBack.
-/
import Derived.Test.YtgneahnjdoffdaaLexM
namespace Go.Proofs.Ytgneahnjdoffdaa
open Go.RowKit Go.Fl Go.Fl.Lx

theorem run_neq_pos (w : World) (l c l' c' : Int) :
   (binOp .neq 25 (.agg #[.int .i64 l, .int .i64 c]) (.agg #[.int .i64 l', .int .i64 c'])).run Try.prog w = .ok (.bool (!((l == l') && (c == c')))) w := by
  simp [go_sem]
  by_cases h3 : l = l' <;> by_cases h4 : c = c' <;> simp [h3, h4]
theorem ba_ext (s s' : ByteArray) (h : s.data.toList = s'.data.toList) : s = s' := by
  cases s; cases s'
  simpa using h
theorem ba_list (s : ByteArray) : s.toList = s.data.toList := Lib.toList_data s

set_option maxHeartbeats 1600000 in
set_option maxRecDepth 100000 in
theorem lexBack_any (A : Option Addr) (n ca : Nat) (ts : List TI) (w : World) (hn : ts.length = n) (hm : n ≤ maxLen) (hl : ∀ t ∈ ts, t.text.length ≤ maxLen) (ha : Rd w 4 A n (tiCells ts)) :
    Calls Try.prog 9 #[.slice A n ca] w fun e w' => e = .returned (.bool true) ∧ Below w.heap.size w w' := by
  have HA := Lib.hid ha
  have HT := Lib.hid hl
  have HN := Lib.hid hn
  clear ha hl hn
  by_cases hsh : shortB ts = false
  · go_enter Try.func9, Try.ntmps9
    go_wp2_with fail
    refine (awake_any _).mono ?_
    rintro e w1 ⟨rfl, hb1⟩
    have HB1 := Lib.hid hb1
    have sz1 := hb1.size
    clear hb1
    go_wp2_with fail
    refine (short_any A n ca ts _ HN.out hm HT.out (HA.out.below HB1.out)).mono ?_
    rw [hsh]
    rintro e w2 ⟨rfl, hb2⟩
    have HB2 := Lib.hid (HB1.out.trans (hb2.mono sz1))
    clear hb2
    go_wp2_with fail
    go_ret
    exact ⟨rfl, HB2.out⟩
  have hsh' : shortB ts = true := by simpa using hsh
  obtain ⟨h80, h60⟩ := short_len ts hsh'
  have H60 := Lib.hid h60
  have hn80 : n ≤ 80 := by rw [← HN.out]; exact h80
  clear h60 h80 hsh
  by_cases hn0 : n = 0
  · have hts : ts = [] := List.eq_nil_of_length_eq_zero (by rw [HN.out]; exact hn0)
    have HJ := Lib.hid (show joinP ts = [] by rw [hts]; rfl)
    subst hn0
    clear hts
    go_enter Try.func9, Try.ntmps9
    go_wp2_with fail
    refine (awake_any _).mono ?_
    rintro e w1 ⟨rfl, hb1⟩
    have HB1 := Lib.hid hb1
    have sz1 := hb1.size
    clear hb1
    go_wp2_with fail
    refine (short_any A 0 ca ts _ HN.out hm HT.out (HA.out.below HB1.out)).mono ?_
    rw [hsh']
    rintro e w2 ⟨rfl, hb2⟩
    have HB2 := Lib.hid (HB1.out.trans (hb2.mono sz1))
    have sz2 := HB2.out.size
    clear hb2
    go_wp2_with fail
    refine (join_any A 0 ca ts _ HN.out.symm (HA.out.below HB2.out) hn80 H60.out).mono ?_
    rintro e w3 ⟨s, rfl, HS, HB3⟩
    have HB3' := Lib.hid (HB2.out.trans (HB3.out.mono sz2))
    obtain rfl : s = ⟨#[]⟩ := ba_ext _ _ (by rw [HS.out, HJ.out])
    go_wp2_with fail
    go_ret
    exact ⟨ret_bool (by simp), HB3'.out⟩
  by_cases hbad : ts.any badP = true
  · have HJ := Lib.hid (show joinP ts = [] by unfold joinP; rw [if_pos hbad])
    have hn0' : ((n : Int) == 0) = false := by rw [beq_eq_false_iff_ne]; omega
    go_enter Try.func9, Try.ntmps9
    go_wp2_with fail
    refine (awake_any _).mono ?_
    rintro e w1 ⟨rfl, hb1⟩
    have HB1 := Lib.hid hb1
    have sz1 := hb1.size
    clear hb1
    go_wp2_with fail
    refine (short_any A n ca ts _ HN.out hm HT.out (HA.out.below HB1.out)).mono ?_
    rw [hsh']
    rintro e w2 ⟨rfl, hb2⟩
    have HB2 := Lib.hid (HB1.out.trans (hb2.mono sz1))
    have sz2 := HB2.out.size
    clear hb2
    go_wp2_with fail
    refine (join_any A n ca ts _ HN.out.symm (HA.out.below HB2.out) hn80 H60.out).mono ?_
    rintro e w3 ⟨s, rfl, HS, HB3⟩
    have HB3' := Lib.hid (HB2.out.trans (HB3.out.mono sz2))
    have sz3 := HB3'.out.size
    obtain rfl : s = ⟨#[]⟩ := ba_ext _ _ (by rw [HS.out, HJ.out])
    go_wp2_with fail
    refine (given_ti A n ca ts _ HN.out.symm (HA.out.below HB3'.out) (by omega)).mono ?_
    rintro e w4 ⟨v, rfl, hown, hb4⟩
    obtain ⟨A4, c4, rfl, hrd4, _⟩ := Rd.of_own hown
    have HRD := Lib.hid hrd4
    have HB4 := Lib.hid (HB3'.out.trans (hb4.mono sz3))
    have sz4 := HB4.out.size
    clear hown hrd4 hb4
    go_wp2_with fail
    refine (has_back A4 ts.length c4 ts _ rfl HT.out HRD.out (by rw [HN.out]; omega)).mono ?_
    rw [hbad]
    rintro e w5 ⟨rfl, hb5⟩
    have HB5 := Lib.hid (HB4.out.trans (hb5.mono sz4))
    clear hb5
    go_wp2_with fail
    go_ret
    exact ⟨ret_bool (by simp), HB5.out⟩
  have hbad' : ts.any badP = false := by simpa using hbad
  have HBD := Lib.hid hbad'
  clear hbad hbad'
  have HJ := Lib.hid (show joinP ts = Lib.join (texts ts) [32] by unfold joinP; rw [HBD.out]; rfl)
  have HNE := Lib.hid (join_empty ts HBD.out (fun h => hn0 (by rw [← HN.out, h]; rfl)))
  have HLEN := Lib.hid (joinP_len ts (by rw [HN.out]; exact hn80) H60.out ts.length)
  rw [List.take_length] at HLEN
  have HQ := Lib.hid (show quad (lexRes (Lib.join (texts ts) [32])) = (backToks ts 1, 0, 0, 0) by
    rw [lexRes_small _ (by have := HLEN.out; omega), split_join ts HBD.out 1]; rfl)
  go_enter Try.func9, Try.ntmps9
  go_wp2_with fail
  refine (awake_any _).mono ?_
  rintro e w1 ⟨rfl, hb1⟩
  have HB1 := Lib.hid hb1
  have sz1 := hb1.size
  clear hb1
  go_wp2_with fail
  refine (short_any A n ca ts _ HN.out hm HT.out (HA.out.below HB1.out)).mono ?_
  rw [hsh']
  rintro e w2 ⟨rfl, hb2⟩
  have HB2 := Lib.hid (HB1.out.trans (hb2.mono sz1))
  have sz2 := HB2.out.size
  clear hb2
  go_wp2_with fail
  refine (join_any A n ca ts _ HN.out.symm (HA.out.below HB2.out) hn80 H60.out).mono ?_
  rintro e w3 ⟨s, rfl, HS, HB3⟩
  have HB3' := Lib.hid (HB2.out.trans (HB3.out.mono sz2))
  have sz3 := HB3'.out.size
  have HSL := Lib.hid (show s.data.toList = Lib.join (texts ts) [32] by rw [HS.out, HJ.out])
  have hse : s.toList.isEmpty = false := by
    rw [ba_list, HSL.out, List.isEmpty_eq_false_iff]
    exact HNE.out
  have hsz : s.size ≤ maxLen := by
    rw [← length_data, HSL.out]
    have := HLEN.out
    unfold maxLen; omega
  rw [← HSL.out] at HQ
  go_wp2_with fail
  refine (split_quad _ _ hsz _ _ _ _ HQ.out).mono ?_
  rintro e w4 ⟨A4, c4, rfl, _, HRD, HB4⟩
  rw [back_len, HN.out] at HRD ⊢
  have HB4' := Lib.hid (HB3'.out.trans (HB4.out.mono sz3))
  have sz4 := HB4'.out.size
  clear hse hsz
  have HBL := Lib.hid (back_len ts 1)
  have HRD' := Lib.hid (HRD.out.alloc (.cells #[.int .i64 0, .int .i64 0] 25))
  have HAA := Lib.hid ((HA.out.below HB4'.out).alloc (.cells #[.int .i64 0, .int .i64 0] 25))
  have HB5 := Lib.hid (HB4'.out.alloc sz4 (.cells #[.int .i64 0, .int .i64 0] 25))
  go_wp2_with fail
  refine (alike_same A A4 n n ca c4 ts ((backToks ts 1).map tiOf) _ HN.out (by rw [List.length_map, HBL.out, HN.out]) rfl (fun j a b h1 h2 => by
    rw [List.getElem?_map] at h2
    cases hq : (backToks ts 1)[j]? with
    | none => rw [hq] at h2; cases h2
    | some q =>
      rw [hq] at h2
      injection h2 with h2
      subst h2
      exact (back_at ts HBD.out 1 j a q h1 hq).1) HAA.out (by rw [tiCells_of]; exact HRD'.out) (by omega)).mono ?_
  rintro e w6 ⟨rfl, hb6⟩
  have HB6 := Lib.hid (HB5.out.trans (hb6.mono (by simp; omega)))
  have HR6 := Lib.hid (HRD'.out.below hb6)
  have sz6 := hb6.size
  simp at sz6
  clear hb6
  have hneq := run_neq_pos
  go_wp2_with fail
  go_loopg [7, 43] n (fun k av iv wr => ∃ j : Nat, iv = .int .i64 j ∧ av = .int .i64 (colAt ts j) ∧ j ≤ n ∧ k = n - j ∧ Hid (Below w6.heap.size w6 wr))
  case atStart => exact ⟨0, rfl, rfl, by omega, rfl, Below.refl _ _⟩
  case round =>
    obtain ⟨j, rfl, rfl, hj, rfl, HL⟩ := hrel
    have hls := HL.out.size
    have HC := Lib.hid (colAt_le ts j (by rw [HN.out]; exact hn80) H60.out)
    have hcol := HC.out
    by_cases hlt : j < n
    · obtain ⟨b, o, hA, hbl, hca⟩ := HR6.out.at_ (by omega)
      subst hA
      obtain ⟨t, ht⟩ : ∃ t, ts[j]? = some t := ⟨_, List.getElem?_eq_getElem (by rw [HN.out]; exact hlt)⟩
      obtain ⟨q, hq⟩ : ∃ q, (backToks ts 1)[j]? = some q := ⟨_, List.getElem?_eq_getElem (by rw [HBL.out, HN.out]; exact hlt)⟩
      obtain ⟨_, hql, hqt⟩ := back_at ts HBD.out 1 j t q ht hq
      have hqc := back_col ts 1 j q hq
      have x0 : wr.cell? ⟨b, o + j * 4, none⟩ = some (.int .i64 q.kind) := (HL.out.cell (p := ⟨b, _, none⟩) hbl).trans (hca (j * 4 + 0) _ (toks_at _ j q hq 0 (by omega)))
      have x1 : wr.cell? ⟨b, o + j * 4 + 1, none⟩ = some (.string ⟨t.text.toArray⟩) := (HL.out.cell (p := ⟨b, _, none⟩) hbl).trans (hca (j * 4 + 1) _ (by rw [← hqt]; exact toks_at _ j q hq 1 (by omega)))
      have x2 : wr.cell? ⟨b, o + j * 4 + 2, none⟩ = some (.int .i64 1) := (HL.out.cell (p := ⟨b, _, none⟩) hbl).trans (hca (j * 4 + 2) _ ((toks_at _ j q hq 2 (by omega)).trans (by simp [tokCells, hql])))
      have x3 : wr.cell? ⟨b, o + j * 4 + 3, none⟩ = some (.int .i64 (colAt ts j)) := (HL.out.cell (p := ⟨b, _, none⟩) hbl).trans (hca (j * 4 + 3) _ ((toks_at _ j q hq 3 (by omega)).trans (by simp [tokCells]; omega)))
      have HCS := Lib.hid (colAt_succ ts j t ht)
      have HTL := Lib.hid (H60.out t (List.mem_of_getElem? ht))
      obtain ⟨tb, htb⟩ : ∃ tb : ByteArray, tb = ⟨t.text.toArray⟩ := ⟨_, rfl⟩
      rw [← htb] at x1
      have htbs : tb.size ≤ 60 := by rw [htb]; simpa [ByteArray.size] using HTL.out
      have HTB := Lib.hid (show tb.size = t.text.length by rw [htb]; simp [ByteArray.size])
      clear htb hca ht hq hql hqt hqc
      generalize hcc : colAt ts j = cc at *
      have HCC := Lib.hid hcc
      clear hcc
      go_wp2_with fail
      go_roundg (n - (j + 1))
      case measure => omega
      case rel =>
        refine ⟨j + 1, by go_num, ?_, by omega, rfl, HL.out.alloc (by omega) _⟩
        rw [HCS.out, ← HTB.out]
        congr 1
    · go_wp2_with fail
      go_ret
      exact ⟨rfl, HB6.out.trans (HL.out.mono (by omega))⟩
end Go.Proofs.Ytgneahnjdoffdaa
