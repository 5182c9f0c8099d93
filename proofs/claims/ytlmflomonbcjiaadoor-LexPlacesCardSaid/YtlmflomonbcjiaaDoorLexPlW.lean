/-
  The walk of LexPlaces.
-/
import Derived.Test.YtlmflomonbcjiaaDoorLexPl
import Derived.Deep.QuietTactic
import Derived.BigQuiet
import Derived.IntWalk
set_option linter.unusedVariables false
namespace Go.Proofs.YtlmflomonbcjiaaDoor
open Go.RowKit Go.Fl Go.Fl.Lx

/-- The library's bound of a short search: some number. -/
def MXP (w : World) : Prop := 0 < w.heap.size ∧ ∃ m, w.cell? ⟨0, 0, none⟩ = some (.int .i64 m)
theorem MXP.belowW {w w' : World} (h : MXP w) (hb : Below w.heap.size w w') : MXP w' := by
  obtain ⟨h0, m, hm⟩ := h
  exact ⟨Nat.lt_of_lt_of_le h0 hb.size, m, (hb.cell (p := ⟨0, 0, none⟩) h0).trans hm⟩
theorem ba_ext7 (s s' : ByteArray) (h : s.data.toList = s'.data.toList) : s = s' := by
  cases s; cases s'
  simpa using h
theorem run_eq_pos (w : World) (l c l' c' : Int) :
   (binOp .eql 27 (.agg #[.int .i64 l, .int .i64 c]) (.agg #[.int .i64 l', .int .i64 c'])).run Tryd.prog w = .ok (.bool ((l == l') && (c == c'))) w := by
  simp [go_sem]
  by_cases h3 : l = l' <;> by_cases h4 : c = c' <;> simp [h3, h4]
/-- strings.Split at a newline, as a slice that reads as strings. -/
theorem split_lin (s : ByteArray) (w : World) (hx : MXP w) (hs : s.size ≤ 3000) :
    Calls Tryd.prog 6 #[.string s, .string ⟨#[10]⟩] w fun e w' => ∃ (A : Option Addr) (n c : Nat) (P : List ByteArray), e = .returned (.slice A n c) ∧ Hid (P.map (·.data.toList) = lin s.data.toList) ∧ Hid (P.length = n) ∧ Hid (Rd w' 1 A n (P.map .string)) ∧ Hid (Below w.heap.size w w') := by
  obtain ⟨_, m, hm⟩ := hx
  obtain ⟨P, hP, hl, hn⟩ := lines_of s
  refine (Tryd.strings_Split s ⟨#[10]⟩ m w (by omega) hm (by decide)).mono ?_
  rintro e w' ⟨rfl, rfl⟩
  refine ⟨_, _, _, P, rfl, hl, hn, ?_, (Below.refl _ _).alloc (Nat.le_refl _) _⟩
  rw [← hP]
  exact Rd_new w _ (P.map .string) _ (by rw [List.length_map, hn])

set_option maxHeartbeats 1600000 in
set_option maxRecDepth 100000 in
theorem lexPlaces_any (s : ByteArray) (w : World) (hx : MXP w) (hs : s.size ≤ maxLen) :
    Calls Tryd.prog 3 #[.string s] w fun e w' => e = .returned (.bool true) ∧ Hid (Below w.heap.size w w') := by
  have HX := Lib.hid hx
  clear hx
  by_cases h3 : 3000 < s.size
  · have hg : decide ((3000 : Int) < (s.size : Int)) = true := decide_eq_true (by omega)
    go_enter Tryd.func3, Tryd.ntmps3
    go_wp2_with fail
    refine (lexAwake_any _).mono ?_
    rintro e w1 ⟨rfl, hb1⟩
    have HB1 := Lib.hid hb1
    clear hb1
    go_wp2_with fail
    go_ret
    exact ⟨rfl, HB1⟩
  have h3' : s.size ≤ 3000 := by omega
  have hg : decide ((3000 : Int) < (s.size : Int)) = false := decide_eq_false (by omega)
  clear h3
  rcases quad_lines s.data.toList (by rw [length_data]; exact h3') with ⟨ts, hq, hok⟩ | ⟨ln, co, er, hq, herr⟩
  case inr =>
    obtain ⟨e1, e2, e3, a, e4, e5⟩ := toksL_err _ _ _ _ _ (lin_no _) herr
    have HQ := Lib.hid hq
    have hll := lin_len s.data.toList a (List.mem_of_getElem? e4)
    rw [length_data] at hll
    have HE4 := Lib.hid e4
    clear hq herr e4
    go_enter Tryd.func3, Tryd.ntmps3
    go_wp2_with fail
    refine (lexAwake_any _).mono ?_
    rintro e w1 ⟨rfl, hb1⟩
    have HB1 := Lib.hid hb1
    have HX1 := Lib.hid (HX.out.belowW HB1.out)
    have sz1 := hb1.size
    clear hb1
    go_wp2_with fail
    refine (split_lin s _ HX1.out h3').mono ?_
    rintro e w2 ⟨A2, n, c2, P, rfl, HP, HN, HR, HB2⟩
    have HB2' := Lib.hid (HB1.out.trans (HB2.out.mono sz1))
    have sz2 := HB2'.out.size
    go_wp2_with fail
    refine (split_quad s _ hs _ _ _ _ HQ.out).mono ?_
    rintro e w4 ⟨A4, c4, rfl, _, HRD, HB4⟩
    have HR4 := Lib.hid (HR.out.below HB4.out)
    have HB4' := Lib.hid (HB2'.out.trans (HB4.out.mono sz2))
    have ht : ((er : Int) != 0) = true := by rw [bne_iff_ne]; omega
    have hlen0 : ([] : List Tok).length = 0 := rfl
    rw [hlen0] at HRD ⊢
    clear hlen0
    have hPl : P.length = (lin s.data.toList).length := by rw [← HP.out, List.length_map]
    have hlt : ln - 1 < n := by
      have := List.getElem?_eq_some_iff.1 HE4.out
      obtain ⟨h, _⟩ := this
      rw [← HN.out, hPl]
      exact h
    obtain ⟨b, o, hA, hbl, hca⟩ := HR4.out.at_ (by omega)
    subst hA
    obtain ⟨pb, hpb⟩ : ∃ pb, P[ln - 1]? = some pb := ⟨_, List.getElem?_eq_getElem (by rw [HN.out]; exact hlt)⟩
    have hpa : pb.size = a.length := by
      have h1 : (P.map (·.data.toList))[ln - 1]? = some pb.data.toList := by rw [List.getElem?_map, hpb]; rfl
      rw [HP.out, HE4.out] at h1
      injection h1 with h1
      rw [h1, length_data]
    go_wp2_with fail
    obtain ⟨wz, hwz⟩ : ∃ z9 : World, z9 = w4.alloc (Obj.cells #[.int .i64 (ln : Int), .int .i64 (co : Int)] 27) := ⟨_, rfl⟩
    have hbz : Below w4.heap.size w4 wz := by rw [hwz]; exact (Below.refl _ _).alloc (Nat.le_refl _) _
    have p0 : wz.cell? ⟨w4.heap.size, 0, none⟩ = some (.int .i64 ln) := by rw [hwz]; simp
    have p1 : wz.cell? ⟨w4.heap.size, 1, none⟩ = some (.int .i64 co) := by rw [hwz]; simp
    have x0 : wz.cell? ⟨b, o + (ln - 1), none⟩ = some (.string pb) := (hbz.cell (p := ⟨b, _, none⟩) hbl).trans (hca (ln - 1) _ (by rw [List.getElem?_map, hpb]; rfl))
    rw [← hwz]
    have HBZ := Lib.hid (HB4'.out.trans (hbz.mono HB4'.out.size))
    clear hwz hbz hca hpb
    obtain ⟨j, hj⟩ : ∃ j, j = ln - 1 := ⟨_, rfl⟩
    have hnm : n ≤ 3001 := by rw [← HN.out, hPl]; have := lin_count s.data.toList; rw [length_data] at this; omega
    have hw1 : IntKind.i64.wrap ((ln : Int) - 1) = (j : Int) := by rw [IntWalk.i64_in _ (by omega)]; omega
    have d1 : decide (1 ≤ (ln : Int)) = true := decide_eq_true (by omega)
    have d2 : decide ((ln : Int) ≤ (n : Int)) = true := decide_eq_true (by omega)
    have d3 : decide (1 ≤ (co : Int)) = true := decide_eq_true (by omega)
    have d4 : decide ((co : Int) ≤ (pb.size : Int)) = true := decide_eq_true (by omega)
    have n2 : decide (ln ≤ n) = true := decide_eq_true (by omega)
    have n4 : decide (co ≤ pb.size) = true := decide_eq_true (by omega)
    have j1 : 0 ≤ (j : Int) := by omega
    have j0 : j < n := by omega
    have j2 : (j : Int) < (n : Int) := by omega
    have j3 : (j : Int).toNat = j := by omega
    go_quiet (fail)
    go_wp2_with fail
    go_ret
    exact ⟨ret_bool (by simp), Lib.hid (below_drewN HBZ.out _)⟩
  case inl =>
    have HQ := Lib.hid hq
    have HOK := Lib.hid hok
    have HTL := Lib.hid (quad_len _ _ _ _ _ hq)
    clear hq hok
    go_enter Tryd.func3, Tryd.ntmps3
    go_wp2_with fail
    refine (lexAwake_any _).mono ?_
    rintro e w1 ⟨rfl, hb1⟩
    have HB1 := Lib.hid hb1
    have HX1 := Lib.hid (HX.out.belowW HB1.out)
    have sz1 := hb1.size
    clear hb1
    go_wp2_with fail
    refine (split_lin s _ HX1.out h3').mono ?_
    rintro e w2 ⟨A2, n, c2, P, rfl, HP, HN, HR, HB2⟩
    have HB2' := Lib.hid (HB1.out.trans (HB2.out.mono sz1))
    have sz2 := HB2'.out.size
    go_wp2_with fail
    refine (split_quad s _ hs _ _ _ _ HQ.out).mono ?_
    rintro e w4 ⟨A4, c4, rfl, _, HRD, HB4⟩
    have HR4 := Lib.hid (HR.out.below HB4.out)
    have HB4' := Lib.hid (HB2'.out.trans (HB4.out.mono sz2))
    have hPl : P.length = (lin s.data.toList).length := by rw [← HP.out, List.length_map]
    have hnm : n ≤ 3001 := by rw [← HN.out, hPl]; have := lin_count s.data.toList; rw [length_data] at this; omega
    have hNm : ts.length ≤ 3000 := by have := HTL.out; rw [length_data] at this; omega
    obtain ⟨N, hNN⟩ : ∃ N, N = ts.length := ⟨_, rfl⟩
    have HNN := Lib.hid hNN
    rw [← hNN] at HRD hNm ⊢
    clear hNN HTL hPl
    go_wp2_with fail
    go_loopg [60, 7] n (fun k iv kv wr => ∃ (i q : Nat), iv = .int .i64 i ∧ kv = .int .i64 q ∧ i ≤ n ∧ q ≤ N ∧ k = n - i ∧ Hid (toksL ((lin s.data.toList).drop i) (i + 1) = .ok (ts.drop q)) ∧ Hid (Below w.heap.size w wr) ∧ Hid (Below w4.heap.size w4 wr))
    case atStart =>
      refine ⟨0, 0, rfl, rfl, by omega, by omega, by omega, Lib.hid (by simpa using HOK.out), Lib.hid (HB4'.out.alloc HB4'.out.size _), Lib.hid ((Below.refl _ _).alloc (Nat.le_refl _) _)⟩
    case round =>
      obtain ⟨i, q, rfl, rfl, hi, hq, rfl, HT, HL0, HL⟩ := hrel
      have hls := HL.out.size
      by_cases hlt : i < n
      · obtain ⟨b, o, hA, hbl, hca⟩ := HR4.out.at_ (by omega)
        subst hA
        obtain ⟨pb, hpb⟩ : ∃ pb, P[i]? = some pb := ⟨_, List.getElem?_eq_getElem (by rw [HN.out]; exact hlt)⟩
        have hla : (lin s.data.toList)[i]? = some pb.data.toList := by rw [← HP.out, List.getElem?_map, hpb]; rfl
        have x0 : wr.cell? ⟨b, o + i, none⟩ = some (.string pb) := (HL.out.cell (p := ⟨b, _, none⟩) hbl).trans (hca i _ (by rw [List.getElem?_map, hpb]; rfl))
        have h10 := lin_no _ _ (List.mem_of_getElem? hla)
        have hll := lin_len _ _ (List.mem_of_getElem? hla)
        rw [length_data, length_data] at hll
        obtain ⟨us, vs, HU, HV, HTS⟩ : ∃ us vs, Hid (split pb.data.toList (i + 1, 1) = .ok us) ∧ Hid (toksL ((lin s.data.toList).drop (i + 1)) (i + 2) = .ok vs) ∧ Hid (ts.drop q = us ++ vs) := by
          have h := HT.out
          rw [List.drop_eq_getElem?_toList_append, hla] at h
          obtain ⟨us, vs, h1, h2, h3⟩ := andThen_ok h
          exact ⟨us, vs, h1, h2, h3⟩
        have HVL := Lib.hid (toksL_later _ _ _ (fun a ha => lin_no _ a (List.mem_of_mem_drop ha)) HV.out)
        have H10 := Lib.hid h10
        clear hca hpb hla h10 HT
        go_wp2_with fail
        go_loopg [10, 7] pb.size (fun k cv kv wr2 => ∃ (c q : Nat), cv = .int .i64 c ∧ kv = .int .i64 q ∧ c ≤ pb.size ∧ q ≤ N ∧ k = pb.size - c ∧ Hid (∃ us, split (pb.data.toList.drop c) (i + 1, c + 1) = .ok us ∧ ts.drop q = us ++ vs) ∧ Hid (Below wr.heap.size wr wr2))
        case atStart => exact ⟨0, q, rfl, rfl, by omega, hq, by omega, Lib.hid ⟨us, by simpa using HU.out, HTS.out⟩, Lib.hid (Below.refl _ _)⟩
        case round =>
          obtain ⟨c, q, rfl, rfl, hc, hq, rfl, ⟨us, hu, hts⟩, HL2⟩ := hrel
          obtain ⟨wi, hwi⟩ : ∃ z : World, z = wr := ⟨_, rfl⟩
          rw [← hwi] at HL2 ⊢
          clear hwi wr
          have hls2 := HL2.out.size
          have HW2 := Lib.hid (HL.out.trans (HL2.out.mono hls))
          have HW0 := Lib.hid (HL0.out.trans (HL2.out.mono HL0.out.size))
          by_cases hcl : c < pb.size
          · obtain ⟨x, r, hxr⟩ : ∃ x r, pb.data.toList.drop c = x :: r := by
              cases h : pb.data.toList.drop c with
              | nil =>
                have := congrArg List.length h
                rw [List.length_drop, length_data] at this
                simp at this
                omega
              | cons x r => exact ⟨x, r, rfl⟩
            have h10' : (10 : UInt8) ∉ x :: r := fun hm => H10.out (List.mem_of_mem_drop (by rw [hxr]; exact hm))
            rw [hxr] at hu
            rcases law_step x r (i + 1) (c + 1) us vs h10' hu HVL.out with ⟨t, us', rest, rfl, ht1, ht2, ht3, ht4, ht5⟩ | ⟨hno, hx, rfl⟩ | ⟨hno, hx, hs'⟩
            · have htq : ts[q]? = some t := by
                have h := congrArg List.head? hts
                rw [List.head?_drop] at h
                exact h
              have hqN : q < N := by
                have := (List.getElem?_eq_some_iff.1 htq).1
                rw [HNN.out]; exact this
              obtain ⟨b4, o4, hA4, hbl4, hca4⟩ := HRD.out.at_ (by omega)
              subst hA4
              obtain ⟨tb, htb⟩ : ∃ tb : ByteArray, tb = ⟨t.text.toArray⟩ := ⟨_, rfl⟩
              have htbd : tb.data.toList = t.text := by rw [htb]
              have y1 : wi.cell? ⟨b4, o4 + q * 4 + 1, none⟩ = some (.string tb) := by
                rw [htb]
                exact (HW2.out.cell (p := ⟨b4, _, none⟩) hbl4).trans (hca4 (q * 4 + 1) _ (toks_at _ q t htq 1 (by omega)))
              have y2 : wi.cell? ⟨b4, o4 + q * 4 + 2, none⟩ = some (.int .i64 ((i : Int) + 1)) := (HW2.out.cell (p := ⟨b4, _, none⟩) hbl4).trans (hca4 (q * 4 + 2) _ ((toks_at _ q t htq 2 (by omega)).trans (by simp [tokCells, ht1])))
              have y3 : wi.cell? ⟨b4, o4 + q * 4 + 3, none⟩ = some (.int .i64 ((c : Int) + 1)) := (HW2.out.cell (p := ⟨b4, _, none⟩) hbl4).trans (hca4 (q * 4 + 3) _ ((toks_at _ q t htq 3 (by omega)).trans (by simp [tokCells, ht2])))
              have htl : tb.size = t.text.length := by rw [← htbd, length_data]
              have hlen : c + tb.size ≤ pb.size := by
                have := congrArg List.length (hxr.trans ht4)
                rw [List.length_drop, length_data, List.length_append] at this
                omega
              have hple : (pb.data.toList.drop c).length ≤ pb.size - c := by rw [List.length_drop, length_data]; exact Nat.le_refl _
              have htp : 0 < tb.size := by rw [htl]; exact List.length_pos_iff.2 ht3
              have hemp : tb.toList.isEmpty = false := by
                rw [ByteArray.toList_eq, htbd, List.isEmpty_eq_false_iff]
                exact ht3
              have HPX : Lib.hasPrefix (pb.extract c pb.size).data.toList tb.data.toList = true := by
                rw [Lib.extract_data, List.take_of_length_le hple, hxr, ht4, htbd]
                simp [Lib.hasPrefix]
              have HRE := Lib.hid (show split (pb.data.toList.drop (c + tb.size)) (i + 1, (c + tb.size) + 1) = .ok us' ∧ ts.drop (q + 1) = us' ++ vs by
                refine ⟨?_, ?_⟩
                · rw [← List.drop_drop, hxr, ht4, htl, List.drop_left]
                  rw [show c + t.text.length + 1 = c + 1 + t.text.length by omega]
                  exact ht5
                · rw [← List.drop_drop, hts]
                  rfl)
              have n1 : decide (q < N) = true := decide_eq_true hqN
              have KHP : ∀ w : World, Calls Tryd.prog 8 #[.string (pb.extract c pb.size), .string tb] w fun e w' => e = .returned (.bool true) ∧ w' = w := fun w => (Tryd.strings_HasPrefix _ _ w).mono fun e w' h => by rw [HPX] at h; exact h
              have KHP' := Lib.hid KHP
              have heq := run_eq_pos
              have HTLEN := Lib.hid htl
              clear htl hca4 htb htbd htq ht1 ht2 ht3 ht4 ht5 hxr h10' hu hts KHP HPX hple
              go_wp2_with fail
              go_quiet ((go_at_call 8; exact Calls.quiet_of_same (KHP'.out _)))
              go_wp2_with fail
              go_roundg (pb.size - (c + tb.size))
              case measure => omega
              case rel => exact ⟨c + tb.size, q + 1, by go_num, by go_num, hlen, by omega, rfl, Lib.hid ⟨us', HRE.out⟩, Lib.hid (below_drewN HL2.out _)⟩
            · subst hx
              have hxg : pb.data.toList[c]? = some 35 := by
                have h := congrArg List.head? hxr
                rw [List.head?_drop] at h
                exact h
              have hb : ((pb[c].toNat : Int) == 35) = true := by
                have h : pb[c] = 35 := (List.getElem?_eq_some_iff.1 hxg).2
                rw [h]
                rfl
              have HTS' := Lib.hid (show ts.drop q = vs by rw [hts]; rfl)
              by_cases hqN : q < N
              · obtain ⟨t, htq⟩ : ∃ t, ts[q]? = some t := ⟨_, List.getElem?_eq_getElem (by rw [← HNN.out]; exact hqN)⟩
                have hno' : ¬ (t.line = i + 1 ∧ t.col = c + 1) := hno t (by rw [← hts, List.head?_drop]; exact htq)
                obtain ⟨b4, o4, hA4, hbl4, hca4⟩ := HRD.out.at_ (by omega)
                subst hA4
                have y2 : wi.cell? ⟨b4, o4 + q * 4 + 2, none⟩ = some (.int .i64 (t.line : Int)) := (HW2.out.cell (p := ⟨b4, _, none⟩) hbl4).trans (hca4 (q * 4 + 2) _ (toks_at _ q t htq 2 (by omega)))
                have y3 : wi.cell? ⟨b4, o4 + q * 4 + 3, none⟩ = some (.int .i64 (t.col : Int)) := (HW2.out.cell (p := ⟨b4, _, none⟩) hbl4).trans (hca4 (q * 4 + 3) _ (toks_at _ q t htq 3 (by omega)))
                have hne : (((t.line : Int) == (i : Int) + 1) && ((t.col : Int) == (c : Int) + 1)) = false := by
                  cases h : (((t.line : Int) == (i : Int) + 1) && ((t.col : Int) == (c : Int) + 1)) with
                  | false => rfl
                  | true =>
                    simp only [Bool.and_eq_true, beq_iff_eq] at h
                    exact absurd ⟨by omega, by omega⟩ hno'
                have heq := run_eq_pos
                have n1 : decide (q < N) = true := decide_eq_true hqN
                clear hca4 htq hno' hno hxr hu h10'
                go_wp2_with fail
                go_roundg (n - (i + 1))
                case measure => omega
                case rel => exact ⟨i + 1, q, by go_num, rfl, by omega, hq, rfl, Lib.hid (by rw [HTS'.out]; exact HV.out), HW0, HW2⟩
              · have n1 : decide (q < N) = false := decide_eq_false hqN
                clear hno hxr hu h10' hxg hts
                go_wp2_with fail
                go_roundg (n - (i + 1))
                case measure => omega
                case rel => exact ⟨i + 1, q, by go_num, rfl, by omega, hq, rfl, Lib.hid (by rw [HTS'.out]; exact HV.out), HW0, HW2⟩
            · have HRE := Lib.hid (show split (pb.data.toList.drop (c + 1)) (i + 1, c + 1 + 1) = .ok us by rw [← List.drop_drop, hxr]; exact hs')
              have hxg : pb.data.toList[c]? = some x := by
                have h := congrArg List.head? hxr
                rw [List.head?_drop] at h
                exact h
              have hx35 : x ≠ 35 := by rcases hx with rfl | rfl | rfl <;> decide
              have hb : ((pb[c].toNat : Int) == 35) = false := by
                have h : pb[c] = x := (List.getElem?_eq_some_iff.1 hxg).2
                rw [h, beq_eq_false_iff_ne]
                intro h2
                exact hx35 (by apply UInt8.toNat_inj.1; simp; omega)
              have hcont : decide (0 ≤ Lib.indexByte (⟨#[32, 9, 13]⟩ : ByteArray).data.toList x) = true := by rcases hx with rfl | rfl | rfl <;> decide
              have hext : pb.extract c (c + 1) = ⟨#[x]⟩ := by
                apply ba_ext7
                rw [Lib.extract_data, hxr, show c + 1 - c = 1 by omega]
                rfl
              have HTS' := Lib.hid hts
              by_cases hqN : q < N
              · obtain ⟨t, htq⟩ : ∃ t, ts[q]? = some t := ⟨_, List.getElem?_eq_getElem (by rw [← HNN.out]; exact hqN)⟩
                have hno' : ¬ (t.line = i + 1 ∧ t.col = c + 1) := hno t (by rw [← hts, List.head?_drop]; exact htq)
                obtain ⟨b4, o4, hA4, hbl4, hca4⟩ := HRD.out.at_ (by omega)
                subst hA4
                have y2 : wi.cell? ⟨b4, o4 + q * 4 + 2, none⟩ = some (.int .i64 (t.line : Int)) := (HW2.out.cell (p := ⟨b4, _, none⟩) hbl4).trans (hca4 (q * 4 + 2) _ (toks_at _ q t htq 2 (by omega)))
                have y3 : wi.cell? ⟨b4, o4 + q * 4 + 3, none⟩ = some (.int .i64 (t.col : Int)) := (HW2.out.cell (p := ⟨b4, _, none⟩) hbl4).trans (hca4 (q * 4 + 3) _ (toks_at _ q t htq 3 (by omega)))
                have hne : (((t.line : Int) == (i : Int) + 1) && ((t.col : Int) == (c : Int) + 1)) = false := by
                  cases h : (((t.line : Int) == (i : Int) + 1) && ((t.col : Int) == (c : Int) + 1)) with
                  | false => rfl
                  | true =>
                    simp only [Bool.and_eq_true, beq_iff_eq] at h
                    exact absurd ⟨by omega, by omega⟩ hno'
                have heq := run_eq_pos
                have n1 : decide (q < N) = true := decide_eq_true hqN
                clear hca4 htq hno' hno hxr hu h10' hs'
                go_wp2_with fail
                refine (Tryd.strings_Contains_one _ _ _).mono ?_
                rintro e w9 ⟨rfl, rfl⟩
                rw [hcont]
                go_wp2_with fail
                go_roundg (pb.size - (c + 1))
                case measure => omega
                case rel => exact ⟨c + 1, q, by go_num, rfl, by omega, hq, rfl, Lib.hid ⟨us, HRE.out, HTS'.out⟩, HL2⟩
              · have n1 : decide (q < N) = false := decide_eq_false hqN
                clear hno hxr hu h10' hs' hxg hts hx hx35
                go_wp2_with fail
                refine (Tryd.strings_Contains_one _ _ _).mono ?_
                rintro e w9 ⟨rfl, rfl⟩
                rw [hcont]
                go_wp2_with fail
                go_roundg (pb.size - (c + 1))
                case measure => omega
                case rel => exact ⟨c + 1, q, by go_num, rfl, by omega, hq, rfl, Lib.hid ⟨us, HRE.out, HTS'.out⟩, HL2⟩
          · have hc' : c = pb.size := by omega
            have husn : us = [] := by
              rw [hc', List.drop_eq_nil_of_le (by rw [length_data]; exact Nat.le_refl _), split_nil] at hu
              injection hu with hu
              exact hu.symm
            rw [husn, List.nil_append] at hts
            have HTS' := Lib.hid hts
            go_wp2_with fail
            go_roundg (n - (i + 1))
            case measure => omega
            case rel => exact ⟨i + 1, q, by go_num, rfl, by omega, hq, rfl, Lib.hid (by rw [HTS'.out]; exact HV.out), HW0, HW2⟩
      · have hin : i = n := by omega
        have hqn : q = N := by
          have h := HT.out
          rw [hin, List.drop_eq_nil_of_le (by rw [← HP.out, List.length_map, HN.out]; exact Nat.le_refl _)] at h
          have h2 : ([] : List Tok) = ts.drop q := by injection h
          have := congrArg List.length h2
          rw [List.length_drop] at this
          simp at this
          have := HNN.out
          omega
        subst hqn
        go_wp2_with fail
        go_ret
        exact ⟨ret_bool (by simp), HL0⟩
end Go.Proofs.YtlmflomonbcjiaaDoor
