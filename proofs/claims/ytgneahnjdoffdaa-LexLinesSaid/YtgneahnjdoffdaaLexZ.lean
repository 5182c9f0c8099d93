/-
  The walk of LexLines.
-/
import Derived.Test.YtgneahnjdoffdaaLexY
namespace Go.Proofs.Ytgneahnjdoffdaa
open Go.RowKit Go.Fl Go.Fl.Lx

set_option maxHeartbeats 1600000 in
set_option maxRecDepth 100000 in
theorem lexLines_any (s t : ByteArray) (w : World) (hs : s.size ≤ maxLen) (ht : t.size ≤ maxLen) :
    Calls Try.prog 6 #[.string s, .string t] w fun e w' => e = .returned (.bool true) ∧ Below w.heap.size w w' := by
  have hs' := hs
  have ht' := ht
  unfold maxLen at hs' ht'
  by_cases h1 : 1000 < s.size
  · go_enter Try.func6, Try.ntmps6
    go_wp2_with fail
    refine (awake_any _).mono ?_
    rintro e w1 ⟨rfl, hb1⟩
    go_wp2_with fail
    go_ret
    exact ⟨rfl, hb1⟩
  have h1d : decide ((1000 : Int) < s.size) = false := by simp; omega
  by_cases h2 : 1000 < t.size
  · go_enter Try.func6, Try.ntmps6
    go_wp2_with fail
    refine (awake_any _).mono ?_
    rintro e w1 ⟨rfl, hb1⟩
    go_wp2_with fail
    go_ret
    exact ⟨rfl, hb1⟩
  have h2d : decide ((1000 : Int) < t.size) = false := by simp; omega
  have hsum : (s ++ ⟨#[10]⟩ ++ t : ByteArray).data.toList = s.data.toList ++ [10] ++ t.data.toList := by simp [ByteArray.data_append]
  have hsz : (s ++ ⟨#[10]⟩ ++ t : ByteArray).size ≤ maxLen := by rw [← length_data, hsum]; unfold maxLen; simp; omega
  have HSZ := Lib.hid hsz
  obtain ⟨d, hd⟩ : ∃ d, d = s.data.toList.count 10 := ⟨_, rfl⟩
  have hdl : d ≤ 1000 := by
    have : s.data.toList.count 10 ≤ s.data.toList.length := List.count_le_length
    rw [length_data] at this
    omega
  have HD := Lib.hid hd
  have hends := lines_ends s.data.toList t.data.toList (by rw [length_data]; omega) (by rw [length_data]; omega)
  rw [← hsum, ← hd] at hends
  clear hsum hsz hd
  have hpos := run_eql_pos
  rcases hends with ⟨ln, co, er, hne, hq1, hq3⟩ | ⟨ts, ln, co, er, hne, hln, hq1, hq2, hq3⟩ | ⟨ts, us, hq1, hq2, hus, hq3⟩
  · have HQ1 := Lib.hid hq1
    have HQ3 := Lib.hid hq3
    obtain ⟨us, ln2, co2, er2, hq2⟩ : ∃ ts ln co er, quad (lexRes t.data.toList) = (ts, ln, co, er) := ⟨_, _, _, _, rfl⟩
    have HQ2 := Lib.hid hq2
    have hne' : ((er : Int) != 0) = true := by simpa using hne
    clear hq1 hq2 hq3 hne
    go_enter Try.func6, Try.ntmps6
    go_wp2_with fail
    refine (awake_any _).mono ?_
    rintro e w1 ⟨rfl, hb1⟩
    have HB1 := Lib.hid hb1
    have sz1 := hb1.size
    clear hb1
    go_wp2_with fail
    refine (split_quad _ _ hs _ _ _ _ HQ1.out).mono ?_
    rintro e w2 ⟨A2, c2, rfl, _, _, HB2⟩
    have sz2 := HB2.out.size
    have HB2' := Lib.hid ((HB1.out.trans (HB2.out.mono sz1)).alloc (by omega) (.cells #[.int .i64 ln, .int .i64 co] 25))
    go_wp2_with fail
    refine (split_quad _ _ ht _ _ _ _ HQ2.out).mono ?_
    rintro e w3 ⟨A3, c3, rfl, _, _, HB3⟩
    have sz3 := HB3.out.size
    simp at sz3
    have HP2 := Lib.hid (show Blk w3 w2.heap.size 25 #[.int .i64 ln, .int .i64 co] from (Blk.new w2 _ _).below HB3.out (by simp))
    have HB3' := Lib.hid ((HB2'.out.trans (HB3.out.mono (by simp; omega))).alloc (by omega) (.cells #[.int .i64 ln2, .int .i64 co2] 25))
    go_wp2_with fail
    refine (split_quad _ _ HSZ.out _ _ _ _ HQ3.out).mono ?_
    rintro e w4 ⟨A4, c4, rfl, _, _, HB4⟩
    have sz4 := HB4.out.size
    simp at sz4
    have HP2' := Lib.hid (show Blk w4 w2.heap.size 25 #[.int .i64 ln, .int .i64 co] from (HP2.out.alloc _).below HB4.out (by simp; omega))
    have HB4' := Lib.hid ((HB3'.out.trans (HB4.out.mono (by simp; omega))).alloc (by omega) (.cells #[.int .i64 ln, .int .i64 co] 25))
    go_wp2_with fail
    refine (sCount_nl _ _).mono ?_
    rintro e w5 ⟨rfl, rfl⟩
    rw [← HD.out]
    have c20 : ∀ o, (w4.alloc o).cell? ⟨w2.heap.size, 0, none⟩ = some (.int .i64 ln) := fun o => (HP2'.out.alloc o).cell 0
    have c21 : ∀ o, (w4.alloc o).cell? ⟨w2.heap.size, 1, none⟩ = some (.int .i64 co) := fun o => (HP2'.out.alloc o).cell 1
    go_wp2_with fail
    go_ret
    exact ⟨ret_bool (by simp), HB4'.out⟩
  · -- DEV2
    have HQ1 := Lib.hid hq1
    have HQ2 := Lib.hid hq2
    have HQ3 := Lib.hid hq3
    have hne' : ((er : Int) != 0) = true := by simpa using hne
    clear hq1 hq2 hq3 hne
    go_enter Try.func6, Try.ntmps6
    go_wp2_with fail
    refine (awake_any _).mono ?_
    rintro e w1 ⟨rfl, hb1⟩
    have HB1 := Lib.hid hb1
    have sz1 := hb1.size
    clear hb1
    go_wp2_with fail
    refine (split_quad _ _ hs _ _ _ _ HQ1.out).mono ?_
    rintro e w2 ⟨A2, c2, rfl, _, _, HB2⟩
    have sz2 := HB2.out.size
    have HB2' := Lib.hid ((HB1.out.trans (HB2.out.mono sz1)).alloc (by omega) (.cells #[.int .i64 0, .int .i64 0] 25))
    go_wp2_with fail
    refine (split_quad _ _ ht _ _ _ _ HQ2.out).mono ?_
    rintro e w3 ⟨A3, c3, rfl, _, _, HB3⟩
    have sz3 := HB3.out.size
    simp at sz3
    have HB3' := Lib.hid ((HB2'.out.trans (HB3.out.mono (by simp; omega))).alloc (by omega) (.cells #[.int .i64 ln, .int .i64 co] 25))
    go_wp2_with fail
    refine (split_quad _ _ HSZ.out _ _ _ _ HQ3.out).mono ?_
    rintro e w4 ⟨A4, c4, rfl, _, _, HB4⟩
    have sz4 := HB4.out.size
    simp at sz4
    have HP3 := Lib.hid (show Blk w4 w3.heap.size 25 #[.int .i64 ln, .int .i64 co] from (Blk.new w3 _ _).below HB4.out (by simp))
    have HB4' := Lib.hid ((HB3'.out.trans (HB4.out.mono (by simp; omega))).alloc (by omega) (.cells #[.int .i64 ((ln : Int) + (1 + (d : Int))), .int .i64 co] 25))
    have HP3' := Lib.hid (HP3.out.alloc (.cells #[.int .i64 ((ln : Int) + (1 + (d : Int))), .int .i64 co] 25))
    have HP4 := Lib.hid (Blk.new w4 25 #[.int .i64 ((ln : Int) + (1 + (d : Int))), .int .i64 co])
    go_wp2_with fail
    refine (sCount_nl _ _).mono ?_
    rintro e w5 ⟨rfl, rfl⟩
    rw [← HD.out]
    have hne3 : w4.heap.size ≠ w3.heap.size := by omega
    generalize hg3 : w3.heap.size = g3 at *
    generalize hg4 : w4.heap.size = g4 at *
    generalize hw5 : w4.alloc (.cells #[.int .i64 ((ln : Int) + (1 + (d : Int))), .int .i64 co] 25) = w5 at *
    have c30 : w5.cell? ⟨g3, 0, none⟩ = some (.int .i64 ln) := HP3'.out.cell 0
    have c31 : w5.cell? ⟨g3, 1, none⟩ = some (.int .i64 co) := HP3'.out.cell 1
    have f30 : w5.frozen? ⟨g3, 0, none⟩ = false := HP3'.out.frozen 0
    have st := fun v => HP3'.out.setCell_eq 0 v
    have d0 : ∀ v, (putB w5 g3 25 #[v, .int .i64 co]).cell? ⟨g3, 0, none⟩ = some v := fun v => (HP3'.out.put _).cell 0
    have d1 : ∀ v, (putB w5 g3 25 #[v, .int .i64 co]).cell? ⟨g3, 1, none⟩ = some (.int .i64 co) := fun v => (HP3'.out.put _).cell 1
    have e0 : ∀ v, (putB w5 g3 25 #[v, .int .i64 co]).cell? ⟨g4, 0, none⟩ = some (.int .i64 ((ln : Int) + (1 + (d : Int)))) := fun v => (HP4.out.far hne3 _).cell 0
    have e1 : ∀ v, (putB w5 g3 25 #[v, .int .i64 co]).cell? ⟨g4, 1, none⟩ = some (.int .i64 co) := fun v => (HP4.out.far hne3 _).cell 1
    go_wp2_with fail
    go_ret
    exact ⟨ret_bool (by simp), HB4'.out.trans (putB_below _ _ _ _ (by omega))⟩
  · have HQ1 := Lib.hid hq1
    have HQ2 := Lib.hid hq2
    have HQ3 := Lib.hid hq3
    have HUS := Lib.hid hus
    have l1 := quad_len _ _ _ _ _ hq1
    have l2 := quad_len _ _ _ _ _ hq2
    rw [length_data] at l1 l2
    obtain ⟨zs, hzs⟩ : ∃ zs, zs = ts ++ us.map (shiftTok (1 + d)) := ⟨_, rfl⟩
    have hzl : zs.length = ts.length + us.length := by rw [hzs]; simp
    have HZ := Lib.hid hzs
    rw [← hzs] at HQ3
    clear hq1 hq2 hq3 hus hzs
    go_enter Try.func6, Try.ntmps6
    go_wp2_with fail
    refine (awake_any _).mono ?_
    rintro e w1 ⟨rfl, hb1⟩
    have HB1 := Lib.hid hb1
    have sz1 := hb1.size
    clear hb1
    go_wp2_with fail
    refine (split_quad _ _ hs _ _ _ _ HQ1.out).mono ?_
    rintro e w2 ⟨A2, c2, rfl, HO2, _, HB2⟩
    have sz2 := HB2.out.size
    have HB2' := Lib.hid ((HB1.out.trans (HB2.out.mono sz1)).alloc (by omega) (.cells #[.int .i64 0, .int .i64 0] 25))
    go_wp2_with fail
    refine (split_quad _ _ ht _ _ _ _ HQ2.out).mono ?_
    rintro e w3 ⟨A3, c3, rfl, HO3, _, HB3⟩
    have sz3 := HB3.out.size
    have HO2' := Lib.hid (own_below (HO2.out.alloc _) HB3.out)
    simp at sz3
    have HB3' := Lib.hid ((HB2'.out.trans (HB3.out.mono (by simp; omega))).alloc (by omega) (.cells #[.int .i64 0, .int .i64 0] 25))
    go_wp2_with fail
    refine (split_quad _ _ HSZ.out _ _ _ _ HQ3.out).mono ?_
    rintro e w4 ⟨A4, c4, rfl, HO4, _, HB4⟩
    have sz4 := HB4.out.size
    have HO2'' := Lib.hid ((own_below (HO2'.out.alloc _) HB4.out).alloc (.cells #[.int .i64 0, .int .i64 0] 25))
    have HO3' := Lib.hid ((own_below (HO3.out.alloc _) HB4.out).alloc (.cells #[.int .i64 0, .int .i64 0] 25))
    have HO4' := Lib.hid (HO4.out.alloc (.cells #[.int .i64 0, .int .i64 0] 25))
    have HL2 := Lib.hid HO2.out.lt
    have HL3 := Lib.hid HO3.out.lt
    simp at sz4
    have HB4' := Lib.hid ((HB3'.out.trans (HB4.out.mono (by simp; omega))).alloc (by omega) (.cells #[.int .i64 0, .int .i64 0] 25))
    go_wp2_with fail
    refine (sCount_nl _ _).mono ?_
    rintro e w5 ⟨rfl, rfl⟩
    rw [← HD.out]
    go_wp2_with fail
    go_loopg [89] us.length (LineRel w ts us zs (1 + d) w1.heap.size (w2.alloc (.cells #[.int .i64 0, .int .i64 0] 25)).heap.size (w3.alloc (.cells #[.int .i64 0, .int .i64 0] 25)).heap.size A2 A3 A4 c2 c3 c4)
    case atStart =>
      refine ⟨0, rfl, by omega, rfl, HO2''.out, ?_, HO4'.out, HB4'.out, by simp; omega⟩
      rw [down_zero]; exact HO3'.out
    case round =>
      obtain ⟨j, rfl, hj, rfl, HR2, HR3, HR4, HBr, hbr⟩ := hrel
      by_cases hlt : j < us.length
      · obtain ⟨g, hA⟩ : ∃ g, A3 = some ⟨g, 0, none⟩ := by
          rcases HR3.out.2 with ⟨h, _⟩ | ⟨g, cap, cur, h, _⟩
          · injection h with h1 h2; omega
          · injection h with h1; exact ⟨g, h1⟩
        subst hA
        obtain ⟨u, hu⟩ : ∃ u, us[j]? = some u := ⟨_, List.getElem?_eq_getElem hlt⟩
        have hul := HUS.out u (List.mem_of_getElem? hu)
        have x2 : wr.cell? ⟨g, j * 4 + 2, none⟩ = some (.int .i64 u.line) := (HR3.out.cellAt (j * 4 + 2) (by omega)).trans (toks_at _ j u (down_at _ _ _ _ hu) 2 (by omega))
        have f2 : wr.frozen? ⟨g, j * 4 + 2, none⟩ = false := HR3.out.frozenAt _
        have HST := Lib.hid (HR3.out.stored (j * 4 + 2) (.int .i64 ((u.line : Int) + (1 + d : Nat))))
        rw [down_step _ _ _ _ hu, show ((1 + d : Nat) : Int) = 1 + (d : Int) by omega] at HST
        have hg := HL3.out g rfl
        have b0 : (0 : Int) ≤ j := by omega
        have b1 : (j : Int) < us.length := by omega
        clear hu
        go_wp2_with fail
        go_roundg (us.length - (j + 1))
        case measure => omega
        case rel =>
          refine ⟨j + 1, by go_num, by omega, rfl, ?_, HST.out.1, ?_, ?_, ?_⟩
          · refine own_apart HR2.out HST.out.2 fun k hk h => ?_
            have h4 := HL2.out k hk
            injection h with h
            simp at hg
            omega
          · refine own_apart HR4.out HST.out.2 fun k hk h => ?_
            have h4 := HR4.out.lt k hk
            injection h with h
            simp at hg h4
            omega
          · refine HBr.out.setCell ?_ _
            simp at hg
            show w.heap.size ≤ g
            omega
          · exact Nat.le_trans hbr HST.out.2.size
      · have hjn : j = us.length := by omega
        subst hjn
        have HR3' : Hid (wr.ownsRow (w2.alloc (.cells #[.int .i64 0, .int .i64 0] 25)).heap.size 38 4 (.slice A3 us.length c3) us.length (toksCells (us.map (shiftTok (1 + d))))) := by
          have h := HR3
          rw [down_all] at h
          exact h
        obtain ⟨A3', c3', h3, hrd3, _⟩ := Rd.of_own HR3'.out
        injection h3 with h3 _ h3c
        subst h3 h3c
        have hc3 : A3 = none → c3 = 0 := by
          intro hA
          rcases HR3.out.2 with ⟨h, _⟩ | ⟨g, cap, cur, h, _⟩
          · injection h
          · injection h with h1; rw [hA] at h1; cases h1
        obtain ⟨i0, ti, tz0, tz1, tz2⟩ := info_parts Try.infoTok
        have hone : ∀ u ∈ toksCells (us.map (shiftTok (1 + d))), u.oneCell' = true := by
          intro u hu
          simp only [toksCells, List.mem_flatMap] at hu
          obtain ⟨t, _, hu⟩ := hu
          simp [tokCells] at hu
          rcases hu with rfl | rfl | rfl | rfl <;> rfl
        go_wp2_with (at_builtin; refine wpList_append_rd _ rfl _ _ _ rfl w1.heap.size 38 i0 _ 4 40 Try.underlying23 ti tz0 tz1 tz2 rfl (by omega) (.slice A2 ts.length c2) ts.length (toksCells ts) rfl HR2.out A3 us.length c3 hc3 _ rfl hrd3 hone (by unfold maxLen; omega) (by omega) (by simp at hbr; omega) ?_)
        intro v' w6 hown6 hgrow6
        obtain ⟨A6, c6, rfl, hrd6, _⟩ := Rd.of_own hown6
        have hz6 : toksCells ts ++ toksCells (us.map (shiftTok (1 + d))) = toksCells zs := by rw [HZ.out, toks_app]
        rw [hz6] at hrd6
        have HRD6 := Lib.hid hrd6
        have hown4 : w6.ownsRow (w3.alloc (.cells #[.int .i64 0, .int .i64 0] 25)).heap.size 38 4 (.slice A4 zs.length c4) zs.length (toksCells zs) := by
          refine own_apart HR4.out hgrow6 fun k hk h => ?_
          have h4 := HR4.out.lt k hk
          have h5 := HL2.out k h.symm
          simp at h4
          omega
        obtain ⟨A7, c7, h7, hrd7, _⟩ := Rd.of_own hown4
        injection h7 with h7 _ h7c
        subst h7 h7c
        rw [hzl] at hrd7
        have HRD7 := Lib.hid hrd7
        have HBE := Lib.hid (HBr.out.grown hgrow6 (by simp at hbr; omega) (fun k hk => Nat.le_trans sz1 (HL2.out k hk).1))
        clear hown6 hgrow6 hrd6 hrd7 hown4 hz6 hrd3 hone ti tz0 tz1 tz2 hc3
        go_wp2_with fail
        refine (lequal_same A4 A6 (ts.length + us.length) c4 c6 zs _ hzl HRD7.out HRD6.out (by omega)).mono ?_
        rintro e w7 ⟨rfl, n, rfl⟩
        go_wp2_with fail
        go_ret
        exact ⟨ret_bool (by simp), below_drewN HBE.out n⟩
end Go.Proofs.Ytgneahnjdoffdaa
