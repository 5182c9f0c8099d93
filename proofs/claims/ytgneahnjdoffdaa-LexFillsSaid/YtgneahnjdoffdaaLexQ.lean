/-
  The walk of LexFills (written by genfills.py).
-/
import Derived.Test.YtgneahnjdoffdaaLexP
namespace Go.Proofs.Ytgneahnjdoffdaa
open Go.RowKit Go.Fl Go.Fl.Lx

theorem cells_app (c : List UInt8) (s : ByteArray) : Lib.byteCells c ++ Lib.strCells s = Lib.byteCells (c ++ s.data.toList) := by
  simp [Lib.byteCells, Lib.strCells]
theorem cells_len (c : List UInt8) : (Lib.byteCells c).length = c.length := by simp [Lib.byteCells]

theorem isb_drew {T e : TypeId} {B b : Nat} {bs : List Value} {w : World} (h : Lib.IsBuilder T e B b bs w) : Lib.IsBuilder T e B b bs w.drew := h

def FillRel (w0 : World) (g n : Nat) (ts : List TI) (k : Nat) (iv : Value) (wr : World) : Prop :=
  ∃ (j : Nat) (c : List UInt8), iv = .int .i64 j ∧ j ≤ n ∧ k = n - j ∧ Hid (Filled (ts.take j) c) ∧ c.length ≤ 102 * j ∧ Hid (Lib.IsBuilder 49 5 g g (Lib.byteCells c) wr) ∧ Hid (Below g w0 wr) ∧ g < wr.heap.size

set_option maxHeartbeats 1600000 in
set_option maxRecDepth 100000 in
theorem lexFills_any (A : Option Addr) (n ca : Nat) (ts : List TI) (B : Option Addr) (m cb : Nat) (zs : List Int) (cm : ByteArray) (w : World) (hn : ts.length = n) (hm : n ≤ maxLen) (hl : ∀ t ∈ ts, t.text.length ≤ maxLen) (ha : Rd w 4 A n (tiCells ts))
    (hzn : zs.length = m) (hzm : m ≤ maxLen) (_ : m ≤ cb) (_ : cb ≤ maxLen) (_ : B = none → cb = 0) (hz0 : ∀ z ∈ zs, (Lit.int .u8 z).wf = true) (hzb : Rd w 1 B m (zs.map (Value.int .u8))) (hcs : cm.size ≤ maxLen) :
    Calls Try.prog 7 #[.slice A n ca, .slice B m cb, .string cm] w fun e w' => e = .returned (.bool true) ∧ Below w.heap.size w w' := by
  have hz : ∀ z ∈ zs, 0 ≤ z ∧ z ≤ 255 := fun z h => by have := hz0 z h; simp [Lit.wf, IntKind.min, IntKind.max, IntKind.signed, IntKind.bits] at this; omega
  clear hz0
  have HA := Lib.hid ha
  have HT := Lib.hid hl
  have HN := Lib.hid hn
  have HZ := Lib.hid hzb
  have HZ2 := Lib.hid hz
  have HZN := Lib.hid hzn
  clear ha hl hn hzb hz hzn
  have hcs' := hcs
  have hzm' := hzm
  unfold maxLen at hcs' hzm'
  by_cases hsh : shortB ts = false
  · go_enter Try.func7, Try.ntmps7
    go_wp2_with fail
    refine (awake_any _).mono ?_
    rintro e w1 ⟨rfl, hb1⟩
    have HB1 := Lib.hid hb1
    have sz1 := hb1.size
    clear hb1
    go_wp2_with fail
    refine (short_any A n ca ts _ HN.out hm HT.out (HA.out.below HB1.out)).mono ?_
    rw [hsh]
    rintro e w2 ⟨rfl, hb2⟩
    have HB2 := Lib.hid (HB1.out.trans (hb2.mono sz1))
    have sz2 := HB2.out.size
    clear hb2
    go_wp2_with fail
    go_ret
    exact ⟨rfl, HB2.out⟩
  have hsh' : shortB ts = true := by simpa using hsh
  obtain ⟨h80, h60⟩ := short_len ts hsh'
  have H60 := Lib.hid h60
  have hn80 : n ≤ 80 := by rw [← HN.out]; exact h80
  clear h60 h80 hsh
  by_cases h40 : 40 < cm.size
  · go_enter Try.func7, Try.ntmps7
    go_wp2_with fail
    refine (awake_any _).mono ?_
    rintro e w1 ⟨rfl, hb1⟩
    have HB1 := Lib.hid hb1
    have sz1 := hb1.size
    clear hb1
    go_wp2_with fail
    refine (short_any A n ca ts _ HN.out hm HT.out (HA.out.below HB1.out)).mono ?_
    rw [hsh']
    rintro e w2 ⟨rfl, hb2⟩
    have HB2 := Lib.hid (HB1.out.trans (hb2.mono sz1))
    have sz2 := HB2.out.size
    clear hb2
    go_wp2_with fail
    go_ret
    exact ⟨rfl, HB2.out⟩
  have h40d : decide ((40 : Int) < cm.size) = false := by simp; omega
  by_cases hnl : cm.data.toList.contains 10 = true
  · go_enter Try.func7, Try.ntmps7
    go_wp2_with fail
    refine (awake_any _).mono ?_
    rintro e w1 ⟨rfl, hb1⟩
    have HB1 := Lib.hid hb1
    have sz1 := hb1.size
    clear hb1
    go_wp2_with fail
    refine (short_any A n ca ts _ HN.out hm HT.out (HA.out.below HB1.out)).mono ?_
    rw [hsh']
    rintro e w2 ⟨rfl, hb2⟩
    have HB2 := Lib.hid (HB1.out.trans (hb2.mono sz1))
    have sz2 := HB2.out.size
    clear hb2
    go_wp2_with fail
    refine (Try.strings_Contains_one _ _ _).mono ?_
    rintro e w3 ⟨rfl, rfl⟩
    rw [has_nl, hnl]
    go_wp2_with fail
    go_ret
    exact ⟨rfl, HB2.out⟩
  have hnl' : cm.data.toList.contains 10 = false := by simpa using hnl
  clear hnl
  by_cases hbad : ts.any badP = true
  · go_enter Try.func7, Try.ntmps7
    go_wp2_with fail
    refine (awake_any _).mono ?_
    rintro e w1 ⟨rfl, hb1⟩
    have HB1 := Lib.hid hb1
    have sz1 := hb1.size
    clear hb1
    go_wp2_with fail
    refine (short_any A n ca ts _ HN.out hm HT.out (HA.out.below HB1.out)).mono ?_
    rw [hsh']
    rintro e w2 ⟨rfl, hb2⟩
    have HB2 := Lib.hid (HB1.out.trans (hb2.mono sz1))
    have sz2 := HB2.out.size
    clear hb2
    go_wp2_with fail
    refine (Try.strings_Contains_one _ _ _).mono ?_
    rintro e w3 ⟨rfl, rfl⟩
    rw [has_nl, hnl']
    go_wp2_with fail
    refine (given_ti A n ca ts _ HN.out.symm (HA.out.below HB2.out) (by omega)).mono ?_
    rintro e w4 ⟨v, rfl, hown, hb4⟩
    obtain ⟨A4, c4, rfl, hrd4, _⟩ := Rd.of_own hown
    have HRD := Lib.hid hrd4
    have HB4 := Lib.hid (HB2.out.trans (hb4.mono sz2))
    have sz4 := HB4.out.size
    clear hown hrd4 hb4
    go_wp2_with fail
    refine (has_fills A4 ts.length c4 ts _ rfl HT.out HRD.out (by rw [HN.out]; omega)).mono ?_
    rw [hbad]
    rintro e w5 ⟨rfl, hb5⟩
    have HB5 := Lib.hid (HB4.out.trans (hb5.mono sz4))
    have sz5 := HB5.out.size
    clear hb5
    go_wp2_with fail
    go_ret
    exact ⟨rfl, HB5.out⟩
  have hbad' : ts.any badP = false := by simpa using hbad
  have HBD := Lib.hid hbad'
  clear hbad
  go_enter Try.func7, Try.ntmps7
  go_wp2_with fail
  refine (awake_any _).mono ?_
  rintro e w1 ⟨rfl, hb1⟩
  have HB1 := Lib.hid hb1
  have sz1 := hb1.size
  clear hb1
  go_wp2_with fail
  refine (short_any A n ca ts _ HN.out hm HT.out (HA.out.below HB1.out)).mono ?_
  rw [hsh']
  rintro e w2 ⟨rfl, hb2⟩
  have HB2 := Lib.hid (HB1.out.trans (hb2.mono sz1))
  have sz2 := HB2.out.size
  clear hb2
  go_wp2_with fail
  refine (Try.strings_Contains_one _ _ _).mono ?_
  rintro e w3 ⟨rfl, rfl⟩
  rw [has_nl, hnl']
  go_wp2_with fail
  refine (given_ti A n ca ts _ HN.out.symm (HA.out.below HB2.out) (by omega)).mono ?_
  rintro e w4 ⟨v, rfl, hown, hb4⟩
  obtain ⟨A4, c4, rfl, hrd4, _⟩ := Rd.of_own hown
  have HRD := Lib.hid hrd4
  have HB4 := Lib.hid (HB2.out.trans (hb4.mono sz2))
  have sz4 := HB4.out.size
  clear hown hrd4 hb4
  go_wp2_with fail
  refine (has_fills A4 ts.length c4 ts _ rfl HT.out HRD.out (by rw [HN.out]; omega)).mono ?_
  rw [hbad']
  rintro e w5 ⟨rfl, hb5⟩
  have HB5 := Lib.hid (HB4.out.trans (hb5.mono sz4))
  have sz5 := HB5.out.size
  clear hb5
  go_wp2_with fail
  have hsz0 : (w5.alloc (.cells (fillCells cm) 9)).heap.size = w5.heap.size + 1 := by simp
  have HFB := Lib.hid (Blk.new w5 9 (fillCells cm))
  have HB6 := Lib.hid (HB5.out.alloc sz5 (.cells (fillCells cm) 9))
  have HFR := Lib.hid (Lib.fresh_isBuilder 49 5 (w5.alloc (.cells (fillCells cm) 9)))
  rw [hsz0] at HFR
  have HA6 := Lib.hid (HA.out.below HB6.out)
  have HZ6 := Lib.hid (HZ.out.below HB6.out)
  obtain ⟨w0, hw0⟩ : ∃ w0, w0 = w5.alloc (.cells (fillCells cm) 9) := ⟨_, rfl⟩
  rw [← hw0] at hsz0 HFB HB6 HFR HA6 HZ6
  unfold fillCells at hw0
  rw [← hw0]
  clear hw0
  go_loopg [40] n (FillRel w0 (w5.heap.size + 1) n ts)
  case atStart => exact ⟨0, [], rfl, by omega, rfl, Filled.nil, by simp, HFR.out, (Below.refl _ _).alloc (by omega) _, by simp [hsz0]⟩
  case round =>
    obtain ⟨j, c, rfl, hj, rfl, HFL, hcl, HIB, HBL, hwl⟩ := hrel
    by_cases hlt : j < n
    · obtain ⟨b, o, hA, hbl, hca⟩ := HA6.out.at_ (by omega)
      subst hA
      obtain ⟨t, ht⟩ : ∃ t, ts[j]? = some t := ⟨_, List.getElem?_eq_getElem (by rw [HN.out]; exact hlt)⟩
      have hbl' : b < w5.heap.size + 1 := by omega
      have x0 : wr.cell? ⟨b, o + j * 4, none⟩ = some (.int .i64 t.kind) := (HBL.out.cell (p := ⟨b, _, none⟩) hbl').trans (hca (j * 4 + 0) _ (ti_at ts j t ht 0 (by omega)))
      have x1 : wr.cell? ⟨b, o + j * 4 + 1, none⟩ = some (.string ⟨t.text.toArray⟩) := (HBL.out.cell (p := ⟨b, _, none⟩) hbl').trans (hca (j * 4 + 1) _ (ti_at ts j t ht 1 (by omega)))
      have x2 : wr.cell? ⟨b, o + j * 4 + 2, none⟩ = some (.int .i64 t.line) := (HBL.out.cell (p := ⟨b, _, none⟩) hbl').trans (hca (j * 4 + 2) _ (ti_at ts j t ht 2 (by omega)))
      have x3 : wr.cell? ⟨b, o + j * 4 + 3, none⟩ = some (.int .i64 t.col) := (HBL.out.cell (p := ⟨b, _, none⟩) hbl').trans (hca (j * 4 + 3) _ (ti_at ts j t ht 3 (by omega)))
      have HTK := Lib.hid (ti_take ts j t ht)
      have HTL := Lib.hid (H60.out t (List.mem_of_getElem? ht))
      clear hca ht
      by_cases hjm : j < m
      · obtain ⟨b2, o2, hB, hbl2, hcb⟩ := HZ6.out.at_ (by omega)
        subst hB
        obtain ⟨z, hz⟩ : ∃ z, zs[j]? = some z := ⟨_, List.getElem?_eq_getElem (by rw [HZN.out]; exact hjm)⟩
        obtain ⟨z0, z1⟩ := HZ2.out z (List.mem_of_getElem? hz)
        have q0 : (wr.alloc (.cells #[.int .i64 t.kind, .string ⟨t.text.toArray⟩, .int .i64 t.line, .int .i64 t.col] 38)).cell? ⟨b2, o2 + j, none⟩ = some (.int .u8 z) := (World.cell?_alloc_lt wr _ ⟨b2, _, none⟩ (by show b2 < wr.heap.size; omega)).trans ((HBL.out.cell (p := ⟨b2, _, none⟩) (by show b2 < _; omega)).trans (hcb j _ (by rw [List.getElem?_map, hz]; rfl)))
        clear hcb hz
        obtain ⟨kk, hkz⟩ : ∃ kk : Nat, z % 6 = (kk : Int) := ⟨(z % 6).toNat, by omega⟩
        have hkk : kk < 6 := by omega
        have b0 : (0 : Int) ≤ j := by omega
        have b1 : (j : Int) < m := by omega
        obtain ⟨fb, hfb, hfill⟩ := fillCells_at cm (by omega) hnl' kk hkk
        have HFILL := Lib.hid hfill
        have y0 : (wr.alloc (.cells #[.int .i64 t.kind, .string ⟨t.text.toArray⟩, .int .i64 t.line, .int .i64 t.col] 38)).cell? ⟨w5.heap.size, kk, none⟩ = some (.string fb) := ((HFB.out.below HBL.out (by omega)).alloc _ |>.cell kk).trans hfb
        have k0 : (0 : Int) ≤ kk := by omega
        have k1 : (kk : Int) < 6 := by omega
        have IBR := Lib.hid (isb_alloc HIB.out (.cells #[.int .i64 t.kind, .string ⟨t.text.toArray⟩, .int .i64 t.line, .int .i64 t.col] 38))
        have BKT := Lib.hid (Blk.new wr 38 #[.int .i64 t.kind, .string ⟨t.text.toArray⟩, .int .i64 t.line, .int .i64 t.col])
        have y1 : (wr.alloc (.cells #[.int .i64 t.kind, .string ⟨t.text.toArray⟩, .int .i64 t.line, .int .i64 t.col] 38)).cell? ⟨wr.heap.size, 1, none⟩ = some (.string ⟨t.text.toArray⟩) := BKT.out.cell 1
        have HBW := Lib.hid (HBL.out.alloc (by omega) (.cells #[.int .i64 t.kind, .string ⟨t.text.toArray⟩, .int .i64 t.line, .int .i64 t.col] 38))
        have hWs : w5.heap.size + 1 < (wr.alloc (.cells #[.int .i64 t.kind, .string ⟨t.text.toArray⟩, .int .i64 t.line, .int .i64 t.col] 38)).heap.size := by simp; omega
        have hcat : ¬ 9223372036854775807 < fb.size + t.text.length := by
          have := hfill.2.1
          rw [length_data] at this
          have := HTL.out
          omega
        have HCL := Lib.hid (show (c ++ (fb.data.toList ++ t.text)).length ≤ 102 * (j + 1) by
          have := hfill.2.1
          have := HTL.out
          simp only [List.length_append]; omega)
        have HCS := Lib.hid (show (Lib.byteCells c).length + (fb ++ ⟨t.text.toArray⟩).size ≤ 140737488355328 by
          have := hfill.2.1
          rw [length_data] at this
          have := HTL.out
          rw [cells_len, ByteArray.size_append]
          show c.length + (fb.size + t.text.toArray.size) ≤ _
          simp only [List.size_toArray]; omega)
        have HFN := Lib.hid (show Filled (ts.take (j + 1)) (c ++ (fb.data.toList ++ t.text)) by rw [HTK.out]; exact Filled.snoc _ _ _ _ HFL.out hfill)
        clear hfb hfill
        go_wp2_with fail
        generalize wr.alloc (.cells #[.int .i64 t.kind, .string ⟨t.text.toArray⟩, .int .i64 t.line, .int .i64 t.col] 38) = W at *
        have HWS := Lib.hid (show w5.heap.size + 1 ≤ W.drew.heap.size from Nat.le_of_lt hWs)
        go_still_tail 7, (by kernel_rfl)
        clear hcat
        go_wp2_with fail
        have KK := Try.bWriteString (w5.heap.size + 1) (w5.heap.size + 1) (Lib.byteCells c) (fb ++ ⟨t.text.toArray⟩) W.drew (isb_drew IBR.out) HCS.out HWS.out
        refine KK.mono ?_
        clear KK
        rintro e w7 ⟨rfl, hbu, hbb⟩
        have HBU := Lib.hid (show Lib.IsBuilder 49 5 (w5.heap.size + 1) (w5.heap.size + 1) (Lib.byteCells (c ++ (fb.data.toList ++ t.text))) w7 from .inr (by rw [cells_app] at hbu; simpa [ByteArray.data_append] using hbu))
        have HBB := Lib.hid (HBW.out.trans (show Below (w5.heap.size + 1) W w7 from ⟨hbb.os, hbb.tape, hbb.output, hbb.size, hbb.block⟩))
        have hs7 : w5.heap.size + 1 < w7.heap.size := by have := hbb.size; have : W.heap.size ≤ w7.heap.size := this; omega
        clear hbu hbb
        go_wp2_with fail
        go_roundg (n - (j + 1))
        case measure => omega
        case rel => exact ⟨j + 1, _, by go_num, by omega, rfl, HFN, HCL.out, HBU, HBB, hs7⟩
      · obtain ⟨fb, hfb, hfill⟩ := fillCells_at cm (by omega) hnl' 0 (by omega)
        have HFILL := Lib.hid hfill
        have y0 : (wr.alloc (.cells #[.int .i64 t.kind, .string ⟨t.text.toArray⟩, .int .i64 t.line, .int .i64 t.col] 38)).cell? ⟨w5.heap.size, 0, none⟩ = some (.string fb) := ((HFB.out.below HBL.out (by omega)).alloc _ |>.cell 0).trans hfb
        have IBR := Lib.hid (isb_alloc HIB.out (.cells #[.int .i64 t.kind, .string ⟨t.text.toArray⟩, .int .i64 t.line, .int .i64 t.col] 38))
        have BKT := Lib.hid (Blk.new wr 38 #[.int .i64 t.kind, .string ⟨t.text.toArray⟩, .int .i64 t.line, .int .i64 t.col])
        have y1 : (wr.alloc (.cells #[.int .i64 t.kind, .string ⟨t.text.toArray⟩, .int .i64 t.line, .int .i64 t.col] 38)).cell? ⟨wr.heap.size, 1, none⟩ = some (.string ⟨t.text.toArray⟩) := BKT.out.cell 1
        have HBW := Lib.hid (HBL.out.alloc (by omega) (.cells #[.int .i64 t.kind, .string ⟨t.text.toArray⟩, .int .i64 t.line, .int .i64 t.col] 38))
        have hWs : w5.heap.size + 1 < (wr.alloc (.cells #[.int .i64 t.kind, .string ⟨t.text.toArray⟩, .int .i64 t.line, .int .i64 t.col] 38)).heap.size := by simp; omega
        have hcat : ¬ 9223372036854775807 < fb.size + t.text.length := by
          have := hfill.2.1
          rw [length_data] at this
          have := HTL.out
          omega
        have HCL := Lib.hid (show (c ++ (fb.data.toList ++ t.text)).length ≤ 102 * (j + 1) by
          have := hfill.2.1
          have := HTL.out
          simp only [List.length_append]; omega)
        have HCS := Lib.hid (show (Lib.byteCells c).length + (fb ++ ⟨t.text.toArray⟩).size ≤ 140737488355328 by
          have := hfill.2.1
          rw [length_data] at this
          have := HTL.out
          rw [cells_len, ByteArray.size_append]
          show c.length + (fb.size + t.text.toArray.size) ≤ _
          simp only [List.size_toArray]; omega)
        have HFN := Lib.hid (show Filled (ts.take (j + 1)) (c ++ (fb.data.toList ++ t.text)) by rw [HTK.out]; exact Filled.snoc _ _ _ _ HFL.out hfill)
        clear hfb hfill
        go_wp2_with fail
        generalize wr.alloc (.cells #[.int .i64 t.kind, .string ⟨t.text.toArray⟩, .int .i64 t.line, .int .i64 t.col] 38) = W at *
        have HWS := Lib.hid (show w5.heap.size + 1 ≤ W.drew.heap.size from Nat.le_of_lt hWs)
        go_still_tail 7, (by kernel_rfl)
        clear hcat
        go_wp2_with fail
        have KK := Try.bWriteString (w5.heap.size + 1) (w5.heap.size + 1) (Lib.byteCells c) (fb ++ ⟨t.text.toArray⟩) W.drew (isb_drew IBR.out) HCS.out HWS.out
        refine KK.mono ?_
        clear KK
        rintro e w7 ⟨rfl, hbu, hbb⟩
        have HBU := Lib.hid (show Lib.IsBuilder 49 5 (w5.heap.size + 1) (w5.heap.size + 1) (Lib.byteCells (c ++ (fb.data.toList ++ t.text))) w7 from .inr (by rw [cells_app] at hbu; simpa [ByteArray.data_append] using hbu))
        have HBB := Lib.hid (HBW.out.trans (show Below (w5.heap.size + 1) W w7 from ⟨hbb.os, hbb.tape, hbb.output, hbb.size, hbb.block⟩))
        have hs7 : w5.heap.size + 1 < w7.heap.size := by have := hbb.size; have : W.heap.size ≤ w7.heap.size := this; omega
        clear hbu hbb
        go_wp2_with fail
        go_roundg (n - (j + 1))
        case measure => omega
        case rel => exact ⟨j + 1, _, by go_num, by omega, rfl, HFN, HCL.out, HBU, HBB, hs7⟩
    · have hend : n = j := by omega
      have hnd : decide (j < n) = false := by simp; omega
      clear hlt
      subst hend
      have HFN := HFL
      rw [← HN.out, List.take_length] at HFN
      have HLX := Lib.hid (filled_lex ts c cm.data.toList HFN.out HBD.out H60.out (by rw [HN.out]; exact hn80) (by rw [length_data]; omega) (by simpa using hnl'))
      go_wp2_with fail
      have HCS := Lib.hid (show (Lib.byteCells c).length + ((⟨#[35]⟩ : ByteArray) ++ cm).size ≤ 140737488355328 by
        rw [cells_len, ByteArray.size_append]
        show c.length + (1 + cm.size) ≤ _
        omega)
      have KK := Try.bWriteString (w5.heap.size + 1) (w5.heap.size + 1) (Lib.byteCells c) (⟨#[35]⟩ ++ cm) wr HIB.out HCS.out (by omega)
      refine KK.mono ?_
      clear KK
      rintro e w7 ⟨rfl, hbu, hbb⟩
      have HBU := Lib.hid (show Lib.IsBuilder 49 5 (w5.heap.size + 1) (w5.heap.size + 1) (Lib.byteCells (c ++ 35 :: cm.data.toList)) w7 from .inr (by rw [cells_app] at hbu; simpa [ByteArray.data_append] using hbu))
      have HBB := Lib.hid (HBL.out.trans hbb)
      have hs7 : w5.heap.size + 1 < w7.heap.size := by have := hbb.size; omega
      clear hbu hbb
      go_wp2_with fail
      have KK := Try.bString (w5.heap.size + 1) (w5.heap.size + 1) (c ++ 35 :: cm.data.toList) w7 HBU.out (by omega)
      refine KK.mono ?_
      clear KK
      rintro e w8 ⟨rfl, hb8⟩
      have HB8 := Lib.hid (HB6.out.trans ((HBB.out.trans hb8).mono (by have := HB6.out.size; omega)))
      have hs8 : w5.heap.size + 1 < w8.heap.size := by have := hb8.size; omega
      clear hb8
      obtain ⟨us, hul, hua, huq⟩ := HLX.out
      have HUA := Lib.hid hua
      have HUL := Lib.hid hul
      obtain ⟨s, hs⟩ : ∃ s : ByteArray, s = ⟨(c ++ 35 :: cm.data.toList).toArray⟩ := ⟨_, rfl⟩
      rw [← hs]
      have HQ := Lib.hid (show quad (lexRes s.data.toList) = (us, 0, 0, 0) by rw [hs]; exact huq)
      have hsz : s.size ≤ maxLen := by
        rw [hs]
        show (c ++ 35 :: cm.data.toList).toArray.size ≤ _
        rw [List.size_toArray, List.length_append, List.length_cons, length_data]
        unfold maxLen; omega
      clear hs hua hul huq
      go_wp2_with fail
      refine (split_quad _ _ hsz _ _ _ _ HQ.out).mono ?_
      rintro e w9 ⟨A9, c9, rfl, _, HR9, HB9⟩
      rw [HUL.out, HN.out] at HR9 ⊢
      have HB9' := Lib.hid (HB8.out.trans (HB9.out.mono (by have := HB6.out.size; omega)))
      have sz9 := HB9'.out.size
      clear hsz
      have HR9' := Lib.hid (HR9.out.alloc (.cells #[.int .i64 0, .int .i64 0] 25))
      have HAA := Lib.hid ((HA.out.below HB9'.out).alloc (.cells #[.int .i64 0, .int .i64 0] 25))
      have HB10 := Lib.hid (HB9'.out.alloc sz9 (.cells #[.int .i64 0, .int .i64 0] 25))
      go_wp2_with fail
      refine (alike_same A A9 n n ca c9 ts (us.map tiOf) _ HN.out (by rw [List.length_map, HUL.out, HN.out]) rfl (fun j a b h1 h2 => by
        rw [List.getElem?_map] at h2
        cases hq : us[j]? with
        | none => rw [hq] at h2; cases h2
        | some q =>
          rw [hq] at h2
          injection h2 with h2
          subst h2
          exact HUA.out j a q h1 hq) HAA.out (by rw [tiCells_of]; exact HR9'.out) (by omega)).mono ?_
      rintro e w11 ⟨rfl, hb11⟩
      have HB11 := Lib.hid (HB10.out.trans (hb11.mono (by simp; omega)))
      clear hb11
      go_wp2_with fail
      go_ret
      exact ⟨rfl, HB11.out⟩
end Go.Proofs.Ytgneahnjdoffdaa
