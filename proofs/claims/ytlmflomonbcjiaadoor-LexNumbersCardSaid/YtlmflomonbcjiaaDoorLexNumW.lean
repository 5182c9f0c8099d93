/-
  The walk of LexNumbers.
-/
import Derived.Test.YtlmflomonbcjiaaDoorLexAw
import Derived.Test.YtlmflomonbcjiaaDoorLexNum
import Derived.Test.YtlmflomonbcjiaaDoorRaE
set_option linter.unusedVariables false
namespace Go.Proofs.YtlmflomonbcjiaaDoor
open Go.RowKit Go.Fl Go.Fl.Lx
open Go.Fl.Rt (read1)

theorem quad_toks (l : List UInt8) (ts : List Tok) (ln co er : Nat) (h : quad (lexRes l) = (ts, ln, co, er)) : ∀ t ∈ ts, tokOk t := by
  unfold lexRes at h
  split at h
  · simp only [quad, Prod.mk.injEq] at h
    obtain ⟨rfl, _⟩ := h
    intro t ht
    cases ht
  · cases hs : split l (1, 1) with
    | error e =>
      obtain ⟨a, b, c⟩ := e
      rw [hs] at h
      simp only [quad, Prod.mk.injEq] at h
      obtain ⟨rfl, _⟩ := h
      intro t ht
      cases ht
    | ok us =>
      rw [hs] at h
      simp only [quad, Prod.mk.injEq] at h
      obtain ⟨rfl, _⟩ := h
      exact split_toks _ l _ us (Nat.le_refl _) hs

set_option maxHeartbeats 1600000 in
set_option maxRecDepth 100000 in
theorem lexNumbers_any (s : ByteArray) (w : World) (hT : RX w) (hs : s.size ≤ maxLen) :
    Calls Tryd.prog 4 #[.string s] w fun e w' => e = .returned (.bool true) ∧ Hid (Below w.heap.size w w') := by
  have HT := Lib.hid hT
  clear hT
  by_cases h3 : 3000 < s.size
  · have hg : decide ((3000 : Int) < (s.size : Int)) = true := decide_eq_true (by omega)
    go_enter Tryd.func4, Tryd.ntmps4
    go_wp2_with fail
    refine (lexAwake_any _).mono ?_
    rintro e w1 ⟨rfl, hb1⟩
    have HB1 := Lib.hid hb1
    clear hb1
    go_wp2_with fail
    go_ret
    exact ⟨rfl, HB1⟩
  have hg : decide ((3000 : Int) < (s.size : Int)) = false := decide_eq_false (by omega)
  obtain ⟨ts, ln, co, er, hq⟩ : ∃ ts ln co er, quad (lexRes s.data.toList) = (ts, ln, co, er) := ⟨_, _, _, _, rfl⟩
  have HTK := Lib.hid (quad_toks _ _ _ _ _ hq)
  have HTL := Lib.hid (quad_len _ _ _ _ _ hq)
  have HQ := Lib.hid hq
  clear hq
  go_enter Tryd.func4, Tryd.ntmps4
  go_wp2_with fail
  refine (lexAwake_any _).mono ?_
  rintro e w1 ⟨rfl, hb1⟩
  have HB1 := Lib.hid hb1
  have HT1 := Lib.hid (HT.out.below HB1.out)
  have sz1 := hb1.size
  clear hb1
  go_wp2_with fail
  refine (split_quad s _ hs _ _ _ _ HQ.out).mono ?_
  rintro e w4 ⟨A4, c4, rfl, _, HRD, HB4⟩
  have HT4 := Lib.hid (HT1.out.below HB4.out)
  have HB4' := Lib.hid (HB1.out.trans (HB4.out.mono sz1))
  have sz4 := HB4'.out.size
  have hn : ts.length ≤ 3000 := by
    have := HTL.out
    rw [length_data] at this
    omega
  obtain ⟨n, hnn⟩ : ∃ n, n = ts.length := ⟨_, rfl⟩
  have HN := Lib.hid hnn
  rw [← hnn] at HRD hn ⊢
  clear hnn HTL HQ
  go_wp2_with fail
  obtain ⟨wz, hwz⟩ : ∃ z9 : World, z9 = w4.alloc (Obj.cells #[.int .i64 (ln : Int), .int .i64 (co : Int)] 27) := ⟨_, rfl⟩
  have hbz : Below w4.heap.size w4 wz := by rw [hwz]; exact (Below.refl _ _).alloc (Nat.le_refl _) _
  have HBZ := Lib.hid (HB4'.out.trans (hbz.mono sz4))
  have HRZ := Lib.hid (HRD.out.below hbz)
  have HTZ := Lib.hid (HT4.out.below hbz)
  rw [← hwz]
  clear hwz hbz
  go_loopg [23] n (fun k iv wr => ∃ j : Nat, iv = .int .i64 j ∧ j ≤ n ∧ k = n - j ∧ Hid (Below wz.heap.size wz wr))
  case atStart => exact ⟨0, rfl, by omega, rfl, Lib.hid (Below.refl _ _)⟩
  case round =>
    obtain ⟨j, rfl, hj, rfl, HL⟩ := hrel
    have hls := HL.out.size
    by_cases hlt : j < n
    · obtain ⟨b, o, hA, hbl, hca⟩ := HRZ.out.at_ (by omega)
      subst hA
      obtain ⟨t, ht⟩ : ∃ t, ts[j]? = some t := ⟨_, List.getElem?_eq_getElem (by rw [← HN.out]; exact hlt)⟩
      have hok := HTK.out t (List.mem_of_getElem? ht)
      have htl := tok_len hok
      have htr := tok_read hok
      have x0 : wr.cell? ⟨b, o + j * 4, none⟩ = some (.int .i64 t.kind) := (HL.out.cell (p := ⟨b, _, none⟩) hbl).trans (hca (j * 4 + 0) _ (toks_at _ j t ht 0 (by omega)))
      have x1 : wr.cell? ⟨b, o + j * 4 + 1, none⟩ = some (.string ⟨t.text.toArray⟩) := (HL.out.cell (p := ⟨b, _, none⟩) hbl).trans (hca (j * 4 + 1) _ (toks_at _ j t ht 1 (by omega)))
      have x2 : wr.cell? ⟨b, o + j * 4 + 2, none⟩ = some (.int .i64 t.line) := (HL.out.cell (p := ⟨b, _, none⟩) hbl).trans (hca (j * 4 + 2) _ (toks_at _ j t ht 2 (by omega)))
      have x3 : wr.cell? ⟨b, o + j * 4 + 3, none⟩ = some (.int .i64 t.col) := (HL.out.cell (p := ⟨b, _, none⟩) hbl).trans (hca (j * 4 + 3) _ (toks_at _ j t ht 3 (by omega)))
      obtain ⟨tb, htb⟩ : ∃ tb : ByteArray, tb = ⟨t.text.toArray⟩ := ⟨_, rfl⟩
      rw [← htb] at x1
      have htbs : tb.size ≤ 1000 := by rw [htb]; simp [ByteArray.size]; omega
      have htbd : tb.data.toList = t.text := by rw [htb]
      obtain ⟨kd, hkd⟩ : ∃ kd : Nat, kd = t.kind := ⟨_, rfl⟩
      rw [← hkd] at x0 htr
      rw [← htbd] at htr
      obtain ⟨lnn, hlnn⟩ : ∃ z : Nat, z = t.line := ⟨_, rfl⟩
      obtain ⟨coo, hcoo⟩ : ∃ z : Nat, z = t.col := ⟨_, rfl⟩
      rw [← hlnn] at x2
      rw [← hcoo] at x3
      have HTR := Lib.hid htr
      have HTW := Lib.hid (HTZ.out.below HL.out)
      clear htb hca ht hok htl htr htbd hkd hlnn hcoo
      go_wp2_with fail
      obtain ⟨wt, hwt⟩ : ∃ z9 : World, z9 = wr.alloc (Obj.cells #[.int .i64 (kd : Int), .string tb, .int .i64 (lnn : Int), .int .i64 (coo : Int)] 32) := ⟨_, rfl⟩
      have hbt : Below wr.heap.size wr wt := by rw [hwt]; exact (Below.refl _ _).alloc (Nat.le_refl _) _
      have HLT := Lib.hid (HL.out.trans (hbt.mono hls))
      have q0 : wt.cell? ⟨wr.heap.size, 0, none⟩ = some (.int .i64 kd) := by rw [hwt]; simp
      have hst : wr.heap.size < wt.heap.size := by rw [hwt]; simp
      have HTT := Lib.hid (HTW.out.below hbt)
      rw [← hwt]
      clear hwt hbt
      refine (parse_any' tb wt HTT.out htbs).mono ?_
      rintro e w5 ⟨rfl, HB5⟩
      have HL5 := Lib.hid (HLT.out.trans (HB5.out.mono (by omega)))
      have hls5 := HL5.out.size
      have q1 : w5.cell? ⟨wr.heap.size, 0, none⟩ = some (.int .i64 kd) := (HB5.out.cell (p := ⟨wr.heap.size, 0, none⟩) hst).trans q0
      have hst5 : wr.heap.size < w5.heap.size := Nat.lt_of_lt_of_le hst HB5.out.size
      obtain ⟨p1, p2, p3, hp⟩ : ∃ p1 p2 p3, read1 tb.data.toList = (p1, p2, p3) := ⟨_, _, _, rfl⟩
      rw [hp] at HTR ⊢
      have q2 : (w5.alloc (Obj.cells #[.int .i64 p1, .int .i64 p2] 36)).cell? ⟨wr.heap.size, 0, none⟩ = some (.int .i64 kd) := (World.cell?_alloc_lt _ _ _ hst5).trans q1
      have HL6 := Lib.hid (HL5.out.alloc (by omega) (Obj.cells #[.int .i64 p1, .int .i64 p2] 36))
      have hcase : (kd = 2 ∧ p3 = 9) ∨ (kd = 2 ∧ p3 = 0 ∧ 0 ≤ p1) ∨ (kd ≠ 2 ∧ p3 = 3) := by
        rcases HTR.out with ⟨h1, h2 | h2⟩ | ⟨h1, h2⟩
        · exact .inl ⟨h1, h2⟩
        · exact .inr (.inl ⟨h1, h2⟩)
        · injection h2 with h2 h4
          injection h4 with h4 h5
          exact .inr (.inr ⟨h1, h5⟩)
      clear hp HTR q0 q1
      rcases hcase with ⟨hk, h9⟩ | ⟨hk, h0, hp⟩ | ⟨hk, h3⟩
      · subst hk h9
        go_wp2_with fail
        go_roundg (n - (j + 1))
        case measure => omega
        case rel => exact ⟨j + 1, by go_num, by omega, rfl, HL6⟩
      · subst hk h0
        have hl0 : decide (p1 < 0) = false := decide_eq_false (by omega)
        go_wp2_with fail
        go_roundg (n - (j + 1))
        case measure => omega
        case rel => exact ⟨j + 1, by go_num, by omega, rfl, HL6⟩
      · have hk2 : ((kd : Int) == 2) = false := by rw [beq_eq_false_iff_ne]; omega
        have hk3 : ((kd : Int) != 2) = true := by rw [bne, hk2]; rfl
        subst h3
        go_wp2_with fail
        go_roundg (n - (j + 1))
        case measure => omega
        case rel => exact ⟨j + 1, by go_num, by omega, rfl, HL6⟩
    · go_wp2_with fail
      go_ret
      exact ⟨rfl, Lib.hid (HBZ.out.trans (HL.out.mono HBZ.out.size))⟩
end Go.Proofs.YtlmflomonbcjiaaDoor
