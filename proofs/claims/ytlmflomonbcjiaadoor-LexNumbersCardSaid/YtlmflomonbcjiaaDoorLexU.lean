/-
  Walks: the chapter's example ('awake').
-/
import Derived.Test.YtlmflomonbcjiaaDoorLexT
import Derived.Test.YtlmflomonbcjiaaDoorLexPlain4
namespace Go.Proofs.YtlmflomonbcjiaaDoor
open Go.RowKit Go.Fl Go.Fl.Lx

theorem ints_at (l : List Int) (k : Nat) (t : Int) (h : l[k]? = some t) : (l.map (Value.int .i64))[k]? = some (.int .i64 t) := by simp [h]

set_option maxHeartbeats 400000 in
theorem iequal_same (A B : Option Addr) (n ca cb : Nat) (ts : List Int) (w : World) (hn : ts.length = n) (ha : Rd w 1 A n (ts.map (Value.int .i64))) (hb : Rd w 1 B n (ts.map (Value.int .i64))) (hm : n ≤ 65536) :
    Calls Tryd.prog 11 #[.slice A n ca, .slice B n cb] w fun e w' => e = .returned (.bool true) ∧ ∃ d, w' = w.drewN d := by
  have HN := Lib.hid hn
  have HA := Lib.hid ha
  have HB := Lib.hid hb
  have heq : ((n : Int) != n) = false := by simp
  clear hn ha hb
  go_enter Tryd.func11, Tryd.ntmps11
  go_wp2_with fail
  go_loopg [13] n (fun k i wr => ∃ d j : Nat, wr = w.drewN d ∧ i = .int .i64 j ∧ j ≤ n ∧ k = n - j)
  case atStart => exact ⟨0, 0, rfl, rfl, by omega, by omega⟩
  case round =>
    obtain ⟨d, j, rfl, rfl, hj, rfl⟩ := hrel
    by_cases hlt : j < n
    · obtain ⟨b, o, hA, _, hca⟩ := HA.out.at_ (by omega)
      obtain ⟨b', o', hB, _, hcb⟩ := HB.out.at_ (by omega)
      subst hA hB
      obtain ⟨t, ht⟩ : ∃ t, ts[j]? = some t := ⟨_, List.getElem?_eq_getElem (by rw [HN.out]; exact hlt)⟩
      have x0 : w.cell? ⟨b, o + j, none⟩ = some (.int .i64 t) := hca j _ (ints_at ts j t ht)
      have y0 : w.cell? ⟨b', o' + j, none⟩ = some (.int .i64 t) := hcb j _ (ints_at ts j t ht)
      clear hca hcb ht
      have b0 : (0 : Int) ≤ j := by omega
      have b1 : (j : Int) < n := by omega
      go_wp2_with fail
      go_quiet (fail)
      go_wp2_with fail
      go_roundg (n - (j + 1))
      case measure => omega
      case rel => exact ⟨_, j + 1, rfl, by go_num, by omega, rfl⟩
    · go_wp2_with fail
      go_ret
      exact ⟨rfl, _, rfl⟩

theorem iequal_two (A B : Option Addr) (n m ca cb : Nat) (ts : List Int) (w : World) (hn : ts.length = n) (hmn : m = n) (ha : Rd w 1 A n (ts.map (Value.int .i64))) (hb : Rd w 1 B m (ts.map (Value.int .i64))) (hm : n ≤ 65536) :
    Calls Tryd.prog 11 #[.slice A n ca, .slice B m cb] w fun e w' => e = .returned (.bool true) ∧ ∃ d, w' = w.drewN d := by
  subst hmn
  exact iequal_same A B m ca cb ts w hn ha hb hm

theorem Rd_new (w : World) (e : TypeId) (xs : List Value) (n : Nat) (h : xs.length = n) : Rd (w.alloc (.cells xs.toArray e)) 1 (some ⟨w.heap.size, 0, none⟩) n xs := by
  refine ⟨by omega, fun _ => ⟨w.heap.size, 0, rfl, by simp, fun j u hu => ?_⟩⟩
  rw [(Blk.new w e xs.toArray).cell]
  simpa using hu

theorem example_toks : ∃ ts, lexRes [120, 39, 32, 61, 32, 45, 49, 46, 53, 32, 42, 32, 120, 59] = .ok ts ∧ ts.length = 8 ∧ ts.map (fun t => (t.col : Int)) = [1, 2, 4, 6, 7, 11, 13, 14] := by
  unfold lexRes
  rw [if_neg (by decide), split_eq_F 14 _ _ (by decide)]
  exact ⟨_, rfl, by decide +kernel, by decide +kernel⟩

theorem Tryd.infoInt : (Tryd.prog.info? 3).map (fun i => (i.zero, i.size, i.bytes)) = some (some (.int .i64 0), 1, 8) := by kernel_rfl

def ColRel (w w0 : World) (ts : List Tok) (k : Nat) (ov iv : Value) (wr : World) : Prop :=
  ∃ j : Nat, iv = .int .i64 j ∧ j ≤ ts.length ∧ k = ts.length - j ∧ Hid (wr.ownsRow w0.heap.size 3 1 ov j ((ts.take j).map (fun t => Value.int .i64 t.col))) ∧ Hid (Below w0.heap.size w0 wr) ∧ Hid (Below w.heap.size w wr)

/-- The law's own examples hold. -/
def AwakePost (w : World) (e : Ending) (w' : World) : Prop := e = .returned (.bool true) ∧ Below w.heap.size w w'

set_option maxHeartbeats 800000 in
theorem awake_any (w : World) : Calls Tryd.prog 5 #[] w (AwakePost w) := by
  obtain ⟨ts, hts, hl8, hcols⟩ := example_toks
  have HTS := Lib.hid hts
  have HL8 := Lib.hid hl8
  have HCO := Lib.hid hcols
  clear hts hl8 hcols
  go_enter Tryd.func5, Tryd.ntmps5
  go_wp2_with fail
  refine (split_any _ _ (by decide)).mono ?_
  rintro e w1 ⟨hb1, hres⟩
  have hres2 : ∃ v, e = .returned (.tuple #[v, .agg #[.int .i64 0, .int .i64 0], .int .i64 0]) ∧ w1.ownsRow w.heap.size 32 4 v ts.length (toksCells ts) := by
    have h := HTS.out
    change match lexRes [120, 39, 32, 61, 32, 45, 49, 46, 53, 32, 42, 32, 120, 59] with | .error (ln, co, er) => _ | .ok toks => _ at hres
    rw [h] at hres
    exact hres
  obtain ⟨v, rfl, hown⟩ := hres2
  obtain ⟨A, c, rfl, hrd, hnc, hcm⟩ := Rd.of_own hown
  have HRD := Lib.hid hrd
  have HB1 := Lib.hid hb1
  clear hres hown hrd hb1
  go_wp2_with fail
  have hsz1 := HB1.out.size
  have HRD0 := Lib.hid (HRD.out.alloc (.cells #[.int .i64 0, .int .i64 0] 27))
  have HB0 := Lib.hid (HB1.out.alloc hsz1 (.cells #[.int .i64 0, .int .i64 0] 27))
  have hsz0 : w.heap.size ≤ (w1.alloc (.cells #[.int .i64 0, .int .i64 0] 27)).heap.size := by simp; omega
  generalize w1.alloc (.cells #[.int .i64 0, .int .i64 0] 27) = w0 at *
  have h8 : ts.length ≤ 8 := by rw [HL8.out]; omega
  go_loopg [4, 14] ts.length (fun k ov iv wr => ColRel w w0 ts k ov iv wr)
  case atStart => exact ⟨0, rfl, by omega, rfl, World.ownsRow_nil _ _ _ _, Below.refl _ _, HB0.out⟩
  case round =>
    obtain ⟨j, rfl, hj, rfl, HO, HL, HLw⟩ := hrel
    have hls := HL.out.size
    by_cases hlt : j < ts.length
    · obtain ⟨b, o, hA, hbl, hca⟩ := HRD0.out.at_ (by omega)
      subst hA
      obtain ⟨t, ht⟩ : ∃ t, ts[j]? = some t := ⟨_, List.getElem?_eq_getElem hlt⟩
      have x0 : wr.cell? ⟨b, o + j * 4, none⟩ = some (.int .i64 t.kind) := (HL.out.cell (p := ⟨b, _, none⟩) hbl).trans (hca (j * 4 + 0) _ (toks_at ts j t ht 0 (by omega)))
      have x1 : wr.cell? ⟨b, o + j * 4 + 1, none⟩ = some (.string ⟨t.text.toArray⟩) := (HL.out.cell (p := ⟨b, _, none⟩) hbl).trans (hca (j * 4 + 1) _ (toks_at ts j t ht 1 (by omega)))
      have x2 : wr.cell? ⟨b, o + j * 4 + 2, none⟩ = some (.int .i64 t.line) := (HL.out.cell (p := ⟨b, _, none⟩) hbl).trans (hca (j * 4 + 2) _ (toks_at ts j t ht 2 (by omega)))
      have x3 : wr.cell? ⟨b, o + j * 4 + 3, none⟩ = some (.int .i64 t.col) := (HL.out.cell (p := ⟨b, _, none⟩) hbl).trans (hca (j * 4 + 3) _ (toks_at ts j t ht 3 (by omega)))
      have HTK := Lib.hid (toks_take ts j t ht)
      clear hca ht
      obtain ⟨i0, ti, tz0, tz1, tz2⟩ := info_parts Tryd.infoInt
      go_wp2_with (at_builtin; refine wpList_append_lies _ rfl _ _ _ rfl w0.heap.size 3 i0 _ 1 8 Tryd.underlying39 ti tz0 tz1 tz2 rfl (by omega) u4 j ((ts.take j).map (fun t => Value.int .i64 t.col)) rfl (by exact (HO.out.alloc _).alloc _) ⟨wr.heap.size + 1, 0, none⟩ 1 1 [.int .i64 t.col] rfl rfl (by exact World.news_of_block (cs := #[.int .i64 t.col]) (t := 3) (fr := (0, 0)) (by have := heap_alloc_new (wr.alloc (.cells #[.int .i64 t.kind, .string ⟨t.text.toArray⟩, .int .i64 t.line, .int .i64 t.col] 32)) (.cells #[.int .i64 t.col] 3); simpa using this)) (by simp [Value.oneCell']) (by omega) (by unfold maxLen; omega) (by omega) (by simp; omega) (wr.heap.size + 2) (by simp) ?_)
      intro g cap w2 hown hgrow hat hlt2
      have HO2 := Lib.hid hown
      have HL2 := Lib.hid (show Below w0.heap.size w0 w2 from ((HL.out.alloc (by omega) _).alloc (by simp; omega) _).grown hgrow (by simp; omega) (fun k hk => (HO.out.lt k hk).1))
      have HLw2 := Lib.hid (show Below w.heap.size w w2 from ((HLw.out.alloc (by omega) _).alloc (by simp; omega) _).grown hgrow (by simp; omega) (fun k hk => Nat.le_trans hsz0 (HO.out.lt k hk).1))
      clear hown hgrow hat hlt2 ti tz0 tz1 tz2
      go_wp2_with fail
      go_roundg (ts.length - (j + 1))
      case measure => omega
      case rel =>
        refine ⟨j + 1, by go_num, by omega, rfl, ?_, HL2.out, HLw2.out⟩
        have := HO2.out
        unfold Hid
        rw [HTK.out]
        simpa using this
    · have hjn : j = ts.length := by omega
      obtain ⟨A2, c2, hu, hrd2, hnc2, _⟩ := Rd.of_own HO.out
      have HRD2 := Lib.hid (show Rd wr 1 A2 ts.length (([1, 2, 4, 6, 7, 11, 13, 14] : List Int).map (Value.int .i64)) by
        rw [hjn, List.take_length] at hrd2
        rw [← HCO.out, List.map_map]; exact hrd2)
      subst hu
      clear hrd2
      subst hjn
      have HE8 := Lib.hid (show ((ts.length : Nat) : Int) = 8 by rw [HL8.out]; rfl)
      go_wp2_with fail
      refine (iequal_two A2 _ ts.length 8 c2 8 [1, 2, 4, 6, 7, 11, 13, 14] _ (by rw [HL8.out]; rfl) HL8.out.symm (HRD2.out.alloc _) (Rd_new wr 3 _ 8 rfl) (by omega)).mono ?_
      rintro e w2 ⟨rfl, d, rfl⟩
      go_wp2_with fail
      go_ret
      exact ⟨rfl, below_drewN (HLw.out.alloc (by omega) _) d⟩

/-- The tokens, the place and the number that Split answers. -/
def quad : Res → List Tok × Nat × Nat × Nat
  | .error (ln, co, er) => ([], ln, co, er)
  | .ok ts => (ts, 0, 0, 0)

theorem split_quad (s : ByteArray) (w : World) (hs : s.size ≤ maxLen) (ts : List Tok) (ln co er : Nat) (h : quad (lexRes s.data.toList) = (ts, ln, co, er)) :
    Calls Tryd.prog 7 #[.string s] w fun e w' => ∃ A c, e = .returned (.tuple #[.slice A ts.length c, .agg #[.int .i64 ln, .int .i64 co], .int .i64 er]) ∧
      Hid (w'.ownsRow w.heap.size 32 4 (.slice A ts.length c) ts.length (toksCells ts)) ∧ Hid (Rd w' 4 A ts.length (toksCells ts)) ∧ Hid (Below w.heap.size w w') := by
  refine (split_any s w hs).mono ?_
  rintro e w' ⟨hb, hres⟩
  cases hl : lexRes s.data.toList with
  | error p =>
    obtain ⟨a, b, c⟩ := p
    rw [hl] at hres h
    simp only [quad, Prod.mk.injEq] at hres h
    obtain ⟨rfl, rfl, rfl, rfl⟩ := h
    exact ⟨none, 0, hres, World.ownsRow_nil _ _ _ _, Rd.none_ _ _, hb⟩
  | ok us =>
    rw [hl] at hres h
    simp only [quad, Prod.mk.injEq] at hres h
    obtain ⟨rfl, rfl, rfl, rfl⟩ := h
    obtain ⟨v, he, ho⟩ := hres
    obtain ⟨A, c, rfl, hrd, _⟩ := Rd.of_own ho
    exact ⟨A, c, he, ho, hrd, hb⟩
/-- A text has at most as many tokens as bytes. -/
theorem pre_ok_len (ts us : List Tok) (r : Res) (h : pre ts r = .ok us) : ∃ vs, r = .ok vs ∧ us = ts ++ vs := by
  cases r with
  | error e => cases h
  | ok vs => exact ⟨vs, rfl, by simpa [pre] using h.symm⟩
theorem split_len (n : Nat) (l : List UInt8) (p : Nat × Nat) (ts : List Tok) (hn : l.length ≤ n) (h : split l p = .ok ts) : ts.length ≤ l.length := by
  induction n generalizing l p ts with
  | zero =>
    have : l = [] := List.eq_nil_of_length_eq_zero (by omega)
    subst this
    rw [split_nil] at h
    cases h; simp
  | succ n ih =>
    cases l with
    | nil => rw [split_nil] at h; cases h; simp
    | cons c r =>
      simp only [List.length_cons] at hn ⊢
      have h1 := dropWhile_le (p := inRun) r
      have h2 := dropWhile_le (p := (· != 10)) r
      rw [split] at h
      split at h
      · have := ih r _ ts (by omega) h; omega
      split at h
      · obtain ⟨vs, hv, rfl⟩ := pre_ok_len _ _ _ h
        have := ih r _ vs (by omega) hv; simp; omega
      split at h
      · split at h
        · obtain ⟨vs, hv, rfl⟩ := pre_ok_len _ _ _ h
          have := ih _ _ vs (by omega) hv; simp; omega
        · cases h
      split at h
      · have := ih _ _ ts (by omega) h; omega
      · cases h
theorem quad_len (l : List UInt8) (ts : List Tok) (ln co er : Nat) (h : quad (lexRes l) = (ts, ln, co, er)) : ts.length ≤ l.length := by
  unfold lexRes at h
  split at h
  · simp only [quad, Prod.mk.injEq] at h
    obtain ⟨rfl, _⟩ := h; simp
  · cases hl : split l (1, 1) with
    | error p => rw [hl] at h; simp only [quad, Prod.mk.injEq] at h; obtain ⟨rfl, _⟩ := h; simp
    | ok us => rw [hl] at h; simp only [quad, Prod.mk.injEq] at h; obtain ⟨rfl, _⟩ := h; exact split_len _ _ _ _ (Nat.le_refl _) hl

end Go.Proofs.YtlmflomonbcjiaaDoor
