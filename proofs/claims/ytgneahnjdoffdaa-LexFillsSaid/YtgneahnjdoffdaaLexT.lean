/-
  Walks: comparing and converting lists of tokens.
-/
import Derived.Test.YtgneahnjdoffdaaLexS
import Derived.Test.YtgneahnjdoffdaaLexE
import Derived.Test.YtgneahnjdoffdaaRow
namespace Go.Proofs.Ytgneahnjdoffdaa
open Go.RowKit Go.Fl Go.Fl.Lx

theorem run_neq_rtok (w : World) (k l c k' l' c' : Int) (s s' : ByteArray) :
   (binOp .neq 34 (.agg #[.int .i64 k, .string s, .int .i64 l, .int .i64 c]) (.agg #[.int .i64 k', .string s', .int .i64 l', .int .i64 c'])).run Try.prog w = .ok (.bool (!(k == k' && (s.toList == s'.toList) && (l == l') && (c == c')))) w := by
  simp [go_sem]
  by_cases h1 : k = k' <;> by_cases h2 : s.toList = s'.toList <;> by_cases h3 : l = l' <;> by_cases h4 : c = c' <;> simp [h1, h2, h3, h4]
theorem run_eql_pos (w : World) (l c l' c' : Int) :
   (binOp .eql 25 (.agg #[.int .i64 l, .int .i64 c]) (.agg #[.int .i64 l', .int .i64 c'])).run Try.prog w = .ok (.bool ((l == l') && (c == c'))) w := by
  simp [go_sem]
  by_cases h3 : l = l' <;> by_cases h4 : c = c' <;> simp [h3, h4]

theorem rtoks_len (l : List Tok) : (rtoksCells l).length = l.length * 4 := by
  induction l with
  | nil => rfl
  | cons t l ih => simp [rtoksCells, rtokCells] at ih ⊢; omega
theorem rtoks_at (l : List Tok) (k : Nat) (t : Tok) (h : l[k]? = some t) (j : Nat) (hj : j < 4) : (rtoksCells l)[k * 4 + j]? = (rtokCells t)[j]? := by
  induction l generalizing k with
  | nil => simp at h
  | cons t' l ih =>
    have e : rtoksCells (t' :: l) = rtokCells t' ++ rtoksCells l := rfl
    have hl : (rtokCells t').length = 4 := rfl
    rw [e]
    cases k with
    | zero =>
      simp at h
      subst h
      rw [Nat.zero_mul, Nat.zero_add, List.getElem?_append_left (by omega)]
    | succ k =>
      simp at h
      rw [List.getElem?_append_right (by omega), ← ih k h, hl]
      congr 1; omega

set_option maxHeartbeats 400000 in
theorem requal_same (A B : Option Addr) (n ca cb : Nat) (ts : List Tok) (w : World) (hn : ts.length = n) (ha : Rd w 4 A n (rtoksCells ts)) (hb : Rd w 4 B n (rtoksCells ts)) (hm : n ≤ 65536) :
    Calls Try.prog 13 #[.slice A n ca, .slice B n cb] w fun e w' => e = .returned (.bool true) ∧ ∃ d, w' = w.drewN d := by
  have HN := Lib.hid hn
  have HA := Lib.hid ha
  have HB := Lib.hid hb
  have heq : ((n : Int) != n) = false := by simp
  have hneq := run_neq_rtok
  clear hn ha hb
  go_enter Try.func13, Try.ntmps13
  go_wp2_with fail
  go_loopg [13] n (fun k i wr => ∃ d j : Nat, wr = w.drewN d ∧ i = .int .i64 j ∧ j ≤ n ∧ k = n - j)
  case atStart => exact ⟨0, 0, rfl, rfl, by omega, by omega⟩
  case round =>
    obtain ⟨d, j, rfl, rfl, hj, rfl⟩ := hrel
    by_cases hlt : j < n
    · obtain ⟨b, o, hA, _, hca⟩ := HA.out.at_ (by omega)
      obtain ⟨b', o', hB, _, hcb⟩ := HB.out.at_ (by omega)
      subst hA hB
      obtain ⟨t, ht⟩ : ∃ t, ts[j]? = some t := ⟨_, List.getElem?_eq_getElem (by rw [HN.out]; exact hlt)⟩
      have x0 : w.cell? ⟨b, o + j * 4, none⟩ = some (.int .i64 t.kind) := hca (j * 4 + 0) _ (rtoks_at ts j t ht 0 (by omega))
      have x1 : w.cell? ⟨b, o + j * 4 + 1, none⟩ = some (.string ⟨t.text.toArray⟩) := hca (j * 4 + 1) _ (rtoks_at ts j t ht 1 (by omega))
      have x2 : w.cell? ⟨b, o + j * 4 + 2, none⟩ = some (.int .i64 t.line) := hca (j * 4 + 2) _ (rtoks_at ts j t ht 2 (by omega))
      have x3 : w.cell? ⟨b, o + j * 4 + 3, none⟩ = some (.int .i64 t.col) := hca (j * 4 + 3) _ (rtoks_at ts j t ht 3 (by omega))
      have y0 : w.cell? ⟨b', o' + j * 4, none⟩ = some (.int .i64 t.kind) := hcb (j * 4 + 0) _ (rtoks_at ts j t ht 0 (by omega))
      have y1 : w.cell? ⟨b', o' + j * 4 + 1, none⟩ = some (.string ⟨t.text.toArray⟩) := hcb (j * 4 + 1) _ (rtoks_at ts j t ht 1 (by omega))
      have y2 : w.cell? ⟨b', o' + j * 4 + 2, none⟩ = some (.int .i64 t.line) := hcb (j * 4 + 2) _ (rtoks_at ts j t ht 2 (by omega))
      have y3 : w.cell? ⟨b', o' + j * 4 + 3, none⟩ = some (.int .i64 t.col) := hcb (j * 4 + 3) _ (rtoks_at ts j t ht 3 (by omega))
      clear hca hcb ht
      have b0 : (0 : Int) ≤ j := by omega
      have b1 : (j : Int) < n := by omega
      go_wp2_with fail
      go_quiet (fail)
      go_wp2_with fail
      go_roundg (n - (j + 1))
      case measure => omega
      case rel => exact ⟨_, j + 1, rfl, by go_num, by omega, rfl⟩
    · go_wp2_with fail
      go_ret
      exact ⟨rfl, _, rfl⟩

theorem toks_len (l : List Tok) : (toksCells l).length = l.length * 4 := by
  induction l with
  | nil => rfl
  | cons t l ih => simp [toksCells, tokCells] at ih ⊢; omega
theorem toks_at (l : List Tok) (k : Nat) (t : Tok) (h : l[k]? = some t) (j : Nat) (hj : j < 4) : (toksCells l)[k * 4 + j]? = (tokCells t)[j]? := rtoks_at l k t h j hj
theorem toks_take (l : List Tok) (k : Nat) (t : Tok) (h : l[k]? = some t) : l.take (k + 1) = l.take k ++ [t] := by
  rw [List.take_add_one, h]; rfl

def GivenRel (w : World) (ts : List Tok) (k : Nat) (ov iv : Value) (wr : World) : Prop :=
  ∃ j : Nat, iv = .int .i64 j ∧ j ≤ ts.length ∧ k = ts.length - j ∧ Hid (wr.ownsRow w.heap.size 34 4 ov j (rtoksCells (ts.take j))) ∧ Hid (Below w.heap.size w wr)

/-- What 'given' leaves. -/
def GivenPost (w : World) (ts : List Tok) (e : Ending) (w' : World) : Prop :=
  ∃ v, e = .returned v ∧ w'.ownsRow w.heap.size 34 4 v ts.length (rtoksCells ts) ∧ Below w.heap.size w w'

set_option maxHeartbeats 400000 in
theorem given_any (A : Option Addr) (n ca : Nat) (ts : List Tok) (w : World) (hn : n = ts.length) (ha : Rd w 4 A n (toksCells ts)) (hm : n ≤ 65536) :
    Calls Try.prog 14 #[.slice A n ca] w (GivenPost w ts) := by
  have HN := Lib.hid hn
  have HA := Lib.hid ha
  clear hn ha
  go_enter Try.func14, Try.ntmps14
  go_wp2_with fail
  go_loopg [3, 8] n (fun k ov iv wr => GivenRel w ts k ov iv wr)
  case atStart => exact ⟨0, rfl, by omega, by rw [HN.out]; rfl, World.ownsRow_nil _ _ _ _, Below.refl _ _⟩
  case round =>
    obtain ⟨j, rfl, hj, rfl, HO, HL⟩ := hrel
    rw [← HN.out] at hj
    by_cases hlt : j < n
    · obtain ⟨b, o, hA, hbl, hca⟩ := HA.out.at_ (by omega)
      subst hA
      obtain ⟨t, ht⟩ : ∃ t, ts[j]? = some t := ⟨_, List.getElem?_eq_getElem (by rw [← HN.out]; exact hlt)⟩
      have x0 : wr.cell? ⟨b, o + j * 4, none⟩ = some (.int .i64 t.kind) := (HL.out.cell (p := ⟨b, _, none⟩) hbl).trans (hca (j * 4 + 0) _ (toks_at ts j t ht 0 (by omega)))
      have x1 : wr.cell? ⟨b, o + j * 4 + 1, none⟩ = some (.string ⟨t.text.toArray⟩) := (HL.out.cell (p := ⟨b, _, none⟩) hbl).trans (hca (j * 4 + 1) _ (toks_at ts j t ht 1 (by omega)))
      have x2 : wr.cell? ⟨b, o + j * 4 + 2, none⟩ = some (.int .i64 t.line) := (HL.out.cell (p := ⟨b, _, none⟩) hbl).trans (hca (j * 4 + 2) _ (toks_at ts j t ht 2 (by omega)))
      have x3 : wr.cell? ⟨b, o + j * 4 + 3, none⟩ = some (.int .i64 t.col) := (HL.out.cell (p := ⟨b, _, none⟩) hbl).trans (hca (j * 4 + 3) _ (toks_at ts j t ht 3 (by omega)))
      have HTK := Lib.hid (toks_take ts j t ht)
      clear hca ht
      have hls := HL.out.size
      obtain ⟨i0, ti, tz0, tz1, tz2⟩ := info_parts Try.infoRTok
      go_wp2_with (at_builtin; refine wpList_append_lies _ rfl _ _ _ rfl w.heap.size 34 i0 _ 4 40 Try.underlying29 ti tz0 tz1 tz2 rfl (by omega) u3 j (rtoksCells (ts.take j)) rfl (by exact (HO.out.alloc _).alloc _) ⟨wr.heap.size + 1, 0, none⟩ 1 1 [.int .i64 t.kind, .string ⟨t.text.toArray⟩, .int .i64 t.line, .int .i64 t.col] rfl rfl (by exact World.news_of_block (cs := #[.int .i64 t.kind, .string ⟨t.text.toArray⟩, .int .i64 t.line, .int .i64 t.col]) (t := 34) (fr := (0, 0)) (by have := heap_alloc_new (wr.alloc (.cells #[.int .i64 t.kind, .string ⟨t.text.toArray⟩, .int .i64 t.line, .int .i64 t.col] 38)) (.cells #[.int .i64 t.kind, .string ⟨t.text.toArray⟩, .int .i64 t.line, .int .i64 t.col] 34); simpa using this)) (by simp [Value.oneCell']) (by omega) (by unfold maxLen; omega) (by omega) (by simp; omega) (wr.heap.size + 2) (by simp) ?_)
      intro g cap w2 hown hgrow hat hlt2
      have HO2 := Lib.hid hown
      have HL2 := Lib.hid (show Below w.heap.size w w2 from ((HL.out.alloc (by omega) _).alloc (by simp; omega) _).grown hgrow (by simp; omega) (fun k hk => (HO.out.lt k hk).1))
      clear hown hgrow hat hlt2 ti tz0 tz1 tz2
      go_wp2_with fail
      go_roundg (ts.length - (j + 1))
      case measure => rw [← HN.out]; omega
      case rel =>
        refine ⟨j + 1, by go_num, by rw [← HN.out]; omega, rfl, ?_, HL2.out⟩
        have := HO2.out
        unfold Hid
        rw [HTK.out]
        simpa [rtoksCells, rtokCells] using this
    · go_wp2_with fail
      go_ret
      have hjn : j = n := by omega
      subst hjn
      refine ⟨u3, rfl, ?_, HL.out⟩
      have := HO.out
      rw [HN.out, List.take_length] at this
      exact this
end Go.Proofs.Ytgneahnjdoffdaa
