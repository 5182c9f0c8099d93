/-
  The walk of LexLines.
-/
import Derived.Test.YtgneahnjdoffdaaLexX
import Derived.Test.YtgneahnjdoffdaaLexPlain6
import Derived.Test.YtgneahnjdoffdaaRow2
namespace Go.Proofs.Ytgneahnjdoffdaa
open Go.RowKit Go.Fl Go.Fl.Lx

def Bd (m : Nat) : Res → Prop
  | .error (ln, _, er) => ln ≤ m ∧ er ≠ 0
  | .ok ts => ∀ t ∈ ts, t.line ≤ m
theorem Bd.pre1 {m : Nat} {t : Tok} {r : Res} (h : Bd m r) (ht : t.line ≤ m) : Bd m (pre [t] r) := by
  cases r with
  | error e => exact h
  | ok ts =>
    intro u hu
    rcases List.mem_cons.1 (show u ∈ t :: ts from hu) with rfl | hu
    · exact ht
    · exact h u hu
theorem Bd.mono {m n : Nat} {r : Res} (h : Bd m r) (hm : m ≤ n) : Bd n r := by
  cases r with
  | error e => obtain ⟨a, b, c⟩ := e; exact ⟨Nat.le_trans h.1 hm, h.2⟩
  | ok ts => exact fun t ht => Nat.le_trans (h t ht) hm
theorem split_bd (n : Nat) (l : List UInt8) (p : Nat × Nat) (h : l.length ≤ n) : Bd (p.1 + l.length) (split l p) := by
  induction n generalizing l p with
  | zero =>
    have : l = [] := List.eq_nil_of_length_eq_zero (by omega)
    subst this
    rw [split_nil]; intro t ht; cases ht
  | succ n ih =>
    cases l with
    | nil => rw [split_nil]; intro t ht; cases ht
    | cons c r =>
      simp only [List.length_cons] at h ⊢
      have e1 := adv_grow [c] p
      rw [adv_one] at e1
      simp only [List.length_cons, List.length_nil] at e1
      have w1 : ∀ q : UInt8 → Bool, (r.takeWhile q).length + (r.dropWhile q).length = r.length := fun q => by
        rw [← List.length_append, List.takeWhile_append_dropWhile]
      have h1 := w1 inRun
      have h2 := w1 (· != 10)
      have e2 := adv_grow (c :: r.takeWhile inRun) p
      have e3 := adv_grow (c :: r.takeWhile (· != 10)) p
      simp only [List.length_cons] at e2 e3
      rw [split]
      split
      · exact (ih r _ (by omega)).mono (by omega)
      split
      · exact ((ih r _ (by omega)).mono (by omega)).pre1 (by simp)
      split
      · split
        · exact ((ih (r.dropWhile inRun) _ (by omega)).mono (by omega)).pre1 (by simp)
        · exact ⟨by omega, by assumption⟩
      split
      · exact (ih (r.dropWhile (· != 10)) _ (by omega)).mono (by omega)
      · exact ⟨by omega, by omega⟩

theorem lexRes_small (l : List UInt8) (h : l.length ≤ 65536) : lexRes l = split l (1, 1) := by
  unfold lexRes
  rw [if_neg (by omega)]

/-- The three ends of two texts with a newline between them. -/
theorem lines_ends (a b : List UInt8) (ha : a.length ≤ 1000) (hb : b.length ≤ 1000) :
    (∃ ln co er : Nat, er ≠ 0 ∧ quad (lexRes a) = ([], ln, co, er) ∧ quad (lexRes (a ++ [10] ++ b)) = ([], ln, co, er)) ∨
    (∃ (ts : List Tok) (ln co er : Nat), er ≠ 0 ∧ ln ≤ 1001 ∧ quad (lexRes a) = (ts, 0, 0, 0) ∧ quad (lexRes b) = ([], ln, co, er) ∧ quad (lexRes (a ++ [10] ++ b)) = ([], ln + (1 + a.count 10), co, er)) ∨
    (∃ ts us : List Tok, quad (lexRes a) = (ts, 0, 0, 0) ∧ quad (lexRes b) = (us, 0, 0, 0) ∧ (∀ t ∈ us, t.line ≤ 1001) ∧ quad (lexRes (a ++ [10] ++ b)) = (ts ++ us.map (shiftTok (1 + a.count 10)), 0, 0, 0)) := by
  rw [lexRes_small a (by omega), lexRes_small b (by omega), lexRes_small _ (by simp; omega), show a ++ [10] ++ b = a ++ 10 :: b by simp, lines]
  have h1 := split_bd a.length a (1, 1) (Nat.le_refl _)
  have h2 := split_bd b.length b (1, 1) (Nat.le_refl _)
  generalize split a (1, 1) = ra at *
  generalize split b (1, 1) = rb at *
  cases ra with
  | error e =>
    obtain ⟨x, y, z⟩ := e
    exact .inl ⟨x, y, z, h1.2, rfl, rfl⟩
  | ok ts =>
    cases rb with
    | error e =>
      obtain ⟨x, y, z⟩ := e
      have h3 : x ≤ 1 + b.length := h2.1
      exact .inr (.inl ⟨ts, x, y, z, h2.2, by omega, rfl, rfl, rfl⟩)
    | ok us =>
      refine .inr (.inr ⟨ts, us, rfl, rfl, fun t ht => ?_, rfl⟩)
      have h3 : t.line ≤ 1 + b.length := h2 t ht
      omega

theorem sCount_nl (s : ByteArray) (w : World) :
    Calls Try.prog 21 #[.string s, .string ⟨#[10]⟩] w fun e w' => e = .returned (.int .i64 (s.data.toList.count 10 : Nat)) ∧ w = w' := by
  go_enter Try.func21, Try.ntmps21
  have he := fun c w => run_callFunc_extern (w := w) Try.func46 (by kernel_rfl) (by kernel_rfl) (by kernel_rfl) (e := Extern.BytealgCount.count) (by kernel_rfl) #[.string s, .int .u8 c]
  simp only [Lib.run_countString, Result.andThen] at he
  go_wp2_with fail
  go_ret
  exact ⟨rfl, rfl⟩

theorem run_neq_ltok (w : World) (k l c k' l' c' : Int) (s s' : ByteArray) :
   (binOp .neq 38 (.agg #[.int .i64 k, .string s, .int .i64 l, .int .i64 c]) (.agg #[.int .i64 k', .string s', .int .i64 l', .int .i64 c'])).run Try.prog w = .ok (.bool (!(k == k' && (s.toList == s'.toList) && (l == l') && (c == c')))) w := by
  simp [go_sem]
  by_cases h1 : k = k' <;> by_cases h2 : s.toList = s'.toList <;> by_cases h3 : l = l' <;> by_cases h4 : c = c' <;> simp [h1, h2, h3, h4]

set_option maxHeartbeats 400000 in
theorem lequal_same (A B : Option Addr) (n ca cb : Nat) (ts : List Tok) (w : World) (hn : ts.length = n) (ha : Rd w 4 A n (toksCells ts)) (hb : Rd w 4 B n (toksCells ts)) (hm : n ≤ 65536) :
    Calls Try.prog 22 #[.slice A n ca, .slice B n cb] w fun e w' => e = .returned (.bool true) ∧ ∃ d, w' = w.drewN d := by
  have HN := Lib.hid hn
  have HA := Lib.hid ha
  have HB := Lib.hid hb
  have heq : ((n : Int) != n) = false := by simp
  have hneq := run_neq_ltok
  clear hn ha hb
  go_enter Try.func22, Try.ntmps22
  go_wp2_with fail
  go_loopg [13] n (fun k i wr => ∃ d j : Nat, wr = w.drewN d ∧ i = .int .i64 j ∧ j ≤ n ∧ k = n - j)
  case atStart => exact ⟨0, 0, rfl, rfl, by omega, by omega⟩
  case round =>
    obtain ⟨d, j, rfl, rfl, hj, rfl⟩ := hrel
    by_cases hlt : j < n
    · obtain ⟨b, o, hA, _, hca⟩ := HA.out.at_ (by omega)
      obtain ⟨b', o', hB, _, hcb⟩ := HB.out.at_ (by omega)
      subst hA hB
      obtain ⟨t, ht⟩ : ∃ t, ts[j]? = some t := ⟨_, List.getElem?_eq_getElem (by rw [HN.out]; exact hlt)⟩
      have x0 : w.cell? ⟨b, o + j * 4, none⟩ = some (.int .i64 t.kind) := hca (j * 4 + 0) _ (rtoks_at ts j t ht 0 (by omega))
      have x1 : w.cell? ⟨b, o + j * 4 + 1, none⟩ = some (.string ⟨t.text.toArray⟩) := hca (j * 4 + 1) _ (rtoks_at ts j t ht 1 (by omega))
      have x2 : w.cell? ⟨b, o + j * 4 + 2, none⟩ = some (.int .i64 t.line) := hca (j * 4 + 2) _ (rtoks_at ts j t ht 2 (by omega))
      have x3 : w.cell? ⟨b, o + j * 4 + 3, none⟩ = some (.int .i64 t.col) := hca (j * 4 + 3) _ (rtoks_at ts j t ht 3 (by omega))
      have y0 : w.cell? ⟨b', o' + j * 4, none⟩ = some (.int .i64 t.kind) := hcb (j * 4 + 0) _ (rtoks_at ts j t ht 0 (by omega))
      have y1 : w.cell? ⟨b', o' + j * 4 + 1, none⟩ = some (.string ⟨t.text.toArray⟩) := hcb (j * 4 + 1) _ (rtoks_at ts j t ht 1 (by omega))
      have y2 : w.cell? ⟨b', o' + j * 4 + 2, none⟩ = some (.int .i64 t.line) := hcb (j * 4 + 2) _ (rtoks_at ts j t ht 2 (by omega))
      have y3 : w.cell? ⟨b', o' + j * 4 + 3, none⟩ = some (.int .i64 t.col) := hcb (j * 4 + 3) _ (rtoks_at ts j t ht 3 (by omega))
      clear hca hcb ht
      have b0 : (0 : Int) ≤ j := by omega
      have b1 : (j : Int) < n := by omega
      go_wp2_with fail
      go_quiet (fail)
      go_wp2_with fail
      go_roundg (n - (j + 1))
      case measure => omega
      case rel => exact ⟨_, j + 1, rfl, by go_num, by omega, rfl⟩
    · go_wp2_with fail
      go_ret
      exact ⟨rfl, _, rfl⟩
theorem lequal_two (A B : Option Addr) (n m ca cb : Nat) (ts : List Tok) (w : World) (hn : ts.length = n) (hmn : m = n) (ha : Rd w 4 A n (toksCells ts)) (hb : Rd w 4 B m (toksCells ts)) (hm : n ≤ 65536) :
    Calls Try.prog 22 #[.slice A n ca, .slice B m cb] w fun e w' => e = .returned (.bool true) ∧ ∃ d, w' = w.drewN d := by
  subst hmn
  exact lequal_same A B m ca cb ts w hn ha hb hm

theorem below_grown {w w' : World} (h : Below w.heap.size w w') : w.grownBy w' none := ⟨h.os, h.tape, h.output, h.size, fun k hk _ => h.block k hk⟩
theorem own_below {w w' : World} {base size n : Nat} {e : TypeId} {v : Value} {xs : List Value} (h : w.ownsRow base e size v n xs) (hb : Below w.heap.size w w') : w'.ownsRow base e size v n xs := by
  cases hv : v.ownBlock with
  | none => exact h.kept (below_grown hb) (.inl hv)
  | some k => exact h.kept (below_grown hb) (.inr (by simp [hv]))
theorem own_apart {w w' : World} {base size n : Nat} {e : TypeId} {v : Value} {xs : List Value} {row : Option Nat} (h : w.ownsRow base e size v n xs) (hg : w.grownBy w' row) (hne : ∀ k, v.ownBlock = some k → some k ≠ row) : w'.ownsRow base e size v n xs := by
  cases hv : v.ownBlock with
  | none => exact h.kept hg (.inl hv)
  | some k => exact h.kept hg (.inr (by rw [hv]; exact hne k hv))

/-- The tokens of which the first j stand d lines further down. -/
def down (d j : Nat) (us : List Tok) : List Tok := (us.take j).map (shiftTok d) ++ us.drop j
theorem down_zero (d : Nat) (us : List Tok) : down d 0 us = us := by simp [down]
theorem down_all (d : Nat) (us : List Tok) : down d us.length us = us.map (shiftTok d) := by simp [down]
theorem down_len (d j : Nat) (us : List Tok) : (down d j us).length = us.length := by
  rw [down, List.length_append, List.length_map, ← List.length_append, List.take_append_drop]
theorem down_at (d j : Nat) (us : List Tok) (t : Tok) (h : us[j]? = some t) : (down d j us)[j]? = some t := by
  have hj := (List.getElem?_eq_some_iff.1 h).1
  rw [down, List.getElem?_append_right (by simp; omega), List.length_map, List.length_take, Nat.min_eq_left (by omega), Nat.sub_self, List.getElem?_drop]
  simpa using h
theorem toks_app (a b : List Tok) : toksCells (a ++ b) = toksCells a ++ toksCells b := by
  simp [toksCells]
theorem down_step (d j : Nat) (us : List Tok) (t : Tok) (h : us[j]? = some t) :
    (toksCells (down d j us)).set (j * 4 + 2) (.int .i64 ((t.line : Int) + (d : Nat))) = toksCells (down d (j + 1) us) := by
  have hj := (List.getElem?_eq_some_iff.1 h).1
  have e1 : us.drop j = t :: us.drop (j + 1) := by
    rw [List.drop_eq_getElem_cons hj]
    congr 1
    exact (List.getElem?_eq_some_iff.1 h).2
  have e2 : us.take (j + 1) = us.take j ++ [t] := toks_take us j t h
  have hl : (toksCells ((us.take j).map (shiftTok d))).length = j * 4 := by
    rw [toks_len, List.length_map, List.length_take, Nat.min_eq_left (by omega)]
  unfold down
  rw [e1, e2, List.map_append, toks_app, toks_app, toks_app, List.set_append_right _ _ (by omega), hl, Nat.add_sub_cancel_left, List.append_assoc]
  congr 1

def LineRel (w : World) (ts us zs : List Tok) (d b1 b2 b3 : Nat) (A1 A2 A3 : Option Addr) (c1 c2 c3 : Nat) (k : Nat) (iv : Value) (wr : World) : Prop :=
  ∃ j : Nat, iv = .int .i64 j ∧ j ≤ us.length ∧ k = us.length - j ∧
    Hid (wr.ownsRow b1 38 4 (.slice A1 ts.length c1) ts.length (toksCells ts)) ∧
    Hid (wr.ownsRow b2 38 4 (.slice A2 us.length c2) us.length (toksCells (down d j us))) ∧
    Hid (wr.ownsRow b3 38 4 (.slice A3 zs.length c3) zs.length (toksCells zs)) ∧
    Hid (Below w.heap.size w wr) ∧ b3 ≤ wr.heap.size
end Go.Proofs.Ytgneahnjdoffdaa
