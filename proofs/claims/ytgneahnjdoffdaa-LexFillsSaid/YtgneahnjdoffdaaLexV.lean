/-
  Walks: tokens with any numbers; 'alike'; 'Valid'.
-/
import Derived.Test.YtgneahnjdoffdaaLexU
namespace Go.Proofs.Ytgneahnjdoffdaa
open Go.RowKit Go.Fl Go.Fl.Lx

/-- A token as it may come in: any numbers. -/
structure TI where
  kind : Int
  text : List UInt8
  line : Int
  col : Int
def TI.cells (t : TI) : List Value := [.int .i64 t.kind, .string ⟨t.text.toArray⟩, .int .i64 t.line, .int .i64 t.col]
def tiCells (l : List TI) : List Value := l.flatMap TI.cells
def tiOf (t : Tok) : TI := ⟨t.kind, t.text, t.line, t.col⟩
theorem tiCells_of (ts : List Tok) : tiCells (ts.map tiOf) = toksCells ts := by
  induction ts with
  | nil => rfl
  | cons t ts ih => simp only [List.map_cons, tiCells, toksCells, List.flatMap_cons] at *; rw [ih]; rfl
theorem ti_at (l : List TI) (k : Nat) (t : TI) (h : l[k]? = some t) (j : Nat) (hj : j < 4) : (tiCells l)[k * 4 + j]? = t.cells[j]? := by
  induction l generalizing k with
  | nil => simp at h
  | cons t' l ih =>
    have e : tiCells (t' :: l) = t'.cells ++ tiCells l := rfl
    have hl : t'.cells.length = 4 := rfl
    rw [e]
    cases k with
    | zero =>
      simp at h
      subst h
      rw [Nat.zero_mul, Nat.zero_add, List.getElem?_append_left (by omega)]
    | succ k =>
      simp at h
      rw [List.getElem?_append_right (by omega), ← ih k h, hl]
      congr 1; omega

/-- The same but for the places. -/
def same2 (a b : TI) : Prop := a.kind = b.kind ∧ a.text = b.text

theorem alike1_same (k : Int) (s : ByteArray) (l c l' c' : Int) (w : World) :
    Calls Try.prog 44 #[.agg #[.int .i64 k, .string s, .int .i64 l, .int .i64 c], .agg #[.int .i64 k, .string s, .int .i64 l', .int .i64 c']] w fun e w' => e = .returned (.bool true) ∧ Below w.heap.size w w' := by
  have e1 : (k == k) = true := by simp
  have e2 : (s.toList == s.toList) = true := by simp
  go_enter Try.func44, Try.ntmps44
  go_wp2_with fail
  go_ret
  exact ⟨ret_bool (by simp), ((Below.refl _ _).alloc (Nat.le_refl _) _).alloc (by simp) _⟩

set_option maxHeartbeats 400000 in
theorem equalFunc_same (A B : Option Addr) (n ca cb : Nat) (xs ys : List TI) (w : World) (hn : xs.length = n) (hn2 : ys.length = n) (hs : ∀ (j : Nat) (a b : TI), xs[j]? = some a → ys[j]? = some b → same2 a b)
    (ha : Rd w 4 A n (tiCells xs)) (hb : Rd w 4 B n (tiCells ys)) (hm : n ≤ 65536) :
    Calls Try.prog 43 #[.slice A n ca, .slice B n cb, .func (.func 44) #[] #[]] w fun e w' => e = .returned (.bool true) ∧ Below w.heap.size w w' := by
  have HN := Lib.hid hn
  have HN2 := Lib.hid hn2
  have HA := Lib.hid ha
  have HB := Lib.hid hb
  have HS := Lib.hid hs
  have heq : ((n : Int) != n) = false := by simp
  clear hn hn2 ha hb hs
  go_enter Try.func43, Try.ntmps43
  go_wp2_with fail
  go_loopg [17] n (fun k i wr => ∃ j : Nat, i = .int .i64 j ∧ j ≤ n ∧ k = n - j ∧ Hid (Below w.heap.size w wr))
  case atStart => exact ⟨0, rfl, by omega, by omega, Below.refl _ _⟩
  case round =>
    obtain ⟨j, rfl, hj, rfl, HL⟩ := hrel
    have hls := HL.out.size
    by_cases hlt : j < n
    · obtain ⟨b, o, hA, hbl, hca⟩ := HA.out.at_ (by omega)
      obtain ⟨b', o', hB, hbl', hcb⟩ := HB.out.at_ (by omega)
      subst hA hB
      obtain ⟨t, ht⟩ : ∃ t, xs[j]? = some t := ⟨_, List.getElem?_eq_getElem (by rw [HN.out]; exact hlt)⟩
      obtain ⟨t', ht'⟩ : ∃ t, ys[j]? = some t := ⟨_, List.getElem?_eq_getElem (by rw [HN2.out]; exact hlt)⟩
      obtain ⟨k, tx, ln, co⟩ := t
      obtain ⟨k', tx', ln', co'⟩ := t'
      obtain ⟨rfl, rfl⟩ : k = k' ∧ tx = tx' := HS.out j _ _ ht ht'
      have x0 : wr.cell? ⟨b, o + j * 4, none⟩ = some (.int .i64 k) := (HL.out.cell (p := ⟨b, _, none⟩) hbl).trans (hca (j * 4 + 0) _ (ti_at xs j _ ht 0 (by omega)))
      have x1 : wr.cell? ⟨b, o + j * 4 + 1, none⟩ = some (.string ⟨tx.toArray⟩) := (HL.out.cell (p := ⟨b, _, none⟩) hbl).trans (hca (j * 4 + 1) _ (ti_at xs j _ ht 1 (by omega)))
      have x2 : wr.cell? ⟨b, o + j * 4 + 2, none⟩ = some (.int .i64 ln) := (HL.out.cell (p := ⟨b, _, none⟩) hbl).trans (hca (j * 4 + 2) _ (ti_at xs j _ ht 2 (by omega)))
      have x3 : wr.cell? ⟨b, o + j * 4 + 3, none⟩ = some (.int .i64 co) := (HL.out.cell (p := ⟨b, _, none⟩) hbl).trans (hca (j * 4 + 3) _ (ti_at xs j _ ht 3 (by omega)))
      have y0 : ∀ ob, (wr.alloc ob).cell? ⟨b', o' + j * 4, none⟩ = some (.int .i64 k) := fun ob => (World.cell?_alloc_lt wr ob ⟨b', _, none⟩ (by simp; omega)).trans ((HL.out.cell (p := ⟨b', _, none⟩) hbl').trans (hcb (j * 4 + 0) _ (ti_at ys j _ ht' 0 (by omega))))
      have y1 : ∀ ob, (wr.alloc ob).cell? ⟨b', o' + j * 4 + 1, none⟩ = some (.string ⟨tx.toArray⟩) := fun ob => (World.cell?_alloc_lt wr ob ⟨b', _, none⟩ (by simp; omega)).trans ((HL.out.cell (p := ⟨b', _, none⟩) hbl').trans (hcb (j * 4 + 1) _ (ti_at ys j _ ht' 1 (by omega))))
      have y2 : ∀ ob, (wr.alloc ob).cell? ⟨b', o' + j * 4 + 2, none⟩ = some (.int .i64 ln') := fun ob => (World.cell?_alloc_lt wr ob ⟨b', _, none⟩ (by simp; omega)).trans ((HL.out.cell (p := ⟨b', _, none⟩) hbl').trans (hcb (j * 4 + 2) _ (ti_at ys j _ ht' 2 (by omega))))
      have y3 : ∀ ob, (wr.alloc ob).cell? ⟨b', o' + j * 4 + 3, none⟩ = some (.int .i64 co') := fun ob => (World.cell?_alloc_lt wr ob ⟨b', _, none⟩ (by simp; omega)).trans ((HL.out.cell (p := ⟨b', _, none⟩) hbl').trans (hcb (j * 4 + 3) _ (ti_at ys j _ ht' 3 (by omega))))
      clear hca hcb ht ht'
      generalize (⟨tx.toArray⟩ : ByteArray) = tb at *
      go_wp2_with fail
      refine (alike1_same _ _ _ _ _ _ _).mono ?_
      rintro e w2 ⟨rfl, hb2⟩
      have HL2 := Lib.hid (show Below w.heap.size w w2 from ((HL.out.alloc (by omega) _).alloc (by simp; omega) _).trans (hb2.mono (by simp; omega)))
      clear hb2
      go_wp2_with fail
      go_roundg (n - (j + 1))
      case measure => omega
      case rel => exact ⟨j + 1, by go_num, by omega, rfl, HL2.out⟩
    · go_wp2_with fail
      go_ret
      exact ⟨rfl, HL.out⟩

theorem alike_same (A B : Option Addr) (n m ca cb : Nat) (xs ys : List TI) (w : World) (hn : xs.length = n) (hn2 : ys.length = m) (hnm : n = m) (hs : ∀ (j : Nat) (a b : TI), xs[j]? = some a → ys[j]? = some b → same2 a b)
    (ha : Rd w 4 A n (tiCells xs)) (hb : Rd w 4 B m (tiCells ys)) (hm : n ≤ 65536) :
    Calls Try.prog 20 #[.slice A n ca, .slice B m cb] w fun e w' => e = .returned (.bool true) ∧ Below w.heap.size w w' := by
  subst hnm
  have HS := Lib.hid hs
  clear hs
  go_enter Try.func20, Try.ntmps20
  go_wp2_with fail
  refine (equalFunc_same A B n ca cb xs ys w hn hn2 HS.out ha hb hm).mono ?_
  rintro e w2 ⟨rfl, hb2⟩
  go_wp2_with fail
  go_ret
  exact ⟨rfl, hb2⟩

/-- Which tokens are valid. -/
def validP (k : Int) (l : List UInt8) : Bool :=
  if k == 3 then (match l with | [c] => isSym c | _ => false) else (kindOf l).1 != 0 && ((kindOf l).1 : Int) == k

set_option maxHeartbeats 800000 in
theorem rvalid_any (k : Int) (s : ByteArray) (l c : Int) (w : World) (hs : s.size ≤ maxLen) :
    Calls Try.prog 19 #[.agg #[.int .i64 k, .string s, .int .i64 l, .int .i64 c]] w fun e w' => e = .returned (.bool (validP k s.data.toList)) ∧ Below w.heap.size w w' := by
  have hs' := hs
  unfold maxLen at hs'
  by_cases h3 : k = 3
  · have h3' : (k == 3) = true := by simpa using h3
    by_cases h1 : s.size = 1
    · obtain ⟨b, hb⟩ : ∃ b, s.data.toList = [b] := by
        have : s.data.toList.length = 1 := by rw [length_data]; exact h1
        match hh : s.data.toList, this with
        | [b], _ => exact ⟨b, rfl⟩
      have h1' : ((s.size : Int) == 1) = true := by rw [h1]; rfl
      have h0 : 0 < s.size := by omega
      have HF := Lib.hid (show validP k s.data.toList = isSym s[0] by
        have : s[0] = b := by
          have := rest_cons s h0
          rw [hb] at this
          injection this with h _
          exact h.symm
        unfold validP
        rw [h3', hb, this]; rfl)
      clear h1 hb h3
      go_enter Try.func19, Try.ntmps19
      go_wp2_with (go_at_call 40; refine (within_sym _ _).mono ?_; rintro e w' ⟨rfl, rfl⟩)
      go_ret
      exact ⟨ret_bool (by rw [HF.out]), (Below.refl _ _).alloc (Nat.le_refl _) _⟩
    · have h1' : ((s.size : Int) == 1) = false := by rw [beq_eq_false_iff_ne]; omega
      have HF := Lib.hid (show validP k s.data.toList = false by
        unfold validP
        rw [h3', if_pos rfl]
        split
        · rename_i b hb
          exfalso
          have := congrArg List.length hb
          rw [length_data] at this
          exact h1 (by simpa using this)
        · rfl)
      clear h1 h3
      go_enter Try.func19, Try.ntmps19
      go_wp2_with fail
      go_ret
      exact ⟨ret_bool (by rw [HF.out]), (Below.refl _ _).alloc (Nat.le_refl _) _⟩
  · have h3' : (k == 3) = false := by simpa using h3
    have HE := Lib.hid (show validP k s.data.toList = ((kindOf s.data.toList).1 != 0 && ((kindOf s.data.toList).1 : Int) == k) by unfold validP; rw [h3']; rfl)
    obtain ⟨kd, er, hke⟩ : ∃ kd er, kindOf s.data.toList = (kd, er) := ⟨_, _, rfl⟩
    rw [hke] at HE
    have HK := Lib.hid hke
    clear hke h3
    by_cases h0 : kd = 0
    · have h0' : ((kd : Int) != 0) = false := by rw [h0]; rfl
      have H0 := Lib.hid h0
      clear h0
      go_enter Try.func19, Try.ntmps19
      go_wp2_with fail
      refine (rkind_any _ _ hs).mono ?_
      rw [HK.out]
      rintro e w' ⟨rfl, rfl⟩
      go_wp2_with fail
      go_ret
      exact ⟨ret_bool (by rw [HE.out, H0.out]; simp), (Below.refl _ _).alloc (Nat.le_refl _) _⟩
    · have h0' : ((kd : Int) != 0) = true := by rw [bne_iff_ne]; omega
      have H0 := Lib.hid h0
      clear h0
      go_enter Try.func19, Try.ntmps19
      go_wp2_with fail
      refine (rkind_any _ _ hs).mono ?_
      rw [HK.out]
      rintro e w' ⟨rfl, rfl⟩
      go_wp2_with fail
      go_ret
      exact ⟨ret_bool (by rw [HE.out]; simp [H0.out]), (Below.refl _ _).alloc (Nat.le_refl _) _⟩
end Go.Proofs.Ytgneahnjdoffdaa
