/-
  The plain model of the lexer: numbers, as the reference counts them.
  Walks: the reference's functions on bytes and runs.
  A block that is known whole, and the world in which it is written. Of no program.
  The walk of the reference's Split.
  Walks: bytes' classes, words, digits, numbers, kinds.
  Walks: digits, words.
  Walks: strings.Cut at a point; numbers; kinds of runs.
  Walks: the scanner.
-/
import Derived.Test.YtkjoohnndobjeaaGreatDoorQA
import Derived.Test.YtkjoohnndobjeaaGreatDoorProg
import Derived.Deep.RegionHeld3
import Derived.Deep.AppendLies
import Derived.Deep.LoopGhost
import Derived.Deep.DrawnRows
import Derived.StillTailTactics
set_option linter.unusedVariables false
namespace Go.Fl.Lx
open Go.Fl

def inNum (c : UInt8) : Bool := c == 46 || isDigit c

theorem split_point (l : List UInt8) (h : 46 ∈ l) : ∃ b, l = l.takeWhile (· != 46) ++ 46 :: b ∧ l.dropWhile (· != 46) = 46 :: b ∧ 46 ∉ l.takeWhile (· != 46) := by
  rcases indexByte_spec l 46 with ⟨h1, _⟩ | ⟨_, i, _, h3, h4, h5, h6⟩
  · exact absurd h h1
  · refine ⟨l.drop (i + 1), ?_, by rw [h5, h6], ?_⟩
    · have e := List.takeWhile_append_dropWhile (p := (· != 46)) (l := l)
      rw [h5, h6] at e
      exact e.symm
    · intro hm
      have := List.all_takeWhile (p := (· != 46)) (l := l)
      rw [List.all_eq_true] at this
      have := this 46 hm
      simp at this

/-- Not all bytes are digits or points: no number. -/
theorem numN_bad (l : List UInt8) (c : UInt8) (hc : c ∈ l) (h : inNum c = false) : numN l = 0 := by
  unfold inNum at h
  simp only [Bool.or_eq_false_iff, beq_eq_false_iff_ne] at h
  by_cases hp : 46 ∈ l
  · obtain ⟨b, e, hd, _⟩ := split_point l hp
    unfold numN
    rw [hd]
    simp only
    rw [if_neg]
    intro hh
    rw [Bool.and_eq_true] at hh
    unfold digitsP at hh
    simp only [Bool.and_eq_true, List.all_eq_true] at hh
    rw [e] at hc
    rcases List.mem_append.1 hc with h1 | h1
    · have := hh.1.1 c h1; rw [h.2] at this; cases this
    · rcases List.mem_cons.1 h1 with h2 | h2
      · exact h.1 h2
      · have := hh.2.1 c h2; rw [h.2] at this; cases this
  · unfold numN
    rw [(takeWhile_not_mem _ _ hp).2]
    simp only
    rw [if_neg]
    intro hh
    unfold digitsP at hh
    simp only [Bool.and_eq_true, List.all_eq_true] at hh
    have := hh.1 c hc
    rw [h.2] at this; cases this

theorem numN_word (l : List UInt8) (h : wordP l = true) : numN l = 0 := by
  cases l with
  | nil => exact absurd h (by decide)
  | cons c l =>
    have hl : isLetter c = true := by simp [wordP, headLetter] at h; exact h.1
    have := u8_all (p := fun c => !isLetter c || !inNum c) (by decide +kernel) c
    rw [hl] at this
    exact numN_bad _ c (by simp) (by simpa using this)

/-- The kind of a run, as the reference finds it. -/
theorem kindOf_ref (l : List UInt8) :
    kindOf l = if wordP l then (if 20 < l.length then (0, 5) else (1, 0)) else if numN l = 0 then (0, 3) else if 18 < numN l then (0, 5) else (2, 0) := by
  unfold kindOf
  by_cases hw : wordP l = true
  · have := numN_word l hw
    simp [hw, this]
  · simp only [hw]
    by_cases h0 : numN l = 0
    · simp [h0]
    · by_cases h18 : 18 < numN l
      · simp [h18, h0]
      · simp [h18, h0]
end Go.Fl.Lx
namespace Go.Proofs.YtkjoohnndobjeaaGreatDoor
open Go.RowKit Go.Fl Go.Fl.Lx

end Go.Proofs.YtkjoohnndobjeaaGreatDoor
namespace Go.Fl
open Go.RowKit

/-- Block g is just the cells cs of element type t, none frozen. -/
def Blk (w : World) (g : Nat) (t : TypeId) (cs : Array Value) : Prop := w.heap[g]? = some (.cells cs t (0, 0))
/-- The world with block g written anew. -/
def putB (w : World) (g : Nat) (t : TypeId) (cs : Array Value) : World := { w with heap := w.heap.setIfInBounds g (.cells cs t (0, 0)) }

section
variable {w w' : World} {g : Nat} {t : TypeId} {cs cs' : Array Value}
theorem Blk.lt (h : Blk w g t cs) : g < w.heap.size := by
  rcases Nat.lt_or_ge g w.heap.size with hlt | hge
  · exact hlt
  · unfold Blk at h; rw [Array.getElem?_eq_none hge] at h; cases h
theorem Blk.cell (h : Blk w g t cs) (i : Nat) : w.cell? ⟨g, i, none⟩ = cs[i]? := cell_of_row w g i cs t (0, 0) h
theorem Blk.frozen (h : Blk w g t cs) (i : Nat) : w.frozen? ⟨g, i, none⟩ = false := by
  unfold Blk at h
  simp [World.frozen?, h]
theorem Blk.put (h : Blk w g t cs) (cs' : Array Value) : Blk (putB w g t cs') g t cs' := by
  have := h.lt
  unfold Blk putB
  simp [this]
theorem Blk.setCell_eq (h : Blk w g t cs) (i : Nat) (v : Value) : w.setCell ⟨g, i, none⟩ v = putB w g t (cs.setIfInBounds i v) := by
  have hlt := h.lt
  unfold Blk at h
  unfold putB World.setCell
  congr 1
  apply Array.ext_getElem?
  intro k
  rw [Array.getElem?_modify, Array.getElem?_setIfInBounds]
  by_cases hk : g = k
  · subst hk; rw [if_pos rfl, if_pos rfl, if_pos hlt, h]; rfl
  · simp [hk]
theorem putB_putB (w : World) (g : Nat) (t : TypeId) (cs cs' : Array Value) : putB (putB w g t cs) g t cs' = putB w g t cs' := by
  unfold putB
  simp
theorem Blk.put_self (h : Blk w g t cs) : putB w g t cs = w := by
  have hlt := h.lt
  unfold Blk at h
  unfold putB
  have : w.heap.setIfInBounds g (.cells cs t (0, 0)) = w.heap := by
    apply Array.ext_getElem?
    intro k
    rw [Array.getElem?_setIfInBounds]
    by_cases hk : g = k
    · subst hk; rw [if_pos rfl, if_pos hlt, h]
    · simp [hk]
  rw [this]
theorem putB_size (w : World) (g : Nat) (t : TypeId) (cs : Array Value) : (putB w g t cs).heap.size = w.heap.size := by simp [putB]
theorem putB_grown (w : World) (g : Nat) (t : TypeId) (cs : Array Value) : w.grownBy (putB w g t cs) (some g) :=
  ⟨rfl, rfl, rfl, by simp [putB], fun k _ hk => by
    unfold putB
    rw [Array.getElem?_setIfInBounds, if_neg (fun e => hk (by rw [e]))]⟩
theorem putB_below {B : Nat} (w : World) (g : Nat) (t : TypeId) (cs : Array Value) (h : B ≤ g) : Below B w (putB w g t cs) :=
  ⟨rfl, rfl, rfl, by simp [putB], fun k hk => by
    unfold putB
    rw [Array.getElem?_setIfInBounds, if_neg (by omega)]⟩
theorem Blk.drewN (h : Blk w g t cs) (n : Nat) : Blk (w.drewN n) g t cs := h
theorem Blk.drew (h : Blk w g t cs) : Blk w.drew g t cs := h
theorem Blk.new (w : World) (t : TypeId) (cs : Array Value) : Blk (w.alloc (.cells cs t)) w.heap.size t cs := heap_alloc_new w _
theorem Blk.alloc (h : Blk w g t cs) (o : Obj) : Blk (w.alloc o) g t cs := (Below.heap_alloc w o g h.lt).trans h
theorem Blk.below {B : Nat} (h : Blk w g t cs) (hb : Below B w w') (hg : g < B) : Blk w' g t cs := (hb.block g hg).trans h
theorem Blk.grown {row : Option Nat} (h : Blk w g t cs) (hb : w.grownBy w' row) (hg : some g ≠ row) : Blk w' g t cs := (hb.block g h.lt hg).trans h
theorem Blk.far {g' : Nat} {t' : TypeId} (h : Blk w g t cs) (hp : g ≠ g') (cs' : Array Value) : Blk (putB w g' t' cs') g t cs := by
  unfold Blk putB at *
  rw [Array.getElem?_setIfInBounds, if_neg (fun e => hp e.symm)]
  exact h
theorem own_putB {base size n : Nat} {e : TypeId} {v : Value} {xs : List Value} (h : w.ownsRow base e size v n xs) (hg : g < base) (t : TypeId) (cs : Array Value) : (putB w g t cs).ownsRow base e size v n xs :=
  h.kept (putB_grown w g t cs) (by
    cases hv : v.ownBlock with
    | none => exact .inl rfl
    | some k =>
      right
      intro e
      have := (h.lt k hv).1
      injection e with e
      omega)
theorem only_drew {a x : World} {row : Option Nat} (h : a.grownBy x row) : a.grownBy x.drew row := ⟨h.os, h.tape, h.output, h.size, h.block⟩
theorem only_drewN_alloc (x : World) (n : Nat) (o : Obj) (row : Option Nat) : x.grownBy ((x.drewN n).alloc o) row :=
  have h := World.grownBy_alloc (x.drewN n) o row
  ⟨h.os, h.tape, h.output, h.size, h.block⟩
theorem below_drewN {B : Nat} {a x : World} (h : Below B a x) (n : Nat) : Below B a (x.drewN n) := ⟨h.os, h.tape, h.output, h.size, h.block⟩
end
end Go.Fl
namespace Go.Proofs.YtkjoohnndobjeaaGreatDoor
open Go.RowKit Go.Fl Go.Fl.Lx

def rtokCells (t : Tok) : List Value := [.int .i64 t.kind, .string ⟨t.text.toArray⟩, .int .i64 t.line, .int .i64 t.col]
def rtoksCells (l : List Tok) : List Value := l.flatMap rtokCells
section
variable {w wr : World} {s : ByteArray} {i n ln co : Nat} {toks : List Tok} {ov : Value}
end

end Go.Proofs.YtkjoohnndobjeaaGreatDoor
namespace Go.Proofs.YtkjoohnndobjeaaGreatDoor
open Go.RowKit Go.Fl Go.Fl.Lx

theorem slIndexByte (s : ByteArray) (c : Int) (w : World) :
    Calls Tryz.prog 105 #[.string s, .int .u8 c] w fun e w' => e = .returned (.int .i64 (Lib.indexByte s.data.toList c.toNat.toUInt8)) ∧ w = w' := by
  go_enter Tryz.func105, Tryz.ntmps105
  have he := fun w => run_callFunc_extern (w := w) Tryz.func134 (by kernel_rfl) (by kernel_rfl) (by kernel_rfl) (e := Extern.BytealgIndexByte.indexByte) (by kernel_rfl) #[.string s, .int .u8 c]
  simp only [Lib.run_indexByteString, Result.andThen] at he
  go_wp2_with fail
  go_ret
  exact ⟨rfl, rfl⟩

theorem sIndexByte (s : ByteArray) (c : Int) (w : World) :
    Calls Tryz.prog 61 #[.string s, .int .u8 c] w fun e w' => e = .returned (.int .i64 (Lib.indexByte s.data.toList c.toNat.toUInt8)) ∧ w = w' := by
  go_enter Tryz.func61, Tryz.ntmps61
  go_wp2_with (go_at_call 105; refine (slIndexByte _ _ _).mono ?_; rintro e w' ⟨rfl, rfl⟩)
  go_ret
  exact ⟨rfl, rfl⟩


theorem u8_ofNat (b : UInt8) : (b.toNat : Int).toNat.toUInt8 = b := by simp

theorem class_any (b : UInt8) (w : World) :
    Calls Tryz.prog 59 #[.int .u8 b.toNat] w fun e w' => e = .returned (.int .i64 (cls b)) ∧ w = w' := by
  have hlt : (b.toNat : Int) < 256 := by have := b.toNat_lt; omega
  have h0 : (0 : Int) ≤ b.toNat := by omega
  obtain ⟨c, hc⟩ : ∃ c : Int, c = b.toNat := ⟨_, rfl⟩
  have HC := Lib.hid hc
  rw [← hc] at hlt h0 ⊢
  have HB := Lib.hid (show c.toNat.toUInt8 = b by rw [hc]; exact u8_ofNat b)
  have HIX := Lib.hid (show (0 ≤ Lib.indexByte syms b) ↔ isSym b = true by rw [indexByte_nonneg]; unfold isSym; simp)
  have hbn : b.toNat = c.toNat := by omega
  have HBN := Lib.hid hbn
  clear hc hbn
  by_cases g1 : c = 32 ∨ c = 9 ∨ c = 13 ∨ c = 10
  · have HR := Lib.hid (show cls b = 1 by rw [← HB.out]; rcases g1 with h | h | h | h <;> rw [h] <;> decide)
    rcases g1 with rfl | rfl | rfl | rfl
    all_goals
      go_enter Tryz.func59, Tryz.ntmps59
      go_wp2_with fail
      go_ret
      exact ⟨by rw [HR.out]; rfl, rfl⟩
  have e1 : (c == 32) = false := by rw [beq_eq_false_iff_ne]; omega
  have e2 : (c == 9) = false := by rw [beq_eq_false_iff_ne]; omega
  have e3 : (c == 13) = false := by rw [beq_eq_false_iff_ne]; omega
  have e4 : (c == 10) = false := by rw [beq_eq_false_iff_ne]; omega
  have HNB := Lib.hid (show isBlank b = false by simp [isBlank, ← UInt8.toNat_inj]; rw [HBN.out]; omega)
  clear g1
  by_cases g2 : (97 ≤ c ∧ c ≤ 122) ∨ (65 ≤ c ∧ c ≤ 90)
  · have HL := Lib.hid (show isLetter b = true by simp [isLetter, UInt8.le_iff_toNat_le]; rw [HBN.out]; omega)
    have HR := Lib.hid (show cls b = 2 by simp [cls, HNB.out, HL.out])
    rcases g2 with ⟨g2, g3⟩ | ⟨g2, g3⟩
    all_goals
      go_enter Tryz.func59, Tryz.ntmps59
      go_wp2_with fail
      go_ret
      exact ⟨by rw [HR.out]; rfl, rfl⟩
  have HNL := Lib.hid (show isLetter b = false by simp [isLetter, UInt8.le_iff_toNat_le]; rw [HBN.out]; omega)
  by_cases g3 : 48 ≤ c ∧ c ≤ 57
  · have HL := Lib.hid (show isDigit b = true by simp [isDigit, UInt8.le_iff_toNat_le]; rw [HBN.out]; omega)
    have HR := Lib.hid (show cls b = 3 by simp [cls, HNB.out, HL.out, HNL.out])
    obtain ⟨g3, g4⟩ := g3
    clear g2
    go_enter Tryz.func59, Tryz.ntmps59
    go_wp2_with fail
    go_ret
    exact ⟨by rw [HR.out]; rfl, rfl⟩
  have HND := Lib.hid (show isDigit b = false by simp [isDigit, UInt8.le_iff_toNat_le]; rw [HBN.out]; omega)
  by_cases g4 : c = 95
  · have HR := Lib.hid (show cls b = 4 by rw [← HB.out, g4]; decide)
    subst g4
    go_enter Tryz.func59, Tryz.ntmps59
    go_wp2_with fail
    go_ret
    exact ⟨by rw [HR.out]; rfl, rfl⟩
  by_cases g5 : c = 46
  · have HR := Lib.hid (show cls b = 5 by rw [← HB.out, g5]; decide)
    subst g5
    go_enter Tryz.func59, Tryz.ntmps59
    go_wp2_with fail
    go_ret
    exact ⟨by rw [HR.out]; rfl, rfl⟩
  have HN4 := Lib.hid (show (b == 95) = false by simp [← UInt8.toNat_inj]; rw [HBN.out]; omega)
  have HN5 := Lib.hid (show (b == 46) = false by simp [← UInt8.toNat_inj]; rw [HBN.out]; omega)
  have HR := Lib.hid (show cls b = if isSym b then 6 else 0 by simp [cls, HNB.out, HNL.out, HND.out, HN4.out, HN5.out])
  have e5 : (c == 95) = false := by rw [beq_eq_false_iff_ne]; omega
  have e6 : (c == 46) = false := by rw [beq_eq_false_iff_ne]; omega
  have hx : Lib.indexByte syms b = Lib.indexByte [40, 41, 91, 93, 123, 125, 44, 59, 58, 39, 61, 43, 45, 42, 47, 94] c.toNat.toUInt8 := by rw [HB.out]; rfl
  have HX := Lib.hid hx
  clear hx
  rcases (by omega : c < 48 ∨ (58 ≤ c ∧ c ≤ 64) ∨ (91 ≤ c ∧ c ≤ 96) ∨ 123 ≤ c) with h | ⟨h, h'⟩ | ⟨h, h'⟩ | h
  all_goals
    clear g2 g3 g4 g5
    go_enter Tryz.func59, Tryz.ntmps59
    go_wp2_with (go_at_call 61; refine (sIndexByte _ _ _).mono ?_; rintro e w' ⟨rfl, rfl⟩)
    · have hh : 0 ≤ Lib.indexByte [40, 41, 91, 93, 123, 125, 44, 59, 58, 39, 61, 43, 45, 42, 47, 94] c.toNat.toUInt8 := by assumption
      go_ret
      exact ⟨by rw [HR.out, if_pos (HIX.out.1 (by rw [HX.out]; exact hh))]; rfl, rfl⟩
    · have hh : Lib.indexByte [40, 41, 91, 93, 123, 125, 44, 59, 58, 39, 61, 43, 45, 42, 47, 94] c.toNat.toUInt8 < 0 := by assumption
      go_ret
      exact ⟨by rw [HR.out, if_neg (fun h => by have := HIX.out.2 h; rw [HX.out] at this; omega)]; rfl, rfl⟩
end Go.Proofs.YtkjoohnndobjeaaGreatDoor
namespace Go.Proofs.YtkjoohnndobjeaaGreatDoor
open Go.RowKit Go.Fl Go.Fl.Lx

set_option maxHeartbeats 400000 in
theorem digits_any (s : ByteArray) (w : World) (hs : s.size ≤ maxLen) :
    Calls Tryz.prog 136 #[.string s] w fun e w' => e = .returned (.bool (digitsP s.data.toList)) ∧ w = w' := by
  unfold maxLen at hs
  go_enter Tryz.func136, Tryz.ntmps136
  go_wp2_with fail
  go_loop [6] (fun i => ∃ k : Nat, k ≤ s.size ∧ i = .int .i64 k ∧ (s.data.toList.take k).all isDigit = true) (fun i => s.size - (intOf i).toNat)
  case atStart => exact ⟨0, Nat.zero_le _, rfl, rfl⟩
  case round =>
    obtain ⟨k, hk, rfl, hall⟩ := hrel
    have HA := Lib.hid hall
    clear hall
    by_cases hlt : k < s.size
    · have HT := Lib.hid (take_snoc s k hlt)
      have HC := Lib.hid (cls_ne3 s[k])
      by_cases hd : isDigit s[k] = true
      · have hcc : (((cls s[k] : Nat) : Int) != 3) = false := by rw [HC.out, hd]; rfl
        have HD := Lib.hid hd
        clear hd
        go_wp2_with (go_at_call 59; refine (class_any _ _).mono ?_; rintro e w' ⟨rfl, rfl⟩)
        go_round
        case rel => exact ⟨k + 1, by omega, by go_num, by rw [HT.out]; simp [HA.out, HD.out]⟩
        case measure => simp [intOf]; omega
      · have hcc : (((cls s[k] : Nat) : Int) != 3) = true := by rw [HC.out]; simpa using hd
        have HD := Lib.hid hd
        clear hd
        go_wp2_with (go_at_call 59; refine (class_any _ _).mono ?_; rintro e w' ⟨rfl, rfl⟩)
        go_ret
        refine ⟨ret_bool ?_, rfl⟩
        have hm : s[k] ∈ s.data.toList := List.getElem_mem (l := s.data.toList) (by simpa using hlt)
        have : s.data.toList.all isDigit = false := by rw [List.all_eq_false]; exact ⟨_, hm, HD.out⟩
        simp [digitsP, this]
    · have HT := Lib.hid (take_all s k hlt)
      go_wp2_with fail
      go_ret
      refine ⟨ret_bool ?_, rfl⟩
      rw [isEmpty_data]
      have := HA.out
      rw [HT.out] at this
      simp [digitsP, this]

theorem headLetter_of (s : ByteArray) (h : 0 < s.size) : headLetter s.data.toList = isLetter s[0] := by
  have := drop_cons s 0 h
  rw [List.drop_zero] at this
  rw [this]; rfl

set_option maxHeartbeats 800000 in
theorem word_any (s : ByteArray) (w : World) (hs : s.size ≤ maxLen) :
    Calls Tryz.prog 57 #[.string s] w fun e w' => e = .returned (.bool (wordP s.data.toList)) ∧ w = w' := by
  unfold maxLen at hs
  by_cases hz : s.size = 0
  · have HZ := Lib.hid (show s.data.toList = [] from List.eq_nil_of_length_eq_zero (by simpa using hz))
    have hz1 : s.toList.isEmpty = true := by rw [isEmpty_data, HZ.out]; rfl
    have hz2 : s.toList = [] := by simpa using hz1
    clear hz
    go_enter Tryz.func57, Tryz.ntmps57
    go_wp2_with fail
    go_ret
    exact ⟨ret_bool (by rw [HZ.out]; rfl), rfl⟩
  have h0 : 0 < s.size := by omega
  have HN := Lib.hid (show s.data.toList ≠ [] from fun h => hz (by have := congrArg List.length h; simpa using this))
  have hz1 : s.toList.isEmpty = false := by rw [isEmpty_data]; simpa using HN.out
  have HH := Lib.hid (headLetter_of s h0)
  have HC0 := Lib.hid (cls_ne2 s[0])
  clear hz
  by_cases hl : isLetter s[0] = true
  · have hcc : (((cls s[0] : Nat) : Int) != 2) = false := by rw [HC0.out, hl]; rfl
    have HL := Lib.hid hl
    clear hl
    go_enter Tryz.func57, Tryz.ntmps57
    go_wp2_with (go_at_call 59; refine (class_any _ _).mono ?_; rintro e w' ⟨rfl, rfl⟩)
    go_loop [15] (fun i => ∃ k : Nat, k ≤ s.size ∧ i = .int .i64 k ∧ (s.data.toList.take k).all inWord = true) (fun i => s.size - (intOf i).toNat)
    case atStart => exact ⟨0, Nat.zero_le _, rfl, rfl⟩
    case round =>
      obtain ⟨k, hk, rfl, hall⟩ := hrel
      have HA := Lib.hid hall
      clear hall
      by_cases hlt : k < s.size
      · have HT := Lib.hid (take_snoc s k hlt)
        rcases cls_word_ways s[k] with ⟨hw, h⟩ | ⟨hw, h2, h3, h4⟩
        · have HW := Lib.hid hw
          clear hw
          rcases h with h2 | ⟨h2, h3⟩ | ⟨h2, h3, h4⟩
          all_goals
            go_wp2_with (go_at_call 59; refine (class_any _ _).mono ?_; rintro e w' ⟨rfl, rfl⟩)
            go_round
            case rel => exact ⟨k + 1, by omega, by go_num, by rw [HT.out]; simp [HA.out, HW.out]⟩
            case measure => simp [intOf]; omega
        · have HW := Lib.hid hw
          clear hw
          go_wp2_with (go_at_call 59; refine (class_any _ _).mono ?_; rintro e w' ⟨rfl, rfl⟩)
          go_ret
          refine ⟨ret_bool ?_, rfl⟩
          have hm : s[k] ∈ s.data.toList := List.getElem_mem (l := s.data.toList) (by simpa using hlt)
          have : s.data.toList.all inWord = false := by rw [List.all_eq_false]; exact ⟨_, hm, by rw [HW.out]; simp⟩
          simp [wordP, this]
      · have HT := Lib.hid (take_all s k hlt)
        go_wp2_with fail
        go_ret
        refine ⟨ret_bool ?_, rfl⟩
        have := HA.out
        rw [HT.out] at this
        simp [wordP, this, HH.out, HL.out]
  · have hcc : (((cls s[0] : Nat) : Int) != 2) = true := by rw [HC0.out]; simpa using hl
    have HL := Lib.hid hl
    clear hl
    go_enter Tryz.func57, Tryz.ntmps57
    go_wp2_with (go_at_call 59; refine (class_any _ _).mono ?_; rintro e w' ⟨rfl, rfl⟩)
    go_ret
    refine ⟨ret_bool ?_, rfl⟩
    simp [wordP, HH.out]
    intro h; exact absurd h HL.out

end Go.Proofs.YtkjoohnndobjeaaGreatDoor
namespace Go.Proofs.YtkjoohnndobjeaaGreatDoor
open Go.RowKit Go.Fl Go.Fl.Lx

set_option maxHeartbeats 400000 in
set_option maxRecDepth 100000 in
theorem slIndex1 (s : ByteArray) (c : UInt8) (w : World) :
    Calls Tryz.prog 89 #[.string s, .string ⟨#[c]⟩] w fun e w' => e = .returned (.int .i64 (Lib.indexByte s.data.toList c)) ∧ w = w' := by
  by_cases hq : s.data.toList = [c]
  · have hq2 : ([c] == s.toList) = true := by rw [ByteArray.toList_eq, hq]; simp
    have HQ := Lib.hid hq
    clear hq
    go_enter Tryz.func89, Tryz.ntmps89
    go_wp2_with fail
    go_ret
    exact ⟨ret_int (by rw [HQ.out]; simp [Lib.indexByte]), rfl⟩
  · have hq2 : ([c] == s.toList) = false := by rw [ByteArray.toList_eq, beq_eq_false_iff_ne]; exact fun h => hq h.symm
    clear hq
    go_enter Tryz.func89, Tryz.ntmps89
    go_wp2_with (go_at_call 105; refine (slIndexByte _ _ _).mono ?_; rintro e w' ⟨rfl, rfl⟩)
    go_ret
    exact ⟨rfl, rfl⟩

set_option maxHeartbeats 400000 in
theorem slCut1_no (s : ByteArray) (c : UInt8) (w : World) (h : c ∉ s.data.toList) :
    Calls Tryz.prog 164 #[.string s, .string ⟨#[c]⟩] w fun e w' => e = .returned (.tuple #[.string s, .string ⟨#[]⟩, .bool false]) ∧ w = w' := by
  have hi : Lib.indexByte s.data.toList c < 0 := by
    have h2 := indexByte_nonneg s.data.toList c
    exact Int.not_le.1 fun h3 => h (h2.1 h3)
  go_enter Tryz.func164, Tryz.ntmps164
  go_wp2_with (go_at_call 89; refine (slIndex1 _ _ _).mono ?_; rintro e w' ⟨rfl, rfl⟩)
  go_ret3
  exact ⟨rfl, rfl⟩

set_option maxHeartbeats 400000 in
theorem slCut1_yes (s : ByteArray) (c : UInt8) (w : World) (i : Nat) (hi : Lib.indexByte s.data.toList c = i) (hl : i < s.size) (hs : s.size ≤ maxLen) :
    Calls Tryz.prog 164 #[.string s, .string ⟨#[c]⟩] w fun e w' => e = .returned (.tuple #[.string (s.extract 0 i), .string (s.extract (i + 1) s.size), .bool true]) ∧ ∃ n, w' = w.drewN n := by
  unfold maxLen at hs
  go_enter Tryz.func164, Tryz.ntmps164
  go_wp2_with (go_at_call 89; refine (slIndex1 _ _ _).mono ?_; rw [hi]; rintro e w' ⟨rfl, rfl⟩)
  have e1 : IntKind.i64.wrap ((i : Int) + 1) = (i : Int) + 1 := IntWalk.i64_in _ (by omega)
  have e2 : 0 ≤ (i : Int) + 1 := by omega
  have e3 : ((i : Int) + 1).toNat = i + 1 := by omega
  go_quiet (fail)
  go_wp2_with fail
  go_ret3
  exact ⟨rfl, _, rfl⟩

theorem sCut1_no (s : ByteArray) (c : UInt8) (w : World) (h : c ∉ s.data.toList) :
    Calls Tryz.prog 135 #[.string s, .string ⟨#[c]⟩] w fun e w' => e = .returned (.tuple #[.string s, .string ⟨#[]⟩, .bool false]) ∧ w = w' := by
  have H := Lib.hid h
  clear h
  go_enter Tryz.func135, Tryz.ntmps135
  go_wp2_with (go_at_call 164; refine (slCut1_no _ _ _ H.out).mono ?_; rintro e w' ⟨rfl, rfl⟩)
  go_ret3
  exact ⟨rfl, rfl⟩

theorem sCut1_yes (s : ByteArray) (c : UInt8) (w : World) (i : Nat) (hi : Lib.indexByte s.data.toList c = i) (hl : i < s.size) (hs : s.size ≤ maxLen) :
    Calls Tryz.prog 135 #[.string s, .string ⟨#[c]⟩] w fun e w' => ∃ a b : ByteArray, e = .returned (.tuple #[.string a, .string b, .bool true]) ∧ (∃ n, w' = w.drewN n) ∧
      Hid (a.data.toList = s.data.toList.take i ∧ b.data.toList = s.data.toList.drop (i + 1)) := by
  have H := Lib.hid hi
  clear hi
  go_enter Tryz.func135, Tryz.ntmps135
  go_wp2_with (go_at_call 164; refine (slCut1_yes _ _ _ i H.out hl hs).mono ?_; rintro e w' ⟨rfl, n, rfl⟩)
  go_ret3
  exact ⟨_, _, rfl, ⟨_, rfl⟩, by rw [Lib.extract_data]; simp, by rw [Lib.extract_data, List.take_of_length_le (by simp)]⟩

set_option maxHeartbeats 400000 in
theorem number_any (s : ByteArray) (w : World) (hs : s.size ≤ maxLen) :
    Calls Tryz.prog 106 #[.string s] w fun e w' => e = .returned (.int .i64 (numN s.data.toList)) ∧ ∃ n, w' = w.drewN n := by
  rcases indexByte_spec s.data.toList 46 with ⟨h1, h2⟩ | ⟨h1, i, h2, h3, h4, h5, h6⟩
  · have HN := Lib.hid (show numN s.data.toList = if digitsP s.data.toList then s.size else 0 by
      unfold numN; rw [(takeWhile_not_mem _ _ h1).2]; simp)
    have H1 := Lib.hid h1
    have hb : s.size ≤ maxLen := hs
    unfold maxLen at hb
    clear h1 h2
    by_cases hd : digitsP s.data.toList = true
    · go_enter Tryz.func106, Tryz.ntmps106
      go_wp2_with (first | (go_at_call 135; refine (sCut1_no _ _ _ H1.out).mono ?_; rintro e w' ⟨rfl, rfl⟩) | (go_at_call 136; refine (digits_any _ _ hs).mono ?_; rintro e w' ⟨rfl, rfl⟩))
      go_ret
      exact ⟨ret_int (by rw [HN.out, if_pos hd]), 0, rfl⟩
    · have hd : digitsP s.data.toList = false := by simpa using hd
      go_enter Tryz.func106, Tryz.ntmps106
      go_wp2_with (first | (go_at_call 135; refine (sCut1_no _ _ _ H1.out).mono ?_; rintro e w' ⟨rfl, rfl⟩) | (go_at_call 136; refine (digits_any _ _ hs).mono ?_; rintro e w' ⟨rfl, rfl⟩))
      go_ret
      exact ⟨ret_int (by rw [HN.out, hd]; rfl), 0, rfl⟩
  · have hil : i < s.size := by simpa using h3
    have HN := Lib.hid (show numN s.data.toList = if digitsP (s.data.toList.take i) && digitsP (s.data.toList.drop (i + 1)) then i + (s.size - (i + 1)) else 0 by
      unfold numN; rw [h5, h6, h4]; simp; rw [Nat.min_eq_left (by omega)])
    have H2 := Lib.hid h2
    have hb : s.size ≤ maxLen := hs
    unfold maxLen at hb
    clear h1 h2 h3 h4 h5 h6
    go_enter Tryz.func106, Tryz.ntmps106
    go_wp2_with fail
    refine (sCut1_yes _ _ _ i H2.out hil hs).mono ?_; rintro e w' ⟨a, b, rfl, ⟨n, rfl⟩, H⟩
    have HA := Lib.hid (show a.size = i by rw [← length_data, H.out.1]; simp; omega)
    have HB := Lib.hid (show b.size = s.size - (i + 1) by rw [← length_data, H.out.2]; simp)
    have hsa : a.size ≤ maxLen := by rw [HA.out]; unfold maxLen; omega
    have hsc : b.size ≤ maxLen := by rw [HB.out]; unfold maxLen; omega
    have hab : a.size + b.size ≤ 9223372036854775807 := by rw [HA.out, HB.out]; omega
    by_cases hd : digitsP a.data.toList = true
    · by_cases hd2 : digitsP b.data.toList = true
      · go_wp2_with fail
        refine (digits_any _ _ hsa).mono ?_; rintro e w' ⟨rfl, rfl⟩
        go_wp2_with fail
        refine (digits_any _ _ hsc).mono ?_; rintro e w' ⟨rfl, rfl⟩
        go_wp2_with fail
        go_ret
        refine ⟨ret_int ?_, _, rfl⟩
        rw [HN.out, ← H.out.1, ← H.out.2, hd, hd2, HA.out, HB.out]
        simp
      · have hd2 : digitsP b.data.toList = false := by simpa using hd2
        go_wp2_with fail
        refine (digits_any _ _ hsa).mono ?_; rintro e w' ⟨rfl, rfl⟩
        go_wp2_with fail
        refine (digits_any _ _ hsc).mono ?_; rintro e w' ⟨rfl, rfl⟩
        go_wp2_with fail
        go_ret
        exact ⟨ret_int (by rw [HN.out, ← H.out.1, ← H.out.2, hd, hd2]; simp), _, rfl⟩
    · have hd : digitsP a.data.toList = false := by simpa using hd
      go_wp2_with fail
      refine (digits_any _ _ hsa).mono ?_; rintro e w' ⟨rfl, rfl⟩
      go_wp2_with fail
      go_ret
      exact ⟨ret_int (by rw [HN.out, ← H.out.1, ← H.out.2, hd]; simp), _, rfl⟩

/-- 'kind' in one way: what is asked is decided ahead. -/
theorem kind_any (s : ByteArray) (w : World) (hs : s.size ≤ maxLen) :
    Calls Tryz.prog 63 #[.string s] w fun e w' => e = .returned (.tuple #[.int .i64 (kindOf s.data.toList).1, .int .i64 (kindOf s.data.toList).2]) ∧ ∃ n, w' = w.drewN n := by
  have HK := Lib.hid (show kindOf s.data.toList = if (wordP s.data.toList && decide (20 < s.size)) || decide (18 < numN s.data.toList) then (0, 5) else if wordP s.data.toList then (1, 0) else if 0 < numN s.data.toList then (2, 0) else (0, 3) by unfold kindOf; rw [length_data])
  have hb : s.size ≤ maxLen := hs
  unfold maxLen at hb
  obtain ⟨r, hr⟩ : ∃ r, r = kindOf s.data.toList := ⟨_, rfl⟩
  have HR := Lib.hid hr
  rw [← hr]
  clear hr
  by_cases hw : wordP s.data.toList = true
  · by_cases hl : 20 < s.size
    · have HF := Lib.hid (show r = (0, 5) by rw [HR.out, HK.out]; simp [hw, hl])
      go_enter Tryz.func63, Tryz.ntmps63
      go_wp2_with (first | (go_at_call 106; refine (number_any _ _ hs).mono ?_; rintro e w' ⟨rfl, n, rfl⟩) | (go_at_call 57; refine (word_any _ _ hs).mono ?_; rintro e w' ⟨rfl, rfl⟩))
      go_ret2
      exact ⟨by rw [HF.out]; rfl, _, rfl⟩
    · by_cases hn : 18 < numN s.data.toList
      · have HF := Lib.hid (show r = (0, 5) by rw [HR.out, HK.out]; simp [hn])
        have hn' : (18 : Int) < numN s.data.toList := by omega
        go_enter Tryz.func63, Tryz.ntmps63
        go_wp2_with (first | (go_at_call 106; refine (number_any _ _ hs).mono ?_; rintro e w' ⟨rfl, n, rfl⟩) | (go_at_call 57; refine (word_any _ _ hs).mono ?_; rintro e w' ⟨rfl, rfl⟩))
        go_ret2
        exact ⟨by rw [HF.out]; rfl, _, rfl⟩
      · have HF := Lib.hid (show r = (1, 0) by rw [HR.out, HK.out]; simp [hw, hn, hl])
        have hn' : ¬ (18 : Int) < numN s.data.toList := by omega
        go_enter Tryz.func63, Tryz.ntmps63
        go_wp2_with (first | (go_at_call 106; refine (number_any _ _ hs).mono ?_; rintro e w' ⟨rfl, n, rfl⟩) | (go_at_call 57; refine (word_any _ _ hs).mono ?_; rintro e w' ⟨rfl, rfl⟩))
        go_ret2
        exact ⟨by rw [HF.out]; rfl, _, rfl⟩
  · have hw : wordP s.data.toList = false := by simpa using hw
    by_cases hn : 18 < numN s.data.toList
    · have HF := Lib.hid (show r = (0, 5) by rw [HR.out, HK.out]; simp [hn])
      have hn' : (18 : Int) < numN s.data.toList := by omega
      go_enter Tryz.func63, Tryz.ntmps63
      go_wp2_with (first | (go_at_call 106; refine (number_any _ _ hs).mono ?_; rintro e w' ⟨rfl, n, rfl⟩) | (go_at_call 57; refine (word_any _ _ hs).mono ?_; rintro e w' ⟨rfl, rfl⟩))
      go_ret2
      exact ⟨by rw [HF.out]; rfl, _, rfl⟩
    · by_cases h0 : 0 < numN s.data.toList
      · have HF := Lib.hid (show r = (2, 0) by rw [HR.out, HK.out]; simp [hw, hn, h0])
        have hn' : ¬ (18 : Int) < numN s.data.toList := by omega
        have h0' : (0 : Int) < numN s.data.toList := by omega
        go_enter Tryz.func63, Tryz.ntmps63
        go_wp2_with (first | (go_at_call 106; refine (number_any _ _ hs).mono ?_; rintro e w' ⟨rfl, n, rfl⟩) | (go_at_call 57; refine (word_any _ _ hs).mono ?_; rintro e w' ⟨rfl, rfl⟩))
        go_ret2
        exact ⟨by rw [HF.out]; rfl, _, rfl⟩
      · have HF := Lib.hid (show r = (0, 3) by rw [HR.out, HK.out]; simp [hw, hn, h0])
        have hn' : ¬ (18 : Int) < numN s.data.toList := by omega
        have h0' : ¬ (0 : Int) < numN s.data.toList := by omega
        go_enter Tryz.func63, Tryz.ntmps63
        go_wp2_with (first | (go_at_call 106; refine (number_any _ _ hs).mono ?_; rintro e w' ⟨rfl, n, rfl⟩) | (go_at_call 57; refine (word_any _ _ hs).mono ?_; rintro e w' ⟨rfl, rfl⟩))
        go_ret2
        exact ⟨by rw [HF.out]; rfl, _, rfl⟩
end Go.Proofs.YtkjoohnndobjeaaGreatDoor
namespace Go.Proofs.YtkjoohnndobjeaaGreatDoor
open Go.RowKit Go.Fl Go.Fl.Lx

/-- The scanner's cells. -/
def scan (t : ByteArray) (ln co : Int) : Array Value := #[.string t, .int .i64 ln, .int .i64 co]

set_option maxHeartbeats 400000 in
theorem run_any (g : Nat) (t : ByteArray) (ln co : Int) (w : World) (hb : Blk w g 114 (scan t ln co)) (hs : t.size ≤ maxLen) :
    Calls Tryz.prog 62 #[.pointer (some ⟨g, 0, none⟩)] w fun e w' => e = .returned (.int .i64 ((t.data.toList.takeWhile inRun).length : Nat)) ∧ w = w' := by
  unfold maxLen at hs
  have c0 : w.cell? ⟨g, 0, none⟩ = some (.string t) := hb.cell 0
  have HB := Lib.hid hb
  clear hb
  go_enter Tryz.func62, Tryz.ntmps62
  go_wp2_with fail
  go_loop [3] (fun i => ∃ k : Nat, k ≤ t.size ∧ i = .int .i64 k ∧ (t.data.toList.take k).all inRun = true) (fun i => t.size - (intOf i).toNat)
  case atStart => exact ⟨0, Nat.zero_le _, rfl, rfl⟩
  case round =>
    obtain ⟨k, hk, rfl, hall⟩ := hrel
    have HA := Lib.hid hall
    clear hall
    by_cases hlt : k < t.size
    · have HT := Lib.hid (take_snoc t k hlt)
      rcases cls_run_ways t[k] with ⟨hw, h⟩ | ⟨hw, h2, h3, h4, h5⟩
      · have HW := Lib.hid hw
        clear hw
        rcases h with h2 | ⟨h2, h3⟩ | ⟨h2, h3, h4⟩ | ⟨h2, h3, h4, h5⟩
        all_goals
          go_wp2_with (go_at_call 59; refine (class_any _ _).mono ?_; rintro e w' ⟨rfl, rfl⟩)
          go_round
          case rel => exact ⟨k + 1, by omega, by go_num, by rw [HT.out]; simp [HA.out, HW.out]⟩
          case measure => simp [intOf]; omega
      · have HW := Lib.hid hw
        clear hw
        go_wp2_with (go_at_call 59; refine (class_any _ _).mono ?_; rintro e w' ⟨rfl, rfl⟩)
        go_ret
        exact ⟨ret_int (by rw [takeWhile_len_stop t k hlt HA.out HW.out]), rfl⟩
    · have HT := Lib.hid (take_all t k hlt)
      go_wp2_with fail
      go_ret
      have h := HA.out
      rw [HT.out] at h
      exact ⟨ret_int (by rw [takeWhile_len_all t h]; omega), rfl⟩

/-- What 'skip' leaves. -/
def Skipped (w : World) (g : Nat) (t : ByteArray) (ln co n : Nat) (e : Ending) (w' : World) : Prop :=
  ∃ out t' : ByteArray, e = .returned (.string out) ∧ out.data.toList = t.data.toList.take n ∧ t'.data.toList = t.data.toList.drop n ∧
    w' = putB w g 114 (scan t' (adv (t.data.toList.take n) (ln, co)).1 (adv (t.data.toList.take n) (ln, co)).2)

set_option maxHeartbeats 800000 in
theorem skip_any (g : Nat) (t : ByteArray) (ln co n : Nat) (w : World) (hb : Blk w g 114 (scan t ln co)) (hs : t.size ≤ maxLen) (hn : n ≤ t.size)
    (hl : ln + n ≤ 4611686018427387904) (hc : co + n ≤ 4611686018427387904) :
    Calls Tryz.prog 60 #[.pointer (some ⟨g, 0, none⟩), .int .i64 n] w (Skipped w g t ln co n) := by
  unfold maxLen at hs
  have c0 : w.cell? ⟨g, 0, none⟩ = some (.string t) := hb.cell 0
  have HB := Lib.hid hb
  clear hb
  go_enter Tryz.func60, Tryz.ntmps60
  go_wp2_with fail
  have hou : (t.extract 0 n).data.toList = t.data.toList.take n := by rw [Lib.extract_data]; simp
  generalize t.extract 0 n = out at *
  have HO := Lib.hid hou
  clear hou
  have HS := Lib.hid (show out.size = n by rw [← length_data, HO.out]; simp; omega)
  go_loopw [14] (fun i wr => ∃ k : Nat, k ≤ n ∧ i = .int .i64 k ∧ Hid (wr = putB w g 114 (scan t (adv (t.data.toList.take k) (ln, co)).1 (adv (t.data.toList.take k) (ln, co)).2))) (fun i _ => n - (intOf i).toNat)
  case atStart => exact ⟨0, Nat.zero_le _, rfl, by unfold Hid; simp only [List.take_zero, adv_nil]; exact (HB.out.put_self).symm⟩
  case round =>
    obtain ⟨k, hk, rfl, HW⟩ := hrel
    have HBr := Lib.hid (show Blk wr g 114 (scan t (adv (t.data.toList.take k) (ln, co)).1 (adv (t.data.toList.take k) (ln, co)).2) by rw [HW.out]; exact HB.out.put _)
    have hbd := adv_bound (t.data.toList.take k) (ln, co) 4611686018427387904 (by simp; omega) (by simp; omega)
    obtain ⟨l1, hl1⟩ : ∃ l1 : Nat, l1 = (adv (t.data.toList.take k) (ln, co)).1 := ⟨_, rfl⟩
    obtain ⟨c1, hc1⟩ : ∃ c1 : Nat, c1 = (adv (t.data.toList.take k) (ln, co)).2 := ⟨_, rfl⟩
    rw [← hl1, ← hc1] at HBr hbd HW
    have HL := Lib.hid (show adv (t.data.toList.take k) (ln, co) = (l1, c1) by rw [hl1, hc1])
    clear hl1 hc1
    obtain ⟨hb1, hb2⟩ := hbd
    have d0 : wr.cell? ⟨g, 0, none⟩ = some (.string t) := HBr.out.cell 0
    have d1 : wr.cell? ⟨g, 1, none⟩ = some (.int .i64 l1) := HBr.out.cell 1
    have d2 : wr.cell? ⟨g, 2, none⟩ = some (.int .i64 c1) := HBr.out.cell 2
    have f0 : wr.frozen? ⟨g, 0, none⟩ = false := HBr.out.frozen 0
    have f1 : wr.frozen? ⟨g, 1, none⟩ = false := HBr.out.frozen 1
    have f2 : wr.frozen? ⟨g, 2, none⟩ = false := HBr.out.frozen 2
    clear c0
    by_cases hlt : k < n
    · have hlt2 : k < t.size := by omega
      have hlt3 : k < out.size := by rw [HS.out]; exact hlt
      have HT := Lib.hid (take_snoc t k hlt2)
      have HK := Lib.hid (show out[k] = t[k] by
        rw [← getElem_data out k hlt3, ← getElem_data t k hlt2]
        simp only [HO.out, List.getElem_take])
      by_cases h10 : t[k] = 10
      · have h10' : ((out[k].toNat : Int) == 10) = true := by rw [HK.out, h10]; rfl
        have HN := Lib.hid (show adv (t.data.toList.take (k + 1)) (ln, co) = (l1 + 1, 1) by rw [HT.out, adv_snoc, HL.out]; simp [step1, h10])
        clear h10
        go_wp2_with fail
        go_roundw
        case rel =>
          refine ⟨k + 1, by omega, by go_num, ?_⟩
          unfold Hid
          rw [HN.out, HBr.out.setCell_eq, (HBr.out.put _).setCell_eq, putB_putB, (HBr.out.put _).setCell_eq, putB_putB, HW.out, putB_putB]
          rfl
        case measure => simp [intOf]; omega
      · have h10' : ((out[k].toNat : Int) == 10) = false := by
          rw [HK.out, beq_eq_false_iff_ne]
          intro h
          exact h10 (UInt8.toNat_inj.1 (show t[k].toNat = 10 by omega))
        have HN := Lib.hid (show adv (t.data.toList.take (k + 1)) (ln, co) = (l1, c1 + 1) by rw [HT.out, adv_snoc, HL.out]; simp [step1, h10])
        clear h10
        go_wp2_with fail
        go_roundw
        case rel =>
          refine ⟨k + 1, by omega, by go_num, ?_⟩
          unfold Hid
          rw [HN.out, HBr.out.setCell_eq, HW.out, putB_putB]
          rfl
        case measure => simp [intOf]; omega
    · have hkn : k = n := by omega
      subst hkn
      go_wp2_with fail
      have htl : (t.extract k t.size).data.toList = t.data.toList.drop k := by rw [Lib.extract_data, List.take_of_length_le (by simp)]
      go_ret
      refine ⟨out, t.extract k t.size, rfl, HO.out, htl, ?_⟩
      rw [HL.out, HBr.out.setCell_eq, HW.out, putB_putB]
      rfl

theorem skip_at (g : Nat) (t : ByteArray) (ln co n : Nat) (ni : Int) (hni : ni = n) (w : World) (hb : Blk w g 114 (scan t ln co)) (hs : t.size ≤ 65536) (hn : n ≤ t.size)
    (hl : ln + t.size ≤ 70000) (hc : co + t.size ≤ 70000) :
    Calls Tryz.prog 60 #[.pointer (some ⟨g, 0, none⟩), .int .i64 ni] w (Skipped w g t ln co n) := by
  subst hni
  exact skip_any g t ln co n w hb (by unfold maxLen; omega) hn (by omega) (by omega)
end Go.Proofs.YtkjoohnndobjeaaGreatDoor
