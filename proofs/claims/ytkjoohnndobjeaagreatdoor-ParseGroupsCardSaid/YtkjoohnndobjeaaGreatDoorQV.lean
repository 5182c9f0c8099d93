/-
  The reference's decimals, numbers, parentheses and names.
  The walks of the texts of ranges, the program's and the reference's.
  A slice of structs as an argument, opened: for any type of elements.
  Declarations, equations, edges, modes and problems as they lie in memory; which are right; their texts.
-/
import Derived.Test.YtkjoohnndobjeaaGreatDoorQc
import Derived.Test.YtkjoohnndobjeaaGreatDoorQH
import Derived.Test.YtkjoohnndobjeaaGreatDoorQO
import Derived.Test.YtkjoohnndobjeaaGreatDoorQN
set_option linter.unusedVariables false
namespace Go.Proofs.YtkjoohnndobjeaaGreatDoor
open Go.RowKit Go.Fl Go.Fl.Nm Go.Fl.Fm Go.Fl.Rt
theorem length_data (s : ByteArray) : s.data.toList.length = s.size := rfl
theorem itoa21 {n : Int} (h1 : -4611686018427387904 ≤ n) (h2 : n ≤ 4611686018427387904) : (Lib.itoa n).length ≤ 21 := Lib.itoa_length_le n (by omega) (by omega)
end Go.Proofs.YtkjoohnndobjeaaGreatDoor
namespace Go.Fl.Fm
open Go.Fl.Rt
/-- The text of a range. -/
def rangeT (a b c d : Int) : List UInt8 := if a = c ∧ b = d then textR a b else [91] ++ textR a b ++ [44, 32] ++ textR c d ++ [93]
/-- Four numbers of a range are machine numbers. -/
structure R4 (a b c d : Int) : Prop where
  a1 : -9223372036854775808 ≤ a
  a2 : a ≤ 9223372036854775807
  b1 : -9223372036854775808 ≤ b
  b2 : b ≤ 9223372036854775807
  c1 : -9223372036854775808 ≤ c
  c2 : c ≤ 9223372036854775807
  d1 : -9223372036854775808 ≤ d
  d2 : d ≤ 9223372036854775807
end Go.Fl.Fm
namespace Go.Proofs.YtkjoohnndobjeaaGreatDoor
open Go.RowKit Go.Fl Go.Fl.Nm Go.Fl.Dy Go.Fl.Rt Go.Fl.Fm
open List renaming setIfInBounds_toArray → qa, set_cons_zero → qb, set_cons_succ → qc, getElem_toArray → qd, getElem_cons_zero → qe, getElem_cons_succ → qf
theorem textR_len {n d : Int} (h : valid n d) : (textR n d).length ≤ 43 := by
  have hb : -4611686018427387904 ≤ n ∧ n ≤ 4611686018427387904 ∧ -4611686018427387904 ≤ d ∧ d ≤ 4611686018427387904 := by
    have := h
    unfold valid at this
    have e : (MX : Int) = 1073741824 := rfl
    omega
  have zn := itoa21 hb.1 hb.2.1
  have zd := itoa21 hb.2.2.1 hb.2.2.2
  unfold textR
  rw [List.length_append]
  split
  · simp only [List.length_nil]; omega
  · simp only [List.length_cons]; omega
end Go.Proofs.YtkjoohnndobjeaaGreatDoor
namespace Go.Proofs.YtkjoohnndobjeaaGreatDoor
open Go.RowKit Go.Fl Go.ChangeShapes Go.WideShapes
section
variable {H : Type} {enc : TypeId × Value → H} {w : World} {base : Nat} {spare : Nat → Bool} {held : Bool}
theorem rows_at {Z : Type} {m : Nat} (cells : Z → List Value) (hlen : ∀ z, (cells z).length = m) (l : List Z) (k : Nat) (v : Z) (h : l[k]? = some v) (j : Nat) (hj : j < m) : (l.flatMap cells)[k * m + j]? = (cells v)[j]? := by
  induction l generalizing k with
  | nil => cases h
  | cons x l ih =>
    rw [List.flatMap_cons]
    cases k with
    | zero =>
      have : x = v := by simpa using h
      subst this
      rw [Nat.zero_mul, Nat.zero_add, List.getElem?_append_left (by rw [hlen]; exact hj)]
    | succ k =>
      have h' : l[k]? = some v := by simpa using h
      rw [List.getElem?_append_right (by rw [hlen, Nat.succ_mul]; omega), hlen, show (k + 1) * m + j - m = k * m + j by rw [Nat.succ_mul]; omega]
      exact ih k h'
end
end Go.Proofs.YtkjoohnndobjeaaGreatDoor
namespace Go.Proofs.YtkjoohnndobjeaaGreatDoor
open Go.RowKit Go.Fl Go.Fl.Nm Go.Fl.Dy Go.Fl.Rt Go.Fl.Fm
/-- Cells at a place. -/
structure At (w : World) (b off : Nat) (cs : List Value) : Prop where
  lt : b < w.heap.size
  c : ∀ (j : Nat) (u : Value), cs[j]? = some u → w.cell? ⟨b, off + j, none⟩ = some u
theorem At.belowW {w w' : World} {b off : Nat} {cs : List Value} (h : At w b off cs) (hb : Below w.heap.size w w') : At w' b off cs :=
  ⟨Nat.lt_of_lt_of_le h.lt hb.size, fun j u hu => (hb.cell (p := ⟨b, off + j, none⟩) h.lt).trans (h.c j u hu)⟩
/-- A list of structs lies at a slice. -/
structure InL {Z : Type} (m : Nat) (cells : Z → List Value) (Pw : World → Z → Prop) (w : World) (A : Option Addr) (len cap : Nat) (zs : List Z) : Prop where
  hl : zs.length = len
  hc : len ≤ cap
  hm : cap ≤ maxLen
  hr : Rd w m A len (zs.flatMap cells)
  hi : ∀ z ∈ zs, Pw w z
theorem InL.below {Z : Type} {m : Nat} {cells : Z → List Value} {Pw : World → Z → Prop} {w w' : World} {A : Option Addr} {len cap : Nat} {zs : List Z} (h : InL m cells Pw w A len cap zs) (hP : ∀ z ∈ zs, Pw w z → Pw w' z) (hb : Below w.heap.size w w') : InL m cells Pw w' A len cap zs :=
  ⟨h.hl, h.hc, h.hm, h.hr.below hb, fun z hz => hP z hz (h.hi z hz)⟩
theorem InL.at_ {Z : Type} {m : Nat} {cells : Z → List Value} {Pw : World → Z → Prop} {w : World} {A : Option Addr} {len cap : Nat} {zs : List Z} (hlen : ∀ z, (cells z).length = m) (h : InL m cells Pw w A len cap zs) (j : Nat) (hj : j < len) :
    ∃ b o x, A = some ⟨b, o, none⟩ ∧ zs[j]? = some x ∧ Pw w x ∧ At w b (o + j * m) (cells x) := by
  obtain ⟨b, o, hA, hb, hcell⟩ := h.hr.at_ (by omega)
  obtain ⟨x, hx⟩ : ∃ x, zs[j]? = some x := ⟨_, List.getElem?_eq_getElem (by rw [h.hl]; exact hj)⟩
  refine ⟨b, o, x, hA, hx, h.hi x (List.mem_of_getElem? hx), hb, fun i u hu => ?_⟩
  have hi : i < m := by
    have := (List.getElem?_eq_some_iff.1 hu).1
    rwa [hlen] at this
  have := hcell _ _ ((rows_at cells hlen zs j x hx i hi).trans hu)
  rwa [← Nat.add_assoc] at this
theorem flat_len {α β : Type} (f : α → List β) (l : List α) (m : Nat) (h : ∀ x ∈ l, (f x).length ≤ m) : (l.flatMap f).length ≤ m * l.length := by
  induction l with
  | nil => simp
  | cons x l ih =>
    rw [List.flatMap_cons, List.length_append, List.length_cons, Nat.mul_succ]
    have h1 := h x (by simp)
    have h2 := ih (fun y hy => h y (by simp [hy]))
    omega
/-- A declaration as it lies. -/
structure DcN where
  s : ByteArray
  a : Int
  b : Int
  c : Int
  d : Int
@[reducible] def DcN.val (x : DcN) : Value := .agg #[.string x.s, .int .i64 x.a, .int .i64 x.b, .int .i64 x.c, .int .i64 x.d]
def DcN.cells (x : DcN) : List Value := [.string x.s, .int .i64 x.a, .int .i64 x.b, .int .i64 x.c, .int .i64 x.d]
structure InD (w : World) (x : DcN) : Prop where
  r : R4 x.a x.b x.c x.d
  hs : x.s.size ≤ maxLen
theorem InD.belowW {w w' : World} {x : DcN} (h : InD w x) (hb : Below w.heap.size w w') : InD w' x := ⟨h.r, h.hs⟩
def DcN.ok (x : DcN) : Bool := nameP x.s.data.toList && (vB x.a x.b && vB x.c x.d)
def DcN.txt (x : DcN) : List UInt8 := x.s.data.toList ++ ([32, 105, 110, 32] ++ (rangeT x.a x.b x.c x.d ++ [59, 10]))
/-- An equation or a reset as it lies. -/
structure EqN where
  s : ByteArray
  v : Nd
  T : TE
@[reducible] def EqN.val (x : EqN) : Value := .agg #[.string x.s, .int .i64 x.v.h.kind, .int .i64 x.v.h.n, .int .i64 x.v.h.d, .string x.v.h.name, .int .i64 x.v.h.k, .slice x.v.A x.v.len x.v.cap]
def EqN.cells (x : EqN) : List Value := [.string x.s, .int .i64 x.v.h.kind, .int .i64 x.v.h.n, .int .i64 x.v.h.d, .string x.v.h.name, .int .i64 x.v.h.k, .slice x.v.A x.v.len x.v.cap]
structure InQ (w : World) (x : EqN) : Prop where
  e : InE w x.T x.v
  hs : x.s.size ≤ maxLen
theorem InQ.belowW {w w' : World} {x : EqN} (h : InQ w x) (hb : Below w.heap.size w w') : InQ w' x := ⟨h.e.go hb, h.hs⟩
def EqN.ok (x : EqN) : Bool := nameP x.s.data.toList && okE x.T
def EqN.rt (x : EqN) : List UInt8 := x.s.data.toList ++ ([32, 61, 32] ++ txt 20 x.T)
def EqN.ft (x : EqN) : List UInt8 := [9] ++ (x.s.data.toList ++ ([39, 32, 61, 32] ++ (txt 20 x.T ++ [59, 10])))
/-- An edge as it lies. -/
structure EdN where
  v : Nd
  T : TE
  dir : Int
  tn : ByteArray
  A : Option Addr
  len : Nat
  cap : Nat
  rs : List EqN
@[reducible] def EdN.val (x : EdN) : Value := .agg #[.int .i64 x.v.h.kind, .int .i64 x.v.h.n, .int .i64 x.v.h.d, .string x.v.h.name, .int .i64 x.v.h.k, .slice x.v.A x.v.len x.v.cap, .int .i64 x.dir, .string x.tn, .slice x.A x.len x.cap]
def EdN.cells (x : EdN) : List Value := [.int .i64 x.v.h.kind, .int .i64 x.v.h.n, .int .i64 x.v.h.d, .string x.v.h.name, .int .i64 x.v.h.k, .slice x.v.A x.v.len x.v.cap, .int .i64 x.dir, .string x.tn, .slice x.A x.len x.cap]
structure InG (w : World) (x : EdN) : Prop where
  e : InE w x.T x.v
  d1 : -9223372036854775808 ≤ x.dir
  d2 : x.dir ≤ 9223372036854775807
  hs : x.tn.size ≤ maxLen
  hr : InL 7 EqN.cells InQ w x.A x.len x.cap x.rs
theorem InG.belowW {w w' : World} {x : EdN} (h : InG w x) (hb : Below w.heap.size w w') : InG w' x := ⟨h.e.go hb, h.d1, h.d2, h.hs, h.hr.below (fun z _ hz => hz.belowW hb) hb⟩
def EdN.dirB (x : EdN) : Bool := (x.dir == 1) || (x.dir == 2)
def EdN.ok (x : EdN) : Bool := okE x.T && (x.dirB && (nameP x.tn.data.toList && (decide ((x.len : Int) ≤ 4) && x.rs.all EqN.ok)))
/-- The text of resets. -/
def resT : List EqN → List UInt8
  | [] => []
  | x :: l => [32, 119, 105, 116, 104, 32] ++ x.rt ++ l.flatMap (fun y => [44, 32] ++ y.rt)
def EdN.wd (x : EdN) : List UInt8 := if x.dir = 2 then [32, 102, 97, 108, 108, 115, 32, 103, 111, 116, 111, 32] else [32, 114, 105, 115, 101, 115, 32, 103, 111, 116, 111, 32]
def EdN.txt (x : EdN) : List UInt8 := [9, 119, 104, 101, 110, 32] ++ (Go.Fl.Fm.txt 20 x.T ++ (x.wd ++ (x.tn.data.toList ++ (resT x.rs ++ [59, 10]))))
/-- A mode as it lies. -/
structure MdN where
  s : ByteArray
  A : Option Addr
  n : Nat
  c : Nat
  fl : List EqN
  B : Option Addr
  m : Nat
  d : Nat
  ed : List EdN
@[reducible] def MdN.val (x : MdN) : Value := .agg #[.string x.s, .slice x.A x.n x.c, .slice x.B x.m x.d]
def MdN.cells (x : MdN) : List Value := [.string x.s, .slice x.A x.n x.c, .slice x.B x.m x.d]
structure InM (w : World) (x : MdN) : Prop where
  hs : x.s.size ≤ maxLen
  hf : InL 7 EqN.cells InQ w x.A x.n x.c x.fl
  he : InL 9 EdN.cells InG w x.B x.m x.d x.ed
theorem InM.belowW {w w' : World} {x : MdN} (h : InM w x) (hb : Below w.heap.size w w') : InM w' x := ⟨h.hs, h.hf.below (fun z _ hz => hz.belowW hb) hb, h.he.below (fun z _ hz => hz.belowW hb) hb⟩
def MdN.ok (x : MdN) : Bool := nameP x.s.data.toList && (decide ((x.n : Int) ≤ 4) && (decide ((x.m : Int) ≤ 4) && (x.fl.all EqN.ok && x.ed.all EdN.ok)))
def MdN.hd (x : MdN) : List UInt8 := [109, 111, 100, 101, 32] ++ (x.s.data.toList ++ [32, 123, 10])
def MdN.txt (x : MdN) : List UInt8 := x.hd ++ (x.fl.flatMap EqN.ft ++ (x.ed.flatMap EdN.txt ++ [125, 10]))
/-- A problem as it lies. -/
structure PbN where
  A : Option Addr
  n : Nat
  c : Nat
  st : List DcN
  B : Option Addr
  m : Nat
  d : Nat
  pa : List DcN
  C : Option Addr
  k : Nat
  e : Nat
  ms : List MdN
  t : Int
  u : Int
@[reducible] def PbN.val (x : PbN) : Value := .agg #[.slice x.A x.n x.c, .slice x.B x.m x.d, .slice x.C x.k x.e, .int .i64 x.t, .int .i64 x.u]
def PbN.cells (x : PbN) : List Value := [.slice x.A x.n x.c, .slice x.B x.m x.d, .slice x.C x.k x.e, .int .i64 x.t, .int .i64 x.u]
structure InP (w : World) (x : PbN) : Prop where
  hs : InL 5 DcN.cells InD w x.A x.n x.c x.st
  hp : InL 5 DcN.cells InD w x.B x.m x.d x.pa
  hm : InL 3 MdN.cells InM w x.C x.k x.e x.ms
  t1 : -9223372036854775808 ≤ x.t
  t2 : x.t ≤ 9223372036854775807
  u1 : -9223372036854775808 ≤ x.u
  u2 : x.u ≤ 9223372036854775807
theorem InP.belowW {w w' : World} {x : PbN} (h : InP w x) (hb : Below w.heap.size w w') : InP w' x :=
  ⟨h.hs.below (fun z _ hz => hz.belowW hb) hb, h.hp.below (fun z _ hz => hz.belowW hb) hb, h.hm.below (fun z _ hz => hz.belowW hb) hb, h.t1, h.t2, h.u1, h.u2⟩
def PbN.sz (x : PbN) : Bool := decide (1 ≤ x.n) && decide (x.n ≤ 4) && decide (x.m ≤ 4) && decide (1 ≤ x.k) && decide (x.k ≤ 8)
def PbN.ok (x : PbN) : Bool := x.sz && (x.st.all DcN.ok && (x.pa.all DcN.ok && (x.ms.all MdN.ok && vB x.t x.u)))
def stT (x : DcN) : List UInt8 := [115, 116, 97, 116, 101, 32] ++ x.txt
def paT (x : DcN) : List UInt8 := [112, 97, 114, 97, 109, 32] ++ x.txt
def PbN.txt (x : PbN) : List UInt8 := x.st.flatMap stT ++ (x.pa.flatMap paT ++ (x.ms.flatMap MdN.txt ++ ([116, 105, 109, 101, 32] ++ (textR x.t x.u ++ [59, 10]))))
theorem InD.len {w : World} {A : Option Addr} {len cap : Nat} {zs : List DcN} (h : InL 5 DcN.cells InD w A len cap zs) (j : Nat) (hj : j < len) : ∃ b o x, A = some ⟨b, o, none⟩ ∧ zs[j]? = some x ∧ InD w x ∧ At w b (o + j * 5) x.cells := InL.at_ (m := 5) (cells := DcN.cells) (fun _ => rfl) h j hj
theorem InQ.len {w : World} {A : Option Addr} {len cap : Nat} {zs : List EqN} (h : InL 7 EqN.cells InQ w A len cap zs) (j : Nat) (hj : j < len) : ∃ b o x, A = some ⟨b, o, none⟩ ∧ zs[j]? = some x ∧ InQ w x ∧ At w b (o + j * 7) x.cells := InL.at_ (m := 7) (cells := EqN.cells) (fun _ => rfl) h j hj
theorem InG.len {w : World} {A : Option Addr} {len cap : Nat} {zs : List EdN} (h : InL 9 EdN.cells InG w A len cap zs) (j : Nat) (hj : j < len) : ∃ b o x, A = some ⟨b, o, none⟩ ∧ zs[j]? = some x ∧ InG w x ∧ At w b (o + j * 9) x.cells := InL.at_ (m := 9) (cells := EdN.cells) (fun _ => rfl) h j hj
theorem InM.len {w : World} {A : Option Addr} {len cap : Nat} {zs : List MdN} (h : InL 3 MdN.cells InM w A len cap zs) (j : Nat) (hj : j < len) : ∃ b o x, A = some ⟨b, o, none⟩ ∧ zs[j]? = some x ∧ InM w x ∧ At w b (o + j * 3) x.cells := InL.at_ (m := 3) (cells := MdN.cells) (fun _ => rfl) h j hj
theorem InD.list {w w' : World} {A : Option Addr} {len cap : Nat} {zs : List DcN} (h : InL 5 DcN.cells InD w A len cap zs) (hb : Below w.heap.size w w') : InL 5 DcN.cells InD w' A len cap zs := h.below (fun z _ hz => hz.belowW hb) hb
theorem InQ.list {w w' : World} {A : Option Addr} {len cap : Nat} {zs : List EqN} (h : InL 7 EqN.cells InQ w A len cap zs) (hb : Below w.heap.size w w') : InL 7 EqN.cells InQ w' A len cap zs := h.below (fun z _ hz => hz.belowW hb) hb
theorem InG.list {w w' : World} {A : Option Addr} {len cap : Nat} {zs : List EdN} (h : InL 9 EdN.cells InG w A len cap zs) (hb : Below w.heap.size w w') : InL 9 EdN.cells InG w' A len cap zs := h.below (fun z _ hz => hz.belowW hb) hb
theorem InM.list {w w' : World} {A : Option Addr} {len cap : Nat} {zs : List MdN} (h : InL 3 MdN.cells InM w A len cap zs) (hb : Below w.heap.size w w') : InL 3 MdN.cells InM w' A len cap zs := h.below (fun z _ hz => hz.belowW hb) hb
/-! ### How long the texts are -/
theorem DcN.ok_iff {x : DcN} : x.ok = true ↔ nameP x.s.data.toList = true ∧ (vB x.a x.b && vB x.c x.d) = true := by unfold DcN.ok; rw [Bool.and_eq_true]
theorem EqN.ok_iff {x : EqN} : x.ok = true ↔ nameP x.s.data.toList = true ∧ okE x.T = true := by unfold EqN.ok; rw [Bool.and_eq_true]
theorem range_len {a b c d : Int} (h : (vB a b && vB c d) = true) : (rangeT a b c d).length ≤ 90 := by
  rw [Bool.and_eq_true] at h
  have z1 := textR_len (vB_iff.1 h.1)
  have z2 := textR_len (vB_iff.1 h.2)
  unfold rangeT
  split
  · omega
  · simp only [List.length_append, List.length_cons, List.length_nil]; omega
theorem DcN.txt_len {x : DcN} (h : x.ok = true) : x.txt.length ≤ 116 := by
  obtain ⟨h1, h2⟩ := DcN.ok_iff.1 h
  have := name20 _ h1
  have := range_len h2
  unfold DcN.txt
  simp only [List.length_append, List.length_cons, List.length_nil]; omega
theorem EqN.rt_len {x : EqN} (h : x.ok = true) : x.rt.length ≤ 10023 := by
  obtain ⟨h1, h2⟩ := EqN.ok_iff.1 h
  have := name20 _ h1
  have := (txt20 h2).2
  unfold EqN.rt
  simp only [List.length_append, List.length_cons, List.length_nil]; omega
theorem EqN.ft_len {x : EqN} (h : x.ok = true) : x.ft.length ≤ 10027 := by
  obtain ⟨h1, h2⟩ := EqN.ok_iff.1 h
  have := name20 _ h1
  have := (txt20 h2).2
  unfold EqN.ft
  simp only [List.length_append, List.length_cons, List.length_nil]; omega
theorem resT_len (l : List EqN) (h : l.all EqN.ok = true) : (resT l).length ≤ 10029 * l.length := by
  cases l with
  | nil => simp [resT]
  | cons x l =>
    have h1 := EqN.rt_len (List.all_eq_true.1 h x (by simp))
    have h2 := flat_len (fun y : EqN => [44, 32] ++ y.rt) l 10029 (fun y hy => by
      have := EqN.rt_len (List.all_eq_true.1 h y (by simp [hy]))
      simp only [List.length_append, List.length_cons, List.length_nil]; omega)
    unfold resT
    simp only [List.length_append, List.length_cons, List.length_nil, Nat.mul_succ] at h2 ⊢
    omega
theorem EdN.ok_iff {x : EdN} : x.ok = true ↔ okE x.T = true ∧ x.dirB = true ∧ nameP x.tn.data.toList = true ∧ x.len ≤ 4 ∧ x.rs.all EqN.ok = true := by
  unfold EdN.ok
  rw [Bool.and_eq_true, Bool.and_eq_true, Bool.and_eq_true, Bool.and_eq_true, decide_eq_true_eq]
  have : ((x.len : Int) ≤ 4) ↔ x.len ≤ 4 := by omega
  rw [this]
theorem EdN.wd_len (x : EdN) : x.wd.length = 12 := by unfold EdN.wd; split <;> rfl
theorem EdN.txt_len {w : World} {x : EdN} (hx : InG w x) (h : x.ok = true) : x.txt.length ≤ 50156 := by
  obtain ⟨h1, _, h2, h3, h4⟩ := EdN.ok_iff.1 h
  have := name20 _ h2
  have := (txt20 h1).2
  have := x.wd_len
  have h5 := resT_len x.rs h4
  have := hx.hr.hl
  unfold EdN.txt
  simp only [List.length_append, List.length_cons, List.length_nil]; omega
theorem MdN.ok_iff {x : MdN} : x.ok = true ↔ nameP x.s.data.toList = true ∧ x.n ≤ 4 ∧ x.m ≤ 4 ∧ x.fl.all EqN.ok = true ∧ x.ed.all EdN.ok = true := by
  unfold MdN.ok
  rw [Bool.and_eq_true, Bool.and_eq_true, Bool.and_eq_true, Bool.and_eq_true, decide_eq_true_eq, decide_eq_true_eq]
  have : ((x.n : Int) ≤ 4) ↔ x.n ≤ 4 := by omega
  have h2 : ((x.m : Int) ≤ 4) ↔ x.m ≤ 4 := by omega
  rw [this, h2]
theorem MdN.fl_len {w : World} {x : MdN} (hx : InM w x) (h : x.ok = true) : (x.fl.flatMap EqN.ft).length ≤ 40108 := by
  obtain ⟨_, h3, _, h4, _⟩ := MdN.ok_iff.1 h
  have h5 := flat_len EqN.ft x.fl 10027 (fun y hy => EqN.ft_len (List.all_eq_true.1 h4 y hy))
  have := hx.hf.hl
  omega
theorem MdN.ed_len {w : World} {x : MdN} (hx : InM w x) (h : x.ok = true) : (x.ed.flatMap EdN.txt).length ≤ 200624 := by
  obtain ⟨_, _, h3, _, h4⟩ := MdN.ok_iff.1 h
  have h5 := flat_len EdN.txt x.ed 50156 (fun y hy => EdN.txt_len (hx.he.hi y hy) (List.all_eq_true.1 h4 y hy))
  have := hx.he.hl
  omega
theorem MdN.hd_len {x : MdN} (h : x.ok = true) : x.hd.length ≤ 28 := by
  have := name20 _ (MdN.ok_iff.1 h).1
  unfold MdN.hd
  simp only [List.length_append, List.length_cons, List.length_nil]; omega
theorem MdN.txt_len {w : World} {x : MdN} (hx : InM w x) (h : x.ok = true) : x.txt.length ≤ 240762 := by
  have := MdN.fl_len hx h
  have := MdN.ed_len hx h
  have := MdN.hd_len h
  unfold MdN.txt
  simp only [List.length_append, List.length_cons, List.length_nil]; omega
end Go.Proofs.YtkjoohnndobjeaaGreatDoor
