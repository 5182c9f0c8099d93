/-
  Lists that the parser makes: rows in the making, with what their elements hold.
  Two rows in the making side by side; appends in drawn regions.
-/
import Derived.Test.YtkjoohnndobjeaaGreatDoorQV
import Derived.Test.YtkjoohnndobjeaaGreatDoorQJ
import Derived.Test.YtkjoohnndobjeaaGreatDoorQC
import Derived.Test.YtkjoohnndobjeaaGreatDoorQS
set_option linter.unusedVariables false
namespace Go.Proofs.YtkjoohnndobjeaaGreatDoor
open Go.RowKit Go.Fl Go.Fl.Lx Go.Fl.Nm Go.Fl.Fm Go.Fl.Rt Go.Fl.Pa
/-- What an element holds lies in blocks that P allows; it goes along. -/
structure PzOk {Z : Type} (Pz : (Nat → Prop) → World → Z → Prop) : Prop where
  mv : ∀ {P : Nat → Prop} {w w' : World} {r : Option Nat} {z : Z}, Pz P w z → (∀ b, P b → some b ≠ r) → w.grownBy w' r → Pz P w' z
  weaken : ∀ {P Q : Nat → Prop} {w : World} {z : Z}, Pz P w z → (∀ b, P b → Q b) → Pz Q w z
  lt : ∀ {P : Nat → Prop} {w : World} {z : Z}, Pz P w z → Pz (fun b => P b ∧ b < w.heap.size) w z
theorem ina_mv {P : Nat → Prop} {w w' : World} {r : Option Nat} {T : TE} {v : Nd} (h : InA P w T v) (hr : ∀ b, P b → some b ≠ r) (hg : w.grownBy w' r) : InA P w' T v := by
  cases r with
  | none => exact h.belowW ⟨hg.os, hg.tape, hg.output, hg.size, fun k hk => hg.block k hk (by simp)⟩
  | some g => exact InA.mv h (fun hp => hr g hp rfl) hg
/-- A row in the making: no element lies in the row's own block. -/
structure Mk {Z : Type} (e : TypeId) (m : Nat) (cells : Z → List Value) (Pz : (Nat → Prop) → World → Z → Prop) (base : Nat) (w : World) (v : Value) (zs : List Z) : Prop where
  own : w.ownsRow base e m v zs.length (zs.flatMap cells)
  el : ∀ z ∈ zs, Pz (fun b => base ≤ b ∧ b < w.heap.size ∧ some b ≠ v.ownBlock) w z
section
variable {Z : Type} {e : TypeId} {m : Nat} {cells : Z → List Value} {Pz : (Nat → Prop) → World → Z → Prop} {base : Nat} {w w' : World} {v : Value} {zs : List Z}
theorem Mk.nil (e : TypeId) (m : Nat) (cells : Z → List Value) (Pz : (Nat → Prop) → World → Z → Prop) (base : Nat) (w : World) : Mk e m cells Pz base w (.slice none 0 0) ([] : List Z) :=
  ⟨⟨by simp, .inl ⟨rfl, rfl⟩⟩, fun z hz => by cases hz⟩
theorem Mk.moved (hok : PzOk Pz) (h : Mk e m cells Pz base w v zs) {r : Option Nat} (hr : r = none ∨ ∃ k, r = some k ∧ k < base) (hg : w.grownBy w' r) : Mk e m cells Pz base w' v zs := by
  refine ⟨h.own.kept hg ?_, fun z hz => hok.weaken (hok.mv (h.el z hz) (fun b hb e => ?_) hg) (fun b hb => ⟨hb.1, Nat.lt_of_lt_of_le hb.2.1 hg.size, hb.2.2⟩)⟩
  · cases hv : v.ownBlock with
    | none => exact .inl rfl
    | some k =>
      right
      have := (h.own.lt k hv).1
      rcases hr with e | ⟨j, e, hj⟩
      · rw [e]; simp
      · rw [e]; intro e2; injection e2 with e2; omega
  · rcases hr with e2 | ⟨j, e2, hj⟩
    · rw [e2] at e; cases e
    · rw [e2] at e; injection e with e; have := hb.1; omega
theorem Mk.belowW (hok : PzOk Pz) (h : Mk e m cells Pz base w v zs) (hb : Below w.heap.size w w') : Mk e m cells Pz base w' v zs := h.moved hok (.inl rfl) ⟨hb.os, hb.tape, hb.output, hb.size, fun k hk _ => hb.block k hk⟩
/-- One more element. -/
theorem Mk.push (hok : PzOk Pz) (hlen : ∀ z, (cells z).length = m) (h : Mk e m cells Pz base w v zs) {z : Z} (hz : Pz (fun b => base ≤ b ∧ b < w.heap.size ∧ some b ≠ v.ownBlock) w z)
    (t ty : TypeId) (i : TypeInfo) (zv : Value) (bytes : Nat) (ht : Tryz.prog.underlying t = some (.slice e)) (hi : Tryz.prog.info? e = some i) (hzv : i.zero = some zv)
    (hsize : i.size = m) (hby : i.bytes = bytes) (hzs : zv.cells.size = m) (hsz : 0 < m) (hb60 : bytes ≤ 1000) (hsm : zs.length ≤ 200000)
    (gs : Nat) (hs : Blk w gs e (cells z).toArray) (hone : ∀ u ∈ cells z, u.oneCell' = true) (hbase : base ≤ w.heap.size) (c : Nat) :
    ∃ v' w', (Builtin.append_ #[t, t] ty #[v, .slice (some ⟨gs, 0, none⟩) 1 c]).run Tryz.prog w = .ok v' w' ∧ Mk e m cells Pz base w' v' (zs ++ [z]) ∧ w.grownBy w' v.ownBlock ∧ (v'.ownBlock = v.ownBlock ∨ v'.ownBlock = some w.heap.size) := by
  obtain ⟨v', w', hrun, h2, h3, _, h5⟩ := run_append_own_at (P := Tryz.prog) w base t ty e i zv m bytes ht hi hzv hsize hby hzs hsz v zs.length (zs.flatMap cells) h.own ⟨gs, 0, none⟩ 1 c (cells z) (by rw [hlen, Nat.one_mul])
    (fun j u hu => by
      rw [Addr.add_lit, Nat.zero_add, hs.cell j, List.getElem?_toArray]
      exact hu) hone (by unfold maxLen; omega) (by
        have : (zs.length + 1) * bytes ≤ 200001 * 1000 := Nat.mul_le_mul (by omega) hb60
        omega) hbase
  refine ⟨v', w', hrun, ⟨by rw [List.length_append, List.flatMap_append]; simpa using h2, fun x hx => ?_⟩, h3, h5⟩
  have key : ∀ x, Pz (fun b => base ≤ b ∧ b < w.heap.size ∧ some b ≠ v.ownBlock) w x → Pz (fun b => base ≤ b ∧ b < w'.heap.size ∧ some b ≠ v'.ownBlock) w' x := fun x hx =>
    hok.weaken (hok.mv hx (fun b hb => hb.2.2) h3) (fun b hb => ⟨hb.1, Nat.lt_of_lt_of_le hb.2.1 h3.size, by
      rcases h5 with e5 | e5
      · rw [e5]; exact hb.2.2
      · rw [e5]; intro e6; injection e6 with e6; omega⟩)
  rcases List.mem_append.1 hx with hx | hx
  · exact key x (h.el x hx)
  · rw [List.mem_singleton.1 hx]
    exact key z hz
/-- A list lies at a slice, all of it in blocks that P allows. -/
structure LiL {Z : Type} (m : Nat) (cells : Z → List Value) (Pz : (Nat → Prop) → World → Z → Prop) (P : Nat → Prop) (w : World) (A : Option Addr) (len cap : Nat) (zs : List Z) : Prop where
  il : InL m cells (fun w z => Pz P w z) w A len cap zs
  hg : 0 < len → ∀ b o, A = some ⟨b, o, none⟩ → P b
theorem LiL.weaken (hok : PzOk Pz) {P Q : Nat → Prop} {A : Option Addr} {len cap : Nat} (h : LiL m cells Pz P w A len cap zs) (hC : ∀ b, P b → Q b) : LiL m cells Pz Q w A len cap zs :=
  ⟨⟨h.il.hl, h.il.hc, h.il.hm, h.il.hr, fun z hz => hok.weaken (h.il.hi z hz) hC⟩, fun hn b o e => hC b (h.hg hn b o e)⟩
theorem LiL.mv (hok : PzOk Pz) {P : Nat → Prop} {A : Option Addr} {len cap : Nat} {r : Option Nat} (h : LiL m cells Pz P w A len cap zs) (hr : ∀ b, P b → some b ≠ r) (hg : w.grownBy w' r) : LiL m cells Pz P w' A len cap zs := by
  refine ⟨⟨h.il.hl, h.il.hc, h.il.hm, ⟨h.il.hr.1, fun hn => ?_⟩, fun z hz => hok.mv (h.il.hi z hz) hr hg⟩, h.hg⟩
  obtain ⟨b, off, hA, hlt, hcell⟩ := h.il.hr.2 hn
  refine ⟨b, off, hA, Nat.lt_of_lt_of_le hlt hg.size, fun j u hu => ?_⟩
  have h1 := hcell j u hu
  have h2 := hg.block b hlt (hr b (h.hg hn b off hA))
  unfold World.cell? at h1 ⊢
  rw [h2]
  exact h1
theorem LiL.lt (hok : PzOk Pz) {P : Nat → Prop} {A : Option Addr} {len cap : Nat} (h : LiL m cells Pz P w A len cap zs) : LiL m cells Pz (fun b => P b ∧ b < w.heap.size) w A len cap zs := by
  refine ⟨⟨h.il.hl, h.il.hc, h.il.hm, h.il.hr, fun z hz => hok.lt (h.il.hi z hz)⟩, fun hn b o e => ⟨h.hg hn b o e, ?_⟩⟩
  obtain ⟨b', off, hA, hlt, _⟩ := h.il.hr.2 hn
  rw [e] at hA
  injection hA with hA
  injection hA with hA
  rw [hA]
  exact hlt
/-- What a row in the making comes to. -/
theorem Mk.lies (hok : PzOk Pz) (h : Mk e m cells Pz base w v zs) : ∃ A cap, v = .slice A zs.length cap ∧ LiL m cells Pz (fun b => base ≤ b) w A zs.length cap zs := by
  obtain ⟨hx, h1 | ⟨g, cap, cur, hv, hg, hcell, hn, hm, hcs, htk⟩⟩ := h.own
  · have hz : zs = [] := List.eq_nil_of_length_eq_zero h1.2
    subst hz
    exact ⟨none, 0, h1.1, ⟨rfl, Nat.le_refl _, Nat.zero_le _, Rd.none_ _ _, fun z hz => by cases hz⟩, fun hn => absurd hn (Nat.lt_irrefl 0)⟩
  · refine ⟨some ⟨g, 0, none⟩, cap, hv, ⟨rfl, hn, hm, ⟨hx, fun _ => ⟨g, 0, rfl, (Array.getElem?_eq_some_iff.1 hcell).1, fun j u hu => ?_⟩⟩, fun z hz => hok.weaken (h.el z hz) (fun b hb => hb.1)⟩, fun _ b o e => by injection e with e; injection e with e; rw [← e]; exact hg⟩
    rw [Nat.zero_add]
    unfold World.cell?
    rw [hcell]
    have h2 : cur.toList[j]? = some u := by
      rw [← htk, List.getElem?_take] at hu
      split at hu
      · exact hu
      · cases hu
    have h3 : cur[j]? = some u := by rw [← Array.getElem?_toList]; exact h2
    simp [h3]
end
/-! What the parser's lists hold. -/
def PzD (_ : Nat → Prop) (w : World) (x : DcN) : Prop := InD w x
theorem pzD : PzOk PzD := ⟨fun h _ _ => ⟨h.r, h.hs⟩, fun h _ => h, fun h => h⟩
def PzQ (P : Nat → Prop) (w : World) (x : EqN) : Prop := InA P w x.T x.v ∧ x.s.size ≤ maxLen
theorem pzQ : PzOk PzQ := ⟨fun h hr hg => ⟨ina_mv h.1 hr hg, h.2⟩, fun h hC => ⟨h.1.weaken hC, h.2⟩, fun h => ⟨h.1.lt, h.2⟩⟩
structure PzG (P : Nat → Prop) (w : World) (x : EdN) : Prop where
  e : InA P w x.T x.v
  d1 : -9223372036854775808 ≤ x.dir
  d2 : x.dir ≤ 9223372036854775807
  hs : x.tn.size ≤ maxLen
  hr : LiL 7 EqN.cells PzQ P w x.A x.len x.cap x.rs
theorem pzG : PzOk PzG := ⟨fun h hr hg => ⟨ina_mv h.e hr hg, h.d1, h.d2, h.hs, h.hr.mv pzQ hr hg⟩, fun h hC => ⟨h.e.weaken hC, h.d1, h.d2, h.hs, h.hr.weaken pzQ hC⟩, fun h => ⟨h.e.lt, h.d1, h.d2, h.hs, h.hr.lt pzQ⟩⟩
structure PzM (P : Nat → Prop) (w : World) (x : MdN) : Prop where
  hs : x.s.size ≤ maxLen
  hf : LiL 7 EqN.cells PzQ P w x.A x.n x.c x.fl
  he : LiL 9 EdN.cells PzG P w x.B x.m x.d x.ed
theorem pzM : PzOk PzM := ⟨fun h hr hg => ⟨h.hs, h.hf.mv pzQ hr hg, h.he.mv pzG hr hg⟩, fun h hC => ⟨h.hs, h.hf.weaken pzQ hC, h.he.weaken pzG hC⟩, fun h => ⟨h.hs, h.hf.lt pzQ, h.he.lt pzG⟩⟩
/-- As the format's walks want them. -/
theorem inl_mono {Z : Type} {m : Nat} {cells : Z → List Value} {Pw Pv : World → Z → Prop} {w : World} {A : Option Addr} {len cap : Nat} {zs : List Z} (h : InL m cells Pw w A len cap zs) (hC : ∀ z ∈ zs, Pw w z → Pv w z) : InL m cells Pv w A len cap zs :=
  ⟨h.hl, h.hc, h.hm, h.hr, fun z hz => hC z hz (h.hi z hz)⟩
theorem PzQ.toQ {P : Nat → Prop} {w : World} {x : EqN} (h : PzQ P w x) : InQ w x := ⟨h.1.toE, h.2⟩
theorem PzG.toG {P : Nat → Prop} {w : World} {x : EdN} (h : PzG P w x) : InG w x := ⟨h.e.toE, h.d1, h.d2, h.hs, inl_mono h.hr.il (fun z _ hz => PzQ.toQ hz)⟩
theorem PzM.toM {P : Nat → Prop} {w : World} {x : MdN} (h : PzM P w x) : InM w x := ⟨h.hs, inl_mono h.hf.il (fun z _ hz => PzQ.toQ hz), inl_mono h.he.il (fun z _ hz => PzG.toG hz)⟩
/-- What was read, of what lies there. -/
def DcN.pl (x : DcN) : DcP := ⟨x.s.data.toList, ⟨(x.a, x.b), (x.c, x.d)⟩⟩
def EqN.pl (x : EqN) : EqP := ⟨x.s.data.toList, x.T⟩
def EdN.pl (x : EdN) : EdP := ⟨x.T, x.dir, x.tn.data.toList, x.rs.map EqN.pl⟩
def MdN.pl (x : MdN) : MdP := ⟨x.s.data.toList, x.fl.map EqN.pl, x.ed.map EdN.pl⟩
end Go.Proofs.YtkjoohnndobjeaaGreatDoor
namespace Go.Proofs.YtkjoohnndobjeaaGreatDoor
open Go.RowKit Go.Fl Go.Fl.Lx Go.Fl.Nm Go.Fl.Fm Go.Fl.Rt Go.Fl.Pa
/-- As Pz, in blocks that are not av's. -/
def Avd {Z : Type} (av : Nat → Prop) (Pz : (Nat → Prop) → World → Z → Prop) (P : Nat → Prop) (w : World) (z : Z) : Prop := Pz (fun b => P b ∧ ¬ av b) w z
theorem avd_ok {Z : Type} {av : Nat → Prop} {Pz : (Nat → Prop) → World → Z → Prop} (hok : PzOk Pz) : PzOk (Avd av Pz) :=
  ⟨fun h hr hg => hok.mv h (fun b hb => hr b hb.1) hg, fun h hC => hok.weaken h (fun b hb => ⟨hC b hb.1, hb.2⟩), fun h => hok.weaken (hok.lt h) (fun b hb => ⟨⟨hb.1.1, hb.2⟩, hb.1.2⟩)⟩
def Own (v : Value) (b : Nat) : Prop := v.ownBlock = some b
theorem grown_none {w w' : World} {B : Nat} (hB : w.heap.size ≤ B) (hb : Below B w w') : w.grownBy w' none := ⟨hb.os, hb.tape, hb.output, hb.size, fun k hk _ => hb.block k (Nat.lt_of_lt_of_le hk hB)⟩
/-- Two rows in the making: no element lies in a row's own block. -/
structure Mk2 {Z Y : Type} (e : TypeId) (m : Nat) (cells : Z → List Value) (Pz : (Nat → Prop) → World → Z → Prop) (e' : TypeId) (m' : Nat) (cells' : Y → List Value) (Py : (Nat → Prop) → World → Y → Prop) (base : Nat) (w : World) (v : Value) (zs : List Z) (u : Value) (ys : List Y) : Prop where
  a : Mk e m cells (Avd (Own u) Pz) base w v zs
  b : Mk e' m' cells' (Avd (Own v) Py) base w u ys
  nd : ∀ k, v.ownBlock = some k → u.ownBlock ≠ some k
section
variable {Z Y : Type} {e : TypeId} {m : Nat} {cells : Z → List Value} {Pz : (Nat → Prop) → World → Z → Prop} {e' : TypeId} {m' : Nat} {cells' : Y → List Value} {Py : (Nat → Prop) → World → Y → Prop} {base : Nat} {w w' : World} {v u : Value} {zs : List Z} {ys : List Y}
theorem Mk2.nil (e : TypeId) (m : Nat) (cells : Z → List Value) (Pz : (Nat → Prop) → World → Z → Prop) (e' : TypeId) (m' : Nat) (cells' : Y → List Value) (Py : (Nat → Prop) → World → Y → Prop) (base : Nat) (w : World) : Mk2 e m cells Pz e' m' cells' Py base w (.slice none 0 0) ([] : List Z) (.slice none 0 0) ([] : List Y) :=
  ⟨Mk.nil _ _ _ _ _ _, Mk.nil _ _ _ _ _ _, fun k h => by cases h⟩
theorem Mk2.moved (hz : PzOk Pz) (hy : PzOk Py) (h : Mk2 e m cells Pz e' m' cells' Py base w v zs u ys) {r : Option Nat} (hr : r = none ∨ ∃ k, r = some k ∧ k < base) (hg : w.grownBy w' r) : Mk2 e m cells Pz e' m' cells' Py base w' v zs u ys :=
  ⟨h.a.moved (avd_ok hz) hr hg, h.b.moved (avd_ok hy) hr hg, h.nd⟩
theorem Mk2.belowW (hz : PzOk Pz) (hy : PzOk Py) (h : Mk2 e m cells Pz e' m' cells' Py base w v zs u ys) (hb : Below w.heap.size w w') : Mk2 e m cells Pz e' m' cells' Py base w' v zs u ys := h.moved hz hy (.inl rfl) (grown_none (Nat.le_refl _) hb)
theorem LiL.unavd (hz : PzOk Pz) {av P : Nat → Prop} {A : Option Addr} {len cap : Nat} (h : LiL m cells (Avd av Pz) P w A len cap zs) : LiL m cells Pz P w A len cap zs :=
  ⟨⟨h.il.hl, h.il.hc, h.il.hm, h.il.hr, fun z hzz => hz.weaken (h.il.hi z hzz) (fun b hb => hb.1)⟩, h.hg⟩
theorem Mk2.lies (hz : PzOk Pz) (hy : PzOk Py) (h : Mk2 e m cells Pz e' m' cells' Py base w v zs u ys) : ∃ A c B d, v = .slice A zs.length c ∧ u = .slice B ys.length d ∧ LiL m cells Pz (fun b => base ≤ b) w A zs.length c zs ∧ LiL m' cells' Py (fun b => base ≤ b) w B ys.length d ys := by
  obtain ⟨A, c, h1, h2⟩ := h.a.lies (avd_ok hz)
  obtain ⟨B, d, h3, h4⟩ := h.b.lies (avd_ok hy)
  exact ⟨A, c, B, d, h1, h3, h2.unavd hz, h4.unavd hy⟩
end
end Go.Proofs.YtkjoohnndobjeaaGreatDoor
