/-
  The parser's state, and the walks of its small methods.
  The walks of the parser's tests and small steps.
  The plain model of the parser: its rules go forward, and enough fuel is enough. No program in sight.
  The walk of ratio.Parse.
  The walks of the parser's numbers.
  The walks of the parser's quotients, values, names.
-/
import Derived.Test.YtkjoohnndobjeaaGreatDoorQA
import Derived.Test.YtkjoohnndobjeaaGreatDoorQC
import Derived.Test.YtkjoohnndobjeaaGreatDoorQH
import Derived.Test.YtkjoohnndobjeaaGreatDoorQG
set_option linter.unusedVariables false
namespace Go.Proofs.YtkjoohnndobjeaaGreatDoor
open Go.RowKit Go.Fl Go.Fl.Lx Go.Fl.Nm Go.Fl.Fm Go.Fl.Rt Go.Fl.Pa
open List (setIfInBounds_toArray set_cons_zero set_cons_succ getElem_toArray getElem_cons_zero getElem_cons_succ)
/-- The tokens as they lie. -/
structure TsAt (w : World) (A : Option Addr) (len cap : Nat) (ts : List Tok) : Prop where
  hl : ts.length = len
  hc : len ≤ cap
  hm : cap ≤ maxLen
  hs : len ≤ 100000
  hr : Rd w 4 A len (toksCells ts)
  ht : ∀ t ∈ ts, t.text.length ≤ 100 ∧ t.kind ≤ 3 ∧ t.line ≤ 100000 ∧ t.col ≤ 100000
theorem TsAt.belowW {w w' : World} {A : Option Addr} {len cap : Nat} {ts : List Tok} (h : TsAt w A len cap ts) (hb : Below w.heap.size w w') : TsAt w' A len cap ts := ⟨h.hl, h.hc, h.hm, h.hs, h.hr.below hb, h.ht⟩
@[reducible] def tokV (t : Tok) : Value := .agg #[.int .i64 t.kind, .string ⟨t.text.toArray⟩, .int .i64 t.line, .int .i64 t.col]
/-- The parser in block g: its tokens, the next one's number, the nesting. -/
def Ps (g : Nat) (A : Option Addr) (len cap k m : Nat) (w : World) : Prop := Blk w g 140 #[.slice A len cap, .int .i64 (k : Nat), .int .i64 (m : Nat)]
theorem Ps.belowW {g : Nat} {A : Option Addr} {len cap k m : Nat} {w w' : World} (h : Ps g A len cap k m w) (hb : Below w.heap.size w w') : Ps g A len cap k m w' := Blk.belowW h hb
theorem tk_at {ts : List Tok} {k : Nat} (h : k < ts.length) : ts[k]? = some (tk ts k) := by
  unfold tk
  rw [List.getD_eq_getElem?_getD, List.getElem?_eq_getElem h]
  rfl
theorem tk_end {ts : List Tok} {k : Nat} (h : ts.length ≤ k) : tk ts k = ⟨0, [], 0, 0⟩ := by
  unfold tk
  rw [List.getD_eq_getElem?_getD, List.getElem?_eq_none h]
  rfl
theorem TsAt.tk {w : World} {A : Option Addr} {len cap : Nat} {ts : List Tok} (h : TsAt w A len cap ts) (k : Nat) : (tk ts k).text.length ≤ 100 ∧ (tk ts k).kind ≤ 3 ∧ (tk ts k).line ≤ 100000 ∧ (tk ts k).col ≤ 100000 := by
  by_cases hk : k < ts.length
  · exact h.ht _ (List.mem_of_getElem? (tk_at hk))
  · rw [tk_end (by omega)]
    exact ⟨Nat.zero_le _, Nat.zero_le _, Nat.zero_le _, Nat.zero_le _⟩
theorem TsAt.at_ {w : World} {A : Option Addr} {len cap : Nat} {ts : List Tok} (h : TsAt w A len cap ts) (k : Nat) (hk : k < len) :
    ∃ b o, A = some ⟨b, o, none⟩ ∧ Ct w b (o + k * 4) (tokCells (Pa.tk ts k)) := by
  obtain ⟨b, o, hA, hb, hcell⟩ := h.hr.at_ (by omega)
  have ht := tk_at (ts := ts) (k := k) (by rw [h.hl]; exact hk)
  refine ⟨b, o, hA, hb, fun j u hu => ?_⟩
  have hj : j < 4 := (List.getElem?_eq_some_iff.1 hu).1
  have := hcell _ _ ((toks_at ts k _ ht j hj).trans hu)
  rwa [← Nat.add_assoc] at this
/-- How a rule ends in an error. -/
@[reducible] def pan (ln co er : Int) : Ending := .panicked [{ v := .iface 137 (.agg #[.int .i64 ln, .int .i64 co, .int .i64 er]), recovered := false }]
theorem tokF0 (t : Tok) (w : World) : (Instr.field 58 (tokV t) 0).run Tryz.prog w = .ok (.int .i64 t.kind) w := by kernel_rfl
theorem tokF1 (t : Tok) (w : World) : (Instr.field 58 (tokV t) 1).run Tryz.prog w = .ok (.string ⟨t.text.toArray⟩) w := by kernel_rfl
theorem tokF2 (t : Tok) (w : World) : (Instr.field 58 (tokV t) 2).run Tryz.prog w = .ok (.agg #[.int .i64 t.line, .int .i64 t.col]) w := by kernel_rfl
theorem beq_txt (l : List UInt8) (s : ByteArray) : ((⟨l.toArray⟩ : ByteArray) == s) = (l == s.data.toList) := by
  cases s with
  | mk d =>
    show ((l.toArray : Array UInt8) == d) = (l == d.toList)
    cases d with
    | mk e => simp

set_option maxHeartbeats 4000000 in
set_option maxRecDepth 100000 in
theorem pToken (w0 w : World) (g k m : Nat) (A : Option Addr) (len cap : Nat) (ts : List Tok) (hT : TsAt w0 A len cap ts) (hw : Below w0.heap.size w0 w) (hg : w0.heap.size ≤ g) (hP : Ps g A len cap k m w) (hk : k ≤ 150000) (n : Nat) (hn : n ≤ 10) : Calls Tryz.prog 124 #[.pointer (some ⟨g, 0, none⟩), .int .i64 (n : Nat)] w (RetB (tokV (tk ts (k + n))) w) := by
  have HT := Lib.hid hT
  have HW := Lib.hid hw
  have HP := Lib.hid hP
  have hlm := hT.hs
  have HLN := Lib.hid hT.hl
  unfold Ps at HP
  clear hT hw hP
  have e1 : IntKind.i64.wrap ((k : Int) + (n : Int)) = (k : Int) + (n : Int) := by rw [IntKind.wrap_i64]; omega
  have e2 : ((k : Int) + (n : Int)).toNat = k + n := by omega
  have hgw := HP.out.lt
  by_cases hlt : k + n < len
  · obtain ⟨b, o, hA, h4⟩ := (HT.out.belowW HW.out).at_ (k + n) hlt
    subst hA
    have E0 := Lib.hid h4
    obtain ⟨T, hTT⟩ : ∃ t, t = tk ts (k + n) := ⟨_, rfl⟩
    rw [← hTT] at E0 ⊢
    clear h4 hTT
    have hbw := E0.out.lt
    have hidx : 0 ≤ (k : Int) + (n : Int) ∧ (k : Int) + (n : Int) < (len : Int) := by omega
    have d1 : decide ((len : Int) ≤ (k : Int) + (n : Int)) = false := decide_eq_false (by omega)
    have d2 : decide (len ≤ k + n) = false := decide_eq_false (by omega)
    go_enter Tryz.func124, Tryz.ntmps124
    go_upto_region 1 with (fail)
    obtain ⟨w1, hw1⟩ : ∃ z9 : World, z9 = w.alloc (Obj.cells #[.int .i64 0, .string ⟨#[]⟩, .int .i64 0, .int .i64 0] 58) := ⟨_, rfl⟩
    have O1 := Lib.hid (show Lo w w1 by rw [hw1]; exact below_box _ _)
    have F1 := Lib.hid (show Blk w1 w.heap.size 58 #[.int .i64 0, .string ⟨#[]⟩, .int .i64 0, .int .i64 0] by rw [hw1]; exact Blk.new _ _ _)
    rw [← hw1]
    clear hw1
    have P1 := Lib.hid (HP.out.belowW O1.out)
    have E1 := Lib.hid (E0.out.belowW O1.out)
    have GN := Lib.hid (show g ≠ w.heap.size from Nat.ne_of_lt hgw)
    have GE := Lib.hid (show b ≠ w.heap.size from Nat.ne_of_lt hbw)
    have HR21 := Lib.hid (below_dr w1)
    have R21r := Lib.hid (F1.out.belowW HR21.out)
    have R21p := Lib.hid (P1.out.belowW HR21.out)
    have R21o := Lib.hid (O1.out.belowW HR21.out)
    have R21e := Lib.hid (E1.out.belowW HR21.out)
    refine wp_region_held_drew (S := fun w' => w'.cell? ⟨g, 0, none⟩ = some (.slice (some ⟨b, o, none⟩) len cap) ∧ w'.cell? ⟨g, 1, none⟩ = some (.int .i64 (k : Nat)) ∧ w'.cell? ⟨g, 2, none⟩ = some (.int .i64 (m : Nat))) (by kernel_rfl) ?_ (fun hHeld => ?_)
    case refine_1 => exact ⟨R21p.out.cell 0, R21p.out.cell 1, R21p.out.cell 2⟩
    obtain ⟨wd21, hwd⟩ : ∃ z9 : World, z9 = w1.drew := ⟨_, rfl⟩
    rw [← hwd] at HR21 R21r R21p R21o R21e hHeld ⊢
    clear hwd
    refine tkY 0 rfl (v := ?_) (.inl ⟨by rfl, ?_⟩) ?_
    case refine_2 => intro w9 hSw; (try dsimp only at hSw); go_simp; (try with_reducible rfl)
    try simp only [Act.put, setIfInBounds_toArray, set_cons_zero, set_cons_succ, getElem_toArray, getElem_cons_zero]
    refine tkY 1 rfl (v := ?_) (.inl ⟨by rfl, ?_⟩) ?_
    case refine_2 => intro w9 hSw; (try dsimp only at hSw); go_simp; (try with_reducible rfl)
    try simp only [Act.put, setIfInBounds_toArray, set_cons_zero, set_cons_succ, getElem_toArray, getElem_cons_zero, getElem_cons_succ]
    refine tkY 2 rfl (v := ?_) (.inl ⟨by rfl, ?_⟩) ?_
    case refine_2 => intro w9 hSw; (try dsimp only at hSw); go_simp; (try with_reducible rfl)
    try simp only [Act.put, setIfInBounds_toArray, set_cons_zero, set_cons_succ, getElem_toArray, getElem_cons_zero, getElem_cons_succ]
    refine tkY 3 rfl (v := ?_) (.inl ⟨by rfl, ?_⟩) ?_
    case refine_2 => intro w9 hSw; (try dsimp only at hSw); go_simp; (try with_reducible rfl)
    try simp only [Act.put, setIfInBounds_toArray, set_cons_zero, set_cons_succ, getElem_toArray, getElem_cons_zero, getElem_cons_succ]
    refine tkY 4 rfl (v := ?_) (.inl ⟨by rfl, ?_⟩) ?_
    case refine_2 => intro w9 hSw; (try dsimp only at hSw); go_simp; (try with_reducible rfl)
    try simp only [Act.put, setIfInBounds_toArray, set_cons_zero, set_cons_succ, getElem_toArray, getElem_cons_zero, getElem_cons_succ]
    refine tkY 5 rfl (v := ?_) (.inl ⟨by rfl, ?_⟩) ?_
    case refine_2 => intro w9 hSw; (try dsimp only at hSw); go_simp; (try with_reducible rfl)
    try simp only [Act.put, setIfInBounds_toArray, set_cons_zero, set_cons_succ, getElem_toArray, getElem_cons_zero, getElem_cons_succ]
    refine tkY 6 rfl (v := ?_) (.inl ⟨by rfl, ?_⟩) ?_
    case refine_2 => intro w9 hSw; (try dsimp only at hSw); go_simp; (try with_reducible rfl)
    try simp only [Act.put, setIfInBounds_toArray, set_cons_zero, set_cons_succ, getElem_toArray, getElem_cons_zero, getElem_cons_succ]
    refine tkY 7 rfl (v := ?_) (.inl ⟨by rfl, ?_⟩) ?_
    case refine_2 => intro w9 hSw; (try dsimp only at hSw); go_simp; (try with_reducible rfl)
    try simp only [Act.put, setIfInBounds_toArray, set_cons_zero, set_cons_succ, getElem_toArray, getElem_cons_zero, getElem_cons_succ]
    refine tkY 8 rfl (v := ?_) (.inl ⟨by rfl, ?_⟩) ?_
    case refine_2 => intro w9 hSw; (try dsimp only at hSw); go_simp; (try with_reducible rfl)
    try simp only [Act.put, setIfInBounds_toArray, set_cons_zero, set_cons_succ, getElem_toArray, getElem_cons_zero, getElem_cons_succ]
    refine tkY 9 rfl (v := ?_) (.inl ⟨by rfl, ?_⟩) ?_
    case refine_2 => intro w9 hSw; (try dsimp only at hSw); go_simp; (try with_reducible rfl)
    try simp only [Act.put, setIfInBounds_toArray, set_cons_zero, set_cons_succ, getElem_toArray, getElem_cons_zero, getElem_cons_succ]
    refine tkY 10 rfl (v := ?_) (.inl ⟨by rfl, ?_⟩) ?_
    case refine_2 => intro w9 hSw; (try dsimp only at hSw); go_simp; (try with_reducible rfl)
    try simp only [Act.put, setIfInBounds_toArray, set_cons_zero, set_cons_succ, getElem_toArray, getElem_cons_zero, getElem_cons_succ]
    refine tkY 11 rfl (v := ?_) (.inl ⟨by rfl, ?_⟩) ?_
    case refine_2 => intro w9 hSw; (try dsimp only at hSw); go_simp; (try with_reducible rfl)
    try simp only [Act.put, setIfInBounds_toArray, set_cons_zero, set_cons_succ, getElem_toArray, getElem_cons_zero, getElem_cons_succ]
    refine wpAnyH_done (by kernel_rfl) ?_ _
    go_wp2_with fail
    have HR22 := Lib.hid (below_dr wd21)
    have R22r := Lib.hid (R21r.out.belowW HR22.out)
    have R22p := Lib.hid (R21p.out.belowW HR22.out)
    have R22o := Lib.hid (R21o.out.belowW HR22.out)
    have R22e := Lib.hid (R21e.out.belowW HR22.out)
    refine wp_region_held_drew (S := fun w' => w'.cell? ⟨g, 0, none⟩ = some (.slice (some ⟨b, o, none⟩) len cap) ∧ w'.cell? ⟨g, 1, none⟩ = some (.int .i64 (k : Nat)) ∧ w'.cell? ⟨g, 2, none⟩ = some (.int .i64 (m : Nat)) ∧ w'.cell? ⟨b, o + (k + n) * 4, none⟩ = some (.int .i64 T.kind) ∧ w'.cell? ⟨b, o + (k + n) * 4 + 1, none⟩ = some (.string ⟨T.text.toArray⟩) ∧ w'.cell? ⟨b, o + (k + n) * 4 + 2, none⟩ = some (.int .i64 T.line) ∧ w'.cell? ⟨b, o + (k + n) * 4 + 3, none⟩ = some (.int .i64 T.col)) (by kernel_rfl) ?_ (fun hHeld => ?_)
    case refine_1 => exact ⟨R22p.out.cell 0, R22p.out.cell 1, R22p.out.cell 2, R22e.out.c 0 _ rfl, R22e.out.c 1 _ rfl, R22e.out.c 2 _ rfl, R22e.out.c 3 _ rfl⟩
    obtain ⟨wd22, hwd⟩ : ∃ z9 : World, z9 = wd21.drew := ⟨_, rfl⟩
    rw [← hwd] at HR22 R22r R22p R22o R22e hHeld ⊢
    clear hwd
    refine tkY 0 rfl (v := ?_) (.inl ⟨by rfl, ?_⟩) ?_
    case refine_2 => intro w9 hSw; (try dsimp only at hSw); go_simp; (try with_reducible rfl)
    try simp only [Act.put, setIfInBounds_toArray, set_cons_zero, set_cons_succ, getElem_toArray, getElem_cons_zero]
    refine tkY 1 rfl (v := ?_) (.inl ⟨by rfl, ?_⟩) ?_
    case refine_2 => intro w9 hSw; (try dsimp only at hSw); go_simp; (try with_reducible rfl)
    try simp only [Act.put, setIfInBounds_toArray, set_cons_zero, set_cons_succ, getElem_toArray, getElem_cons_zero, getElem_cons_succ]
    refine tkY 2 rfl (v := ?_) (.inl ⟨by rfl, ?_⟩) ?_
    case refine_2 => intro w9 hSw; (try dsimp only at hSw); go_simp; (try with_reducible rfl)
    try simp only [Act.put, setIfInBounds_toArray, set_cons_zero, set_cons_succ, getElem_toArray, getElem_cons_zero, getElem_cons_succ]
    refine tkY 3 rfl (v := ?_) (.inl ⟨by rfl, ?_⟩) ?_
    case refine_2 => intro w9 hSw; (try dsimp only at hSw); go_simp; (try with_reducible rfl)
    try simp only [Act.put, setIfInBounds_toArray, set_cons_zero, set_cons_succ, getElem_toArray, getElem_cons_zero, getElem_cons_succ]
    refine tkY 4 rfl (v := ?_) (.inl ⟨by rfl, ?_⟩) ?_
    case refine_2 => intro w9 hSw; (try dsimp only at hSw); go_simp; (try with_reducible rfl)
    try simp only [Act.put, setIfInBounds_toArray, set_cons_zero, set_cons_succ, getElem_toArray, getElem_cons_zero, getElem_cons_succ]
    refine tkY 5 rfl (v := ?_) (.inl ⟨by rfl, ?_⟩) ?_
    case refine_2 => intro w9 hSw; (try dsimp only at hSw); go_simp; (try with_reducible rfl)
    try simp only [Act.put, setIfInBounds_toArray, set_cons_zero, set_cons_succ, getElem_toArray, getElem_cons_zero, getElem_cons_succ]
    refine tkY 6 rfl (v := ?_) (.inl ⟨by rfl, ?_⟩) ?_
    case refine_2 => intro w9 hSw; (try dsimp only at hSw); go_simp; (try with_reducible rfl)
    try simp only [Act.put, setIfInBounds_toArray, set_cons_zero, set_cons_succ, getElem_toArray, getElem_cons_zero, getElem_cons_succ]
    refine tkY 7 rfl (v := ?_) (.inl ⟨by rfl, ?_⟩) ?_
    case refine_2 => intro w9 hSw; (try dsimp only at hSw); go_simp; (try with_reducible rfl)
    try simp only [Act.put, setIfInBounds_toArray, set_cons_zero, set_cons_succ, getElem_toArray, getElem_cons_zero, getElem_cons_succ]
    refine tkY 8 rfl (v := ?_) (.inl ⟨by rfl, ?_⟩) ?_
    case refine_2 => intro w9 hSw; (try dsimp only at hSw); go_simp; (try with_reducible rfl)
    try simp only [Act.put, setIfInBounds_toArray, set_cons_zero, set_cons_succ, getElem_toArray, getElem_cons_zero, getElem_cons_succ]
    refine tkY 9 rfl (v := ?_) (.inl ⟨by rfl, ?_⟩) ?_
    case refine_2 => intro w9 hSw; (try dsimp only at hSw); go_simp; (try with_reducible rfl)
    try simp only [Act.put, setIfInBounds_toArray, set_cons_zero, set_cons_succ, getElem_toArray, getElem_cons_zero, getElem_cons_succ]
    refine tkY 10 rfl (v := ?_) (.inl ⟨by rfl, ?_⟩) ?_
    case refine_2 => intro w9 hSw; (try dsimp only at hSw); go_simp; (try with_reducible rfl)
    try simp only [Act.put, setIfInBounds_toArray, set_cons_zero, set_cons_succ, getElem_toArray, getElem_cons_zero, getElem_cons_succ]
    refine tkY 11 rfl (v := ?_) (.inl ⟨by rfl, ?_⟩) ?_
    case refine_2 => intro w9 hSw; (try dsimp only at hSw); go_simp; (try with_reducible rfl)
    try simp only [Act.put, setIfInBounds_toArray, set_cons_zero, set_cons_succ, getElem_toArray, getElem_cons_zero, getElem_cons_succ]
    refine wpAnyH_ready (rs := [12]) (by kernel_rfl) (by simp) ?_
    refine AllReadyH.cons rfl (fun K hK => ?_) AllReadyH.nil
    obtain ⟨ps0, fs0, ps1, fs1, ps2, fs2, ps3, fs3⟩ := R22r.out.all4
    go_simp
    rw [pst4 R22r.out]
    clear ps0 fs0 ps1 fs1 ps2 fs2 ps3 fs3
    have R23o := Lib.hid (R22o.out.put (g := w.heap.size) (Nat.le_refl _) 58 #[.int .i64 T.kind, .string ⟨T.text.toArray⟩, .int .i64 T.line, .int .i64 T.col])
    have R23p := Lib.hid (R22p.out.far (t' := 58) GN.out #[.int .i64 T.kind, .string ⟨T.text.toArray⟩, .int .i64 T.line, .int .i64 T.col])
    have R23e := Lib.hid (R22e.out.far GE.out 58 #[.int .i64 T.kind, .string ⟨T.text.toArray⟩, .int .i64 T.line, .int .i64 T.col])
    have R23zz := Lib.hid (R22r.out.put #[.int .i64 T.kind, .string ⟨T.text.toArray⟩, .int .i64 T.line, .int .i64 T.col])
    obtain ⟨w23, hw9⟩ : ∃ z9 : World, z9 = putB wd22 (w.heap.size) 58 #[.int .i64 T.kind, .string ⟨T.text.toArray⟩, .int .i64 T.line, .int .i64 T.col] := ⟨_, rfl⟩
    rw [← hw9] at R23o R23p R23e R23zz ⊢
    clear hw9 hHeld
    refine hK.out _ _ ?_ (fun hHeld => ?_)
    case refine_1 => exact ⟨R23p.out.cell 0, R23p.out.cell 1, R23p.out.cell 2, R23e.out.c 0 _ rfl, R23e.out.c 1 _ rfl, R23e.out.c 2 _ rfl, R23e.out.c 3 _ rfl⟩
    clear hK K
    try simp only [setIfInBounds_toArray, set_cons_zero, set_cons_succ]
    refine wpAnyH_done (by kernel_rfl) ?_ _
    go_wp2_with fail
    obtain ⟨q0, q1, q2, q3⟩ := R23zz.out.all4'
    refine bodyPost_ret (v := tokV T) (by simp [results, Tryz.results124, go_sem, q0, q1, q2, q3]) rfl ?_
    exact ⟨rfl, R23o⟩
  · have HTZ := Lib.hid (show tk ts (k + n) = ⟨0, [], 0, 0⟩ from tk_end (by rw [HLN.out]; omega))
    have d1 : decide ((len : Int) ≤ (k : Int) + (n : Int)) = true := decide_eq_true (by omega)
    have d2 : decide (len ≤ k + n) = true := decide_eq_true (by omega)
    go_enter Tryz.func124, Tryz.ntmps124
    go_upto_region 1 with (fail)
    obtain ⟨w1, hw1⟩ : ∃ z9 : World, z9 = w.alloc (Obj.cells #[.int .i64 0, .string ⟨#[]⟩, .int .i64 0, .int .i64 0] 58) := ⟨_, rfl⟩
    have O1 := Lib.hid (show Lo w w1 by rw [hw1]; exact below_box _ _)
    have F1 := Lib.hid (show Blk w1 w.heap.size 58 #[.int .i64 0, .string ⟨#[]⟩, .int .i64 0, .int .i64 0] by rw [hw1]; exact Blk.new _ _ _)
    rw [← hw1]
    clear hw1
    have P1 := Lib.hid (HP.out.belowW O1.out)
    have HR21 := Lib.hid (below_dr w1)
    have R21r := Lib.hid (F1.out.belowW HR21.out)
    have R21p := Lib.hid (P1.out.belowW HR21.out)
    have R21o := Lib.hid (O1.out.belowW HR21.out)
    refine wp_region_held_drew (S := fun w' => w'.cell? ⟨g, 0, none⟩ = some (.slice A len cap) ∧ w'.cell? ⟨g, 1, none⟩ = some (.int .i64 (k : Nat)) ∧ w'.cell? ⟨g, 2, none⟩ = some (.int .i64 (m : Nat))) (by kernel_rfl) ?_ (fun hHeld => ?_)
    case refine_1 => exact ⟨R21p.out.cell 0, R21p.out.cell 1, R21p.out.cell 2⟩
    obtain ⟨wd21, hwd⟩ : ∃ z9 : World, z9 = w1.drew := ⟨_, rfl⟩
    rw [← hwd] at HR21 R21r R21p R21o hHeld ⊢
    clear hwd
    refine tkY 0 rfl (v := ?_) (.inl ⟨by rfl, ?_⟩) ?_
    case refine_2 => intro w9 hSw; (try dsimp only at hSw); go_simp; (try with_reducible rfl)
    try simp only [Act.put, setIfInBounds_toArray, set_cons_zero, set_cons_succ, getElem_toArray, getElem_cons_zero]
    refine tkY 1 rfl (v := ?_) (.inl ⟨by rfl, ?_⟩) ?_
    case refine_2 => intro w9 hSw; (try dsimp only at hSw); go_simp; (try with_reducible rfl)
    try simp only [Act.put, setIfInBounds_toArray, set_cons_zero, set_cons_succ, getElem_toArray, getElem_cons_zero, getElem_cons_succ]
    refine tkY 2 rfl (v := ?_) (.inl ⟨by rfl, ?_⟩) ?_
    case refine_2 => intro w9 hSw; (try dsimp only at hSw); go_simp; (try with_reducible rfl)
    try simp only [Act.put, setIfInBounds_toArray, set_cons_zero, set_cons_succ, getElem_toArray, getElem_cons_zero, getElem_cons_succ]
    refine tkY 3 rfl (v := ?_) (.inl ⟨by rfl, ?_⟩) ?_
    case refine_2 => intro w9 hSw; (try dsimp only at hSw); go_simp; (try with_reducible rfl)
    try simp only [Act.put, setIfInBounds_toArray, set_cons_zero, set_cons_succ, getElem_toArray, getElem_cons_zero, getElem_cons_succ]
    refine tkY 4 rfl (v := ?_) (.inl ⟨by rfl, ?_⟩) ?_
    case refine_2 => intro w9 hSw; (try dsimp only at hSw); go_simp; (try with_reducible rfl)
    try simp only [Act.put, setIfInBounds_toArray, set_cons_zero, set_cons_succ, getElem_toArray, getElem_cons_zero, getElem_cons_succ]
    refine tkY 5 rfl (v := ?_) (.inl ⟨by rfl, ?_⟩) ?_
    case refine_2 => intro w9 hSw; (try dsimp only at hSw); go_simp; (try with_reducible rfl)
    try simp only [Act.put, setIfInBounds_toArray, set_cons_zero, set_cons_succ, getElem_toArray, getElem_cons_zero, getElem_cons_succ]
    refine tkY 6 rfl (v := ?_) (.inl ⟨by rfl, ?_⟩) ?_
    case refine_2 => intro w9 hSw; (try dsimp only at hSw); go_simp; (try with_reducible rfl)
    try simp only [Act.put, setIfInBounds_toArray, set_cons_zero, set_cons_succ, getElem_toArray, getElem_cons_zero, getElem_cons_succ]
    refine tkY 7 rfl (v := ?_) (.inl ⟨by rfl, ?_⟩) ?_
    case refine_2 => intro w9 hSw; (try dsimp only at hSw); go_simp; (try with_reducible rfl)
    try simp only [Act.put, setIfInBounds_toArray, set_cons_zero, set_cons_succ, getElem_toArray, getElem_cons_zero, getElem_cons_succ]
    refine tkY 8 rfl (v := ?_) (.inl ⟨by rfl, ?_⟩) ?_
    case refine_2 => intro w9 hSw; (try dsimp only at hSw); go_simp; (try with_reducible rfl)
    try simp only [Act.put, setIfInBounds_toArray, set_cons_zero, set_cons_succ, getElem_toArray, getElem_cons_zero, getElem_cons_succ]
    refine tkY 9 rfl (v := ?_) (.inl ⟨by rfl, ?_⟩) ?_
    case refine_2 => intro w9 hSw; (try dsimp only at hSw); go_simp; (try with_reducible rfl)
    try simp only [Act.put, setIfInBounds_toArray, set_cons_zero, set_cons_succ, getElem_toArray, getElem_cons_zero, getElem_cons_succ]
    refine tkY 10 rfl (v := ?_) (.inl ⟨by rfl, ?_⟩) ?_
    case refine_2 => intro w9 hSw; (try dsimp only at hSw); go_simp; (try with_reducible rfl)
    try simp only [Act.put, setIfInBounds_toArray, set_cons_zero, set_cons_succ, getElem_toArray, getElem_cons_zero, getElem_cons_succ]
    refine tkY 11 rfl (v := ?_) (.inl ⟨by rfl, ?_⟩) ?_
    case refine_2 => intro w9 hSw; (try dsimp only at hSw); go_simp; (try with_reducible rfl)
    try simp only [Act.put, setIfInBounds_toArray, set_cons_zero, set_cons_succ, getElem_toArray, getElem_cons_zero, getElem_cons_succ]
    refine wpAnyH_done (by kernel_rfl) ?_ _
    obtain ⟨q0, f0, q1, f1, q2, f2, q3, f3⟩ := R21r.out.all4
    go_wp2_with fail
    rw [pst4 R21r.out]
    have FZ := Lib.hid (R21r.out.put #[.int .i64 0, .string ⟨#[]⟩, .int .i64 0, .int .i64 0])
    have OZ := Lib.hid (R21o.out.put (g := w.heap.size) (Nat.le_refl _) 58 #[.int .i64 0, .string ⟨#[]⟩, .int .i64 0, .int .i64 0])
    obtain ⟨wz, hz⟩ : ∃ z9 : World, z9 = putB wd21 w.heap.size 58 #[.int .i64 0, .string ⟨#[]⟩, .int .i64 0, .int .i64 0] := ⟨_, rfl⟩
    rw [← hz] at FZ OZ ⊢
    clear hz q0 f0 q1 f1 q2 f2 q3 f3
    obtain ⟨q0, q1, q2, q3⟩ := FZ.out.all4'
    rw [HTZ.out]
    refine bodyPost_ret (v := .agg #[.int .i64 0, .string ⟨#[]⟩, .int .i64 0, .int .i64 0]) (by simp [results, Tryz.results124, go_sem, q0, q1, q2, q3]) rfl ?_
    exact ⟨rfl, OZ⟩

set_option maxHeartbeats 4000000 in
set_option maxRecDepth 100000 in
theorem pFail (w0 w : World) (g k m : Nat) (A : Option Addr) (len cap : Nat) (ts : List Tok) (hT : TsAt w0 A len cap ts) (hw : Below w0.heap.size w0 w) (hg : w0.heap.size ≤ g) (hP : Ps g A len cap k m w) (hk : k ≤ 150000) (er : Int) : Calls Tryz.prog 123 #[.pointer (some ⟨g, 0, none⟩), .int .i64 er] w fun e w' => e = pan (tk ts k).line (tk ts k).col er ∧ Hid (Below w.heap.size w w') := by
  have KT := Lib.hid (pToken w0 w g k m A len cap ts hT hw hg hP hk 0 (by omega))
  rw [Nat.add_zero] at KT
  obtain ⟨T, hTT⟩ : ∃ t, t = tk ts k := ⟨_, rfl⟩
  rw [← hTT] at KT ⊢
  clear hT hw hP hTT
  go_enter Tryz.func123, Tryz.ntmps123
  go_wp2_with fail
  refine KT.out.mono ?_
  rintro e w2 ⟨rfl, HB⟩
  have hF := tokF2 T
  go_wp2_with fail
  exact ⟨rfl, rfl, HB⟩

/-- How a rule ends where the next token does not fit. -/
def panU (ts : List Tok) (k : Nat) : Ending := if ts.length ≤ k then pan 0 0 4 else pan (tk ts k).line (tk ts k).col 3
set_option maxHeartbeats 4000000 in
set_option maxRecDepth 100000 in
theorem pUnexp (w0 w : World) (g k m : Nat) (A : Option Addr) (len cap : Nat) (ts : List Tok) (hT : TsAt w0 A len cap ts) (hw : Below w0.heap.size w0 w) (hg : w0.heap.size ≤ g) (hP : Ps g A len cap k m w) (hk : k ≤ 150000) : Calls Tryz.prog 91 #[.pointer (some ⟨g, 0, none⟩)] w fun e w' => e = panU ts k ∧ Hid (Below w.heap.size w w') := by
  have HT := Lib.hid hT
  have HW := Lib.hid hw
  have HP := Lib.hid hP
  have hlm := hT.hs
  have HLN := Lib.hid hT.hl
  have O0 := Lib.hid (show Lo w w from Below.refl _ _)
  have KF := Lib.hid (fun (w1 : World) (hb : Below w.heap.size w w1) => pFail w0 w1 g k m A len cap ts HT.out (HW.out.trans (hb.mono HW.out.size)) hg (HP.out.belowW hb) hk 3)
  unfold Ps at HP
  clear hT hw hP
  by_cases hlt : k < len
  · have HE := Lib.hid (show panU ts k = pan (tk ts k).line (tk ts k).col 3 by unfold panU; rw [if_neg (by rw [HLN.out]; omega)])
    have d1 : decide ((len : Int) ≤ (k : Int)) = false := decide_eq_false (by omega)
    have d2 : decide (len ≤ k) = false := decide_eq_false (by omega)
    go_enter Tryz.func91, Tryz.ntmps91
    go_wp2_with fail
    have HR21 := Lib.hid (below_dr w)
    have R21p := Lib.hid (HP.out.belowW HR21.out)
    have R21o := Lib.hid (O0.out.belowW HR21.out)
    refine wp_region_held_drew (S := fun w' => w'.cell? ⟨g, 0, none⟩ = some (.slice A len cap) ∧ w'.cell? ⟨g, 1, none⟩ = some (.int .i64 (k : Nat)) ∧ w'.cell? ⟨g, 2, none⟩ = some (.int .i64 (m : Nat))) (by kernel_rfl) ?_ (fun hHeld => ?_)
    case refine_1 => exact ⟨R21p.out.cell 0, R21p.out.cell 1, R21p.out.cell 2⟩
    obtain ⟨wd21, hwd⟩ : ∃ z9 : World, z9 = w.drew := ⟨_, rfl⟩
    rw [← hwd] at HR21 R21p R21o hHeld ⊢
    clear hwd
    refine tkY 0 rfl (v := ?_) (.inl ⟨by rfl, ?_⟩) ?_
    case refine_2 => intro w9 hSw; (try dsimp only at hSw); go_simp; (try with_reducible rfl)
    try simp only [Act.put, setIfInBounds_toArray, set_cons_zero, set_cons_succ, getElem_toArray, getElem_cons_zero]
    refine tkY 1 rfl (v := ?_) (.inl ⟨by rfl, ?_⟩) ?_
    case refine_2 => intro w9 hSw; (try dsimp only at hSw); go_simp; (try with_reducible rfl)
    try simp only [Act.put, setIfInBounds_toArray, set_cons_zero, set_cons_succ, getElem_toArray, getElem_cons_zero, getElem_cons_succ]
    refine tkY 2 rfl (v := ?_) (.inl ⟨by rfl, ?_⟩) ?_
    case refine_2 => intro w9 hSw; (try dsimp only at hSw); go_simp; (try with_reducible rfl)
    try simp only [Act.put, setIfInBounds_toArray, set_cons_zero, set_cons_succ, getElem_toArray, getElem_cons_zero, getElem_cons_succ]
    refine tkY 3 rfl (v := ?_) (.inl ⟨by rfl, ?_⟩) ?_
    case refine_2 => intro w9 hSw; (try dsimp only at hSw); go_simp; (try with_reducible rfl)
    try simp only [Act.put, setIfInBounds_toArray, set_cons_zero, set_cons_succ, getElem_toArray, getElem_cons_zero, getElem_cons_succ]
    refine tkY 4 rfl (v := ?_) (.inl ⟨by rfl, ?_⟩) ?_
    case refine_2 => intro w9 hSw; (try dsimp only at hSw); go_simp; (try with_reducible rfl)
    try simp only [Act.put, setIfInBounds_toArray, set_cons_zero, set_cons_succ, getElem_toArray, getElem_cons_zero, getElem_cons_succ]
    refine tkY 5 rfl (v := ?_) (.inl ⟨by rfl, ?_⟩) ?_
    case refine_2 => intro w9 hSw; (try dsimp only at hSw); go_simp; (try with_reducible rfl)
    try simp only [Act.put, setIfInBounds_toArray, set_cons_zero, set_cons_succ, getElem_toArray, getElem_cons_zero, getElem_cons_succ]
    refine tkY 6 rfl (v := ?_) (.inl ⟨by rfl, ?_⟩) ?_
    case refine_2 => intro w9 hSw; (try dsimp only at hSw); go_simp; (try with_reducible rfl)
    try simp only [Act.put, setIfInBounds_toArray, set_cons_zero, set_cons_succ, getElem_toArray, getElem_cons_zero, getElem_cons_succ]
    refine tkY 7 rfl (v := ?_) (.inl ⟨by rfl, ?_⟩) ?_
    case refine_2 => intro w9 hSw; (try dsimp only at hSw); go_simp; (try with_reducible rfl)
    try simp only [Act.put, setIfInBounds_toArray, set_cons_zero, set_cons_succ, getElem_toArray, getElem_cons_zero, getElem_cons_succ]
    refine tkY 8 rfl (v := ?_) (.inl ⟨by rfl, ?_⟩) ?_
    case refine_2 => intro w9 hSw; (try dsimp only at hSw); go_simp; (try with_reducible rfl)
    try simp only [Act.put, setIfInBounds_toArray, set_cons_zero, set_cons_succ, getElem_toArray, getElem_cons_zero, getElem_cons_succ]
    refine tkY 9 rfl (v := ?_) (.inl ⟨by rfl, ?_⟩) ?_
    case refine_2 => intro w9 hSw; (try dsimp only at hSw); go_simp; (try with_reducible rfl)
    try simp only [Act.put, setIfInBounds_toArray, set_cons_zero, set_cons_succ, getElem_toArray, getElem_cons_zero, getElem_cons_succ]
    refine wpAnyH_done (by kernel_rfl) ?_ _
    go_wp2_with fail
    refine (KF.out _ R21o.out).mono ?_
    rintro e w3 ⟨rfl, HB⟩
    go_wp2_with fail
    rw [HE.out]
    exact ⟨rfl, rfl, Lib.hid (R21o.out.belowW HB.out)⟩
  · have HE := Lib.hid (show panU ts k = pan 0 0 4 by unfold panU; rw [if_pos (by rw [HLN.out]; omega)])
    have d1 : decide ((len : Int) ≤ (k : Int)) = true := decide_eq_true (by omega)
    have d2 : decide (len ≤ k) = true := decide_eq_true (by omega)
    go_enter Tryz.func91, Tryz.ntmps91
    go_wp2_with fail
    have HR21 := Lib.hid (below_dr w)
    have R21p := Lib.hid (HP.out.belowW HR21.out)
    have R21o := Lib.hid (O0.out.belowW HR21.out)
    refine wp_region_held_drew (S := fun w' => w'.cell? ⟨g, 0, none⟩ = some (.slice A len cap) ∧ w'.cell? ⟨g, 1, none⟩ = some (.int .i64 (k : Nat)) ∧ w'.cell? ⟨g, 2, none⟩ = some (.int .i64 (m : Nat))) (by kernel_rfl) ?_ (fun hHeld => ?_)
    case refine_1 => exact ⟨R21p.out.cell 0, R21p.out.cell 1, R21p.out.cell 2⟩
    obtain ⟨wd21, hwd⟩ : ∃ z9 : World, z9 = w.drew := ⟨_, rfl⟩
    rw [← hwd] at HR21 R21p R21o hHeld ⊢
    clear hwd
    refine tkY 0 rfl (v := ?_) (.inl ⟨by rfl, ?_⟩) ?_
    case refine_2 => intro w9 hSw; (try dsimp only at hSw); go_simp; (try with_reducible rfl)
    try simp only [Act.put, setIfInBounds_toArray, set_cons_zero, set_cons_succ, getElem_toArray, getElem_cons_zero]
    refine tkY 1 rfl (v := ?_) (.inl ⟨by rfl, ?_⟩) ?_
    case refine_2 => intro w9 hSw; (try dsimp only at hSw); go_simp; (try with_reducible rfl)
    try simp only [Act.put, setIfInBounds_toArray, set_cons_zero, set_cons_succ, getElem_toArray, getElem_cons_zero, getElem_cons_succ]
    refine tkY 2 rfl (v := ?_) (.inl ⟨by rfl, ?_⟩) ?_
    case refine_2 => intro w9 hSw; (try dsimp only at hSw); go_simp; (try with_reducible rfl)
    try simp only [Act.put, setIfInBounds_toArray, set_cons_zero, set_cons_succ, getElem_toArray, getElem_cons_zero, getElem_cons_succ]
    refine tkY 3 rfl (v := ?_) (.inl ⟨by rfl, ?_⟩) ?_
    case refine_2 => intro w9 hSw; (try dsimp only at hSw); go_simp; (try with_reducible rfl)
    try simp only [Act.put, setIfInBounds_toArray, set_cons_zero, set_cons_succ, getElem_toArray, getElem_cons_zero, getElem_cons_succ]
    refine tkY 4 rfl (v := ?_) (.inl ⟨by rfl, ?_⟩) ?_
    case refine_2 => intro w9 hSw; (try dsimp only at hSw); go_simp; (try with_reducible rfl)
    try simp only [Act.put, setIfInBounds_toArray, set_cons_zero, set_cons_succ, getElem_toArray, getElem_cons_zero, getElem_cons_succ]
    refine tkY 5 rfl (v := ?_) (.inl ⟨by rfl, ?_⟩) ?_
    case refine_2 => intro w9 hSw; (try dsimp only at hSw); go_simp; (try with_reducible rfl)
    try simp only [Act.put, setIfInBounds_toArray, set_cons_zero, set_cons_succ, getElem_toArray, getElem_cons_zero, getElem_cons_succ]
    refine tkY 6 rfl (v := ?_) (.inl ⟨by rfl, ?_⟩) ?_
    case refine_2 => intro w9 hSw; (try dsimp only at hSw); go_simp; (try with_reducible rfl)
    try simp only [Act.put, setIfInBounds_toArray, set_cons_zero, set_cons_succ, getElem_toArray, getElem_cons_zero, getElem_cons_succ]
    refine tkY 7 rfl (v := ?_) (.inl ⟨by rfl, ?_⟩) ?_
    case refine_2 => intro w9 hSw; (try dsimp only at hSw); go_simp; (try with_reducible rfl)
    try simp only [Act.put, setIfInBounds_toArray, set_cons_zero, set_cons_succ, getElem_toArray, getElem_cons_zero, getElem_cons_succ]
    refine tkY 8 rfl (v := ?_) (.inl ⟨by rfl, ?_⟩) ?_
    case refine_2 => intro w9 hSw; (try dsimp only at hSw); go_simp; (try with_reducible rfl)
    try simp only [Act.put, setIfInBounds_toArray, set_cons_zero, set_cons_succ, getElem_toArray, getElem_cons_zero, getElem_cons_succ]
    refine tkY 9 rfl (v := ?_) (.inl ⟨by rfl, ?_⟩) ?_
    case refine_2 => intro w9 hSw; (try dsimp only at hSw); go_simp; (try with_reducible rfl)
    try simp only [Act.put, setIfInBounds_toArray, set_cons_zero, set_cons_succ, getElem_toArray, getElem_cons_zero, getElem_cons_succ]
    refine wpAnyH_done (by kernel_rfl) ?_ _
    go_wp2_with fail
    rw [HE.out]
    exact ⟨rfl, rfl, R21o⟩
end Go.Proofs.YtkjoohnndobjeaaGreatDoor
namespace Go.Proofs.YtkjoohnndobjeaaGreatDoor
open Go.RowKit Go.Fl Go.Fl.Lx Go.Fl.Nm Go.Fl.Fm Go.Fl.Rt Go.Fl.Pa
/-- The parser as it stands: its tokens lie below, the next token's number, the nesting. -/
structure Env (w0 : World) (g : Nat) (A : Option Addr) (len cap : Nat) (ts : List Tok) (k m : Nat) (w : World) : Prop where
  t : TsAt w0 A len cap ts
  b : Below w0.heap.size w0 w
  lo : w0.heap.size ≤ g
  p : Ps g A len cap k m w
  kk : k ≤ 150000
section
variable {w0 w : World} {g : Nat} {A : Option Addr} {len cap : Nat} {ts : List Tok} {k m : Nat}
theorem Env.belowW (h : Env w0 g A len cap ts k m w) {w' : World} (hb : Below w.heap.size w w') : Env w0 g A len cap ts k m w' := ⟨h.t, h.b.trans (hb.mono h.b.size), h.lo, h.p.belowW hb, h.kk⟩
theorem Env.gl (h : Env w0 g A len cap ts k m w) : g < w.heap.size := Blk.lt h.p
theorem Env.put (h : Env w0 g A len cap ts k m w) (k' m' : Nat) (hk : k' ≤ 150000) : Env w0 g A len cap ts k' m' (putB w g 140 #[.slice A len cap, .int .i64 (k' : Nat), .int .i64 (m' : Nat)]) :=
  ⟨h.t, h.b.trans (putB_below w g _ _ h.lo), h.lo, Blk.put h.p _, hk⟩
theorem Env.moved (h : Env w0 g A len cap ts k m w) {w' : World} (hg : w.grownBy w' (some g)) {k' m' : Nat} (hp : Ps g A len cap k' m' w') (hk : k' ≤ 150000) : Env w0 g A len cap ts k' m' w' :=
  ⟨h.t, ⟨hg.os.trans h.b.os, hg.tape.trans h.b.tape, hg.output.trans h.b.output, Nat.le_trans h.b.size hg.size, fun j hj => (hg.block j (Nat.lt_of_lt_of_le hj h.b.size) (fun e => by have := h.lo; injection e with e; omega)).trans (h.b.block j hj)⟩, h.lo, hp, hk⟩
theorem Env.tok (h : Env w0 g A len cap ts k m w) (n : Nat) (hn : n ≤ 10) : Calls Tryz.prog 124 #[.pointer (some ⟨g, 0, none⟩), .int .i64 (n : Nat)] w (RetB (tokV (tk ts (k + n))) w) := pToken w0 w g k m A len cap ts h.t h.b h.lo h.p h.kk n hn
theorem Env.unx (h : Env w0 g A len cap ts k m w) : Calls Tryz.prog 91 #[.pointer (some ⟨g, 0, none⟩)] w fun e w' => e = panU ts k ∧ Hid (Below w.heap.size w w') := pUnexp w0 w g k m A len cap ts h.t h.b h.lo h.p h.kk
theorem Env.fail (h : Env w0 g A len cap ts k m w) (er : Int) : Calls Tryz.prog 123 #[.pointer (some ⟨g, 0, none⟩), .int .i64 er] w fun e w' => e = pan (tk ts k).line (tk ts k).col er ∧ Hid (Below w.heap.size w w') := pFail w0 w g k m A len cap ts h.t h.b h.lo h.p h.kk er
theorem grown_of {w w' : World} (r : Option Nat) (h : Below w.heap.size w w') : w.grownBy w' r := ⟨h.os, h.tape, h.output, h.size, fun k hk _ => h.block k hk⟩
theorem grown_tr {a b c : World} {r : Option Nat} (h : a.grownBy b r) (h2 : b.grownBy c r) : a.grownBy c r :=
  ⟨h2.os.trans h.os, h2.tape.trans h.tape, h2.output.trans h.output, Nat.le_trans h.size h2.size, fun k hk hr => (h2.block k (Nat.lt_of_lt_of_le hk h.size) hr).trans (h.block k hk hr)⟩
end

set_option maxHeartbeats 4000000 in
set_option maxRecDepth 100000 in
theorem pIs {w0 w : World} {g : Nat} {A : Option Addr} {len cap : Nat} {ts : List Tok} {k m : Nat} (h : Env w0 g A len cap ts k m w) (n : Nat) (hn : n ≤ 10) (s : ByteArray) : Calls Tryz.prog 138 #[.pointer (some ⟨g, 0, none⟩), .int .i64 (n : Nat), .string s] w (RetB (.bool (isS (kwP s.data.toList) ts (k + n) s.data.toList)) w) := by
  have KT := Lib.hid (h.tok n hn)
  obtain ⟨T, hTT⟩ : ∃ t, t = tk ts (k + n) := ⟨_, rfl⟩
  obtain ⟨b, hb⟩ : ∃ b, (T.text == s.data.toList) = b := ⟨_, rfl⟩
  obtain ⟨c, hc⟩ : ∃ b, ((T.kind : Int) == 3) = b := ⟨_, rfl⟩
  obtain ⟨d, hd⟩ : ∃ b, ((T.kind : Int) == 1) = b := ⟨_, rfl⟩
  obtain ⟨e, he⟩ : ∃ b, kwP s.data.toList = b := ⟨_, rfl⟩
  have hc' : (T.kind == 3) = c := by rw [← hc, Bool.eq_iff_iff, beq_iff_eq, beq_iff_eq]; omega
  have hd' : (T.kind == 1) = d := by rw [← hd, Bool.eq_iff_iff, beq_iff_eq, beq_iff_eq]; omega
  have HE := Lib.hid (show isS (kwP s.data.toList) ts (k + n) s.data.toList = (b && (c || (d && e))) by unfold isS; rw [← hTT, hb, hc', hd', he])
  rw [HE.out]
  rw [← hTT] at KT
  have HK := Lib.hid he
  have b1 : ((⟨T.text.toArray⟩ : ByteArray) == s) = b := by rw [beq_txt, hb]
  have b2 : (T.text == s.toList) = b := by rw [ByteArray.toList_eq, hb]
  clear h hTT hb he hc' hd' HE
  go_enter Tryz.func138, Tryz.ntmps138
  go_wp2_with fail
  refine KT.out.mono ?_
  rintro e w2 ⟨rfl, HB⟩
  cases b with
  | false =>
    go_wp2_with fail
    go_ret
    exact ⟨rfl, Lib.hid (HB.out.trans ((below_box _ _).mono HB.out.size))⟩
  | true =>
    cases c with
    | true =>
      go_wp2_with fail
      go_ret
      exact ⟨rfl, Lib.hid (HB.out.trans ((below_box _ _).mono HB.out.size))⟩
    | false =>
      cases d with
      | false =>
        go_wp2_with fail
        go_ret
        exact ⟨rfl, Lib.hid (HB.out.trans ((below_box _ _).mono HB.out.size))⟩
      | true =>
        go_wp2_with fail
        refine (keyword_any s _).mono ?_
        rw [HK.out]
        rintro e w3 ⟨rfl, rfl⟩
        go_wp2_with fail
        go_ret
        exact ⟨rfl, Lib.hid (HB.out.trans ((below_box _ _).mono HB.out.size))⟩

set_option maxHeartbeats 4000000 in
set_option maxRecDepth 100000 in
theorem pSign {w0 w : World} {g : Nat} {A : Option Addr} {len cap : Nat} {ts : List Tok} {k m : Nat} (h : Env w0 g A len cap ts k m w) : Calls Tryz.prog 155 #[.pointer (some ⟨g, 0, none⟩)] w (RetB (.int .i64 (signP ts k : Nat)) w) := by
  have KI := Lib.hid (pIs h 0 (by omega) ⟨#[45]⟩)
  rw [Nat.add_zero, show kwP (⟨#[45]⟩ : ByteArray).data.toList = false by decide, show (⟨#[45]⟩ : ByteArray).data.toList = [45] from rfl] at KI
  obtain ⟨b, hb⟩ : ∃ b, isS false ts k [45] = b := ⟨_, rfl⟩
  have HE := Lib.hid (show signP ts k = if b = true then 1 else 0 by unfold signP; rw [hb])
  rw [hb] at KI
  clear h hb
  cases b with
  | false =>
    go_enter Tryz.func155, Tryz.ntmps155
    go_wp2_with fail
    refine KI.out.mono ?_
    rintro e w2 ⟨rfl, HB⟩
    go_wp2_with fail
    go_ret
    rw [HE.out]
    exact ⟨rfl, HB⟩
  | true =>
    go_enter Tryz.func155, Tryz.ntmps155
    go_wp2_with fail
    refine KI.out.mono ?_
    rintro e w2 ⟨rfl, HB⟩
    go_wp2_with fail
    go_ret
    rw [HE.out]
    exact ⟨rfl, HB⟩

set_option maxHeartbeats 4000000 in
set_option maxRecDepth 100000 in
theorem pInteger {w0 w : World} {g : Nat} {A : Option Addr} {len cap : Nat} {ts : List Tok} {k m : Nat} (h : Env w0 g A len cap ts k m w) (n : Nat) (hn : n ≤ 10) : Calls Tryz.prog 159 #[.pointer (some ⟨g, 0, none⟩), .int .i64 (n : Nat)] w (RetB (.bool (integerP ts (k + n))) w) := by
  have KT := Lib.hid (h.tok n hn)
  obtain ⟨T, hTT⟩ : ∃ t, t = tk ts (k + n) := ⟨_, rfl⟩
  obtain ⟨c, hc⟩ : ∃ b, ((T.kind : Int) == 2) = b := ⟨_, rfl⟩
  obtain ⟨d, hd⟩ : ∃ b, T.text.contains 46 = b := ⟨_, rfl⟩
  have hc' : (T.kind == 2) = c := by rw [← hc, Bool.eq_iff_iff, beq_iff_eq, beq_iff_eq]; omega
  have HE := Lib.hid (show integerP ts (k + n) = (c && !d) by unfold integerP; rw [← hTT, hc', hd])
  rw [HE.out]
  rw [← hTT] at KT
  have HD := Lib.hid (show decide (0 ≤ Lib.indexByte (⟨T.text.toArray⟩ : ByteArray).data.toList 46) = d by rw [← hd]; exact (Lib.contains_iff_indexByte _ 46).symm)
  clear h hTT hc' hd HE
  go_enter Tryz.func159, Tryz.ntmps159
  go_wp2_with fail
  refine KT.out.mono ?_
  rintro e w2 ⟨rfl, HB⟩
  cases c with
  | false =>
    go_wp2_with fail
    go_ret
    exact ⟨rfl, Lib.hid (HB.out.trans ((below_box _ _).mono HB.out.size))⟩
  | true =>
    go_wp2_with fail
    refine (Tryz.strings_Contains_one ⟨T.text.toArray⟩ 46 _).mono ?_
    rw [HD.out]
    rintro e w3 ⟨rfl, rfl⟩
    go_wp2_with fail
    go_ret
    exact ⟨rfl, Lib.hid (HB.out.trans ((below_box _ _).mono HB.out.size))⟩

/-- What accept answers. -/
def AccP (w0 : World) (g : Nat) (A : Option Addr) (len cap : Nat) (ts : List Tok) (k m : Nat) (b : Bool) (w : World) (e : Ending) (w' : World) : Prop :=
  e = .returned (.bool b) ∧ Hid (w.grownBy w' (some g)) ∧ Hid (Env w0 g A len cap ts (if b = true then k + 1 else k) m w')
set_option maxHeartbeats 4000000 in
set_option maxRecDepth 100000 in
theorem pAccept {w0 w : World} {g : Nat} {A : Option Addr} {len cap : Nat} {ts : List Tok} {k m : Nat} (h : Env w0 g A len cap ts k m w) (hk : k ≤ 140000) (s : ByteArray) : Calls Tryz.prog 108 #[.pointer (some ⟨g, 0, none⟩), .string s] w (AccP w0 g A len cap ts k m (isS (kwP s.data.toList) ts k s.data.toList) w) := by
  have KI := Lib.hid (pIs h 0 (by omega) s)
  rw [Nat.add_zero] at KI
  have HV := Lib.hid h
  obtain ⟨b, hb⟩ : ∃ b, isS (kwP s.data.toList) ts k s.data.toList = b := ⟨_, rfl⟩
  rw [hb] at KI ⊢
  clear h hb
  cases b with
  | false =>
    go_enter Tryz.func108, Tryz.ntmps108
    go_wp2_with fail
    refine KI.out.mono ?_
    rintro e w2 ⟨rfl, HB⟩
    go_wp2_with fail
    go_ret
    exact ⟨rfl, Lib.hid (grown_of _ HB.out), Lib.hid (HV.out.belowW HB.out)⟩
  | true =>
    have e1 : IntKind.i64.wrap ((k : Int) + 1) = (k : Int) + 1 := by rw [IntKind.wrap_i64]; omega
    go_enter Tryz.func108, Tryz.ntmps108
    go_wp2_with fail
    refine KI.out.mono ?_
    rintro e w2 ⟨rfl, HB⟩
    have HV2 := Lib.hid (HV.out.belowW HB.out)
    have HP := Lib.hid (show Blk w2 g 140 #[.slice A len cap, .int .i64 (k : Nat), .int .i64 (m : Nat)] from HV2.out.p)
    have p1 : w2.cell? ⟨g, 1, none⟩ = some (.int .i64 (k : Nat)) := HP.out.cell 1
    have f1 : w2.frozen? ⟨g, 1, none⟩ = false := HP.out.frozen 1
    go_wp2_with fail
    rw [HP.out.setCell_eq]
    have HN := Lib.hid (HV2.out.put (k + 1) m (by omega))
    go_ret
    exact ⟨rfl, Lib.hid (grown_tr (grown_of _ HB.out) (putB_grown w2 g _ _)), HN⟩

set_option maxHeartbeats 4000000 in
set_option maxRecDepth 100000 in
theorem pWantY {w0 w : World} {g : Nat} {A : Option Addr} {len cap : Nat} {ts : List Tok} {k m : Nat} (h : Env w0 g A len cap ts k m w) (hk : k ≤ 140000) (s : ByteArray) (hs : isS (kwP s.data.toList) ts k s.data.toList = true) : Calls Tryz.prog 110 #[.pointer (some ⟨g, 0, none⟩), .string s] w fun e w' => e = .returned (.tuple #[]) ∧ Hid (w.grownBy w' (some g)) ∧ Hid (Env w0 g A len cap ts (k + 1) m w') := by
  have KA := Lib.hid (pAccept h hk s)
  rw [hs] at KA
  clear h hs
  go_enter Tryz.func110, Tryz.ntmps110
  go_wp2_with fail
  refine KA.out.mono ?_
  rintro e w2 ⟨rfl, HG, HV⟩
  go_wp2_with fail
  refine bodyPost_end (v := .tuple #[]) (by simp [results, Tryz.results110, go_sem]) rfl ?_
  exact ⟨rfl, HG, HV⟩
set_option maxHeartbeats 4000000 in
set_option maxRecDepth 100000 in
theorem pWantN {w0 w : World} {g : Nat} {A : Option Addr} {len cap : Nat} {ts : List Tok} {k m : Nat} (h : Env w0 g A len cap ts k m w) (hk : k ≤ 140000) (s : ByteArray) (hs : isS (kwP s.data.toList) ts k s.data.toList = false) : Calls Tryz.prog 110 #[.pointer (some ⟨g, 0, none⟩), .string s] w fun e w' => e = panU ts k ∧ Hid (w.grownBy w' (some g)) := by
  have KA := Lib.hid (pAccept h hk s)
  rw [hs] at KA
  clear h hs
  go_enter Tryz.func110, Tryz.ntmps110
  go_wp2_with fail
  refine KA.out.mono ?_
  rintro e w2 ⟨rfl, HG, HV⟩
  go_wp2_with fail
  refine HV.out.unx.mono ?_
  rintro e w3 ⟨he, HB⟩
  obtain ⟨c, hc⟩ : ∃ c, panU ts k = .panicked c := by unfold panU; split <;> exact ⟨_, rfl⟩
  have HC := Lib.hid hc
  simp only [Bool.false_eq_true, if_false] at he
  rw [hc] at he
  subst he
  clear hc
  go_wp2_with fail
  rw [HC.out]
  exact ⟨rfl, rfl, Lib.hid (grown_tr HG.out (grown_of _ HB.out))⟩
end Go.Proofs.YtkjoohnndobjeaaGreatDoor
namespace Go.Fl.Pa
open Go.Fl.Lx Go.Fl.Fm Go.Fl.Rt
theorem tk_lt {ts : List Tok} {k : Nat} (h : (tk ts k).kind ≠ 0) : k < ts.length := by
  apply Decidable.byContradiction
  intro hk
  apply h
  unfold tk
  rw [List.getD_eq_getElem?_getD, List.getElem?_eq_none (by omega)]
  rfl
theorem isS_kind {b : Bool} {ts : List Tok} {k : Nat} {s : List UInt8} (h : isS b ts k s = true) : (tk ts k).text = s ∧ ((tk ts k).kind = 3 ∨ (tk ts k).kind = 1) := by
  unfold isS at h
  simp only [Bool.and_eq_true, Bool.or_eq_true, beq_iff_eq] at h
  exact ⟨h.1, h.2.elim .inl (fun x => .inr x.1)⟩
theorem isS_lt {b : Bool} {ts : List Tok} {k : Nat} {s : List UInt8} (h : isS b ts k s = true) : k < ts.length := by
  apply tk_lt
  have := (isS_kind h).2
  omega
theorem signP_le (ts : List Tok) (k : Nat) : signP ts k ≤ 1 := by unfold signP; split <;> omega
theorem unex_ok {α : Type} {ts : List Tok} {k k1 : Nat} {a : α} (h : unex ts k = .ok a k1) : False := by
  unfold unex failP at h
  split at h <;> cases h
theorem fail_ok {α : Type} {ts : List Tok} {k e k1 : Nat} {a : α} (h : failP ts k e = .ok a k1) : False := by
  unfold failP at h
  cases h
theorem unex_out {α : Type} {ts : List Tok} {k : Nat} (h : (unex ts k : PR α) = .out) : False := by
  unfold unex failP at h
  split at h <;> cases h
theorem fail_out {α : Type} {ts : List Tok} {k e : Nat} (h : (failP ts k e : PR α) = .out) : False := by
  unfold failP at h
  cases h
theorem numP_ok {ts : List Tok} {k k1 : Nat} {r : Int × Int} (h : numP ts k = .ok r k1) : k < k1 ∧ k1 ≤ ts.length := by
  unfold numP at h
  split at h
  · exact (unex_ok h).elim
  · rename_i h2
    split at h
    · exact (fail_ok h).elim
    · injection h with h3 h4
      have := tk_lt (ts := ts) (k := k + signP ts k) (by omega)
      omega
theorem numP_out {ts : List Tok} {k : Nat} (h : numP ts k = .out) : False := by
  unfold numP at h
  split at h
  · exact unex_out h
  · split at h
    · exact fail_out h
    · cases h
theorem read1_nil : (read1 []).2.2 = 3 := by decide +kernel
theorem tk_nil {ts : List Tok} {k : Nat} (h : ts.length ≤ k) : (tk ts k).text = [] := by
  unfold tk
  rw [List.getD_eq_getElem?_getD, List.getElem?_eq_none h]
  rfl
theorem quotP_ok {ts : List Tok} {k k1 : Nat} {r : Int × Int} (h : quotP ts k = .ok r k1) : k < k1 ∧ k1 ≤ ts.length := by
  unfold quotP at h
  cases hn : numP ts k with
  | ok a k2 =>
    rw [hn] at h
    have h1 := numP_ok hn
    simp only [PR.bind] at h
    split at h
    · exact (unex_ok h).elim
    · split at h
      · exact (fail_ok h).elim
      · rename_i h3
        split at h
        · exact (fail_ok h).elim
        · injection h with h4 h5
          have : k2 + 1 < ts.length := by
            apply Decidable.byContradiction
            intro h6
            rw [tk_nil (by omega), read1_nil] at h3
            exact h3 (by decide)
          omega
  | bad l c e => rw [hn] at h; cases h
  | out => rw [hn] at h; cases h
theorem quotP_out {ts : List Tok} {k : Nat} (h : quotP ts k = .out) : False := by
  unfold quotP at h
  cases hn : numP ts k with
  | ok a k2 =>
    rw [hn] at h
    simp only [PR.bind] at h
    split at h
    · exact unex_out h
    · split at h
      · exact fail_out h
      · split at h
        · exact fail_out h
        · cases h
  | bad l c e => rw [hn] at h; cases h
  | out => exact numP_out hn
theorem map_ok {α β : Type} {f : α → β} {r : PR α} {b : β} {k : Nat} (h : r.map f = .ok b k) : ∃ a, r = .ok a k := by
  cases r with
  | ok a k1 => injection h with h1 h2; exact ⟨a, by rw [h2]⟩
  | bad l c e => cases h
  | out => cases h
theorem map_out {α β : Type} {f : α → β} {r : PR α} (h : r.map f = .out) : r = .out := by
  cases r with
  | ok a k1 => cases h
  | bad l c e => cases h
  | out => rfl
section
variable {nm : List UInt8 → Bool} {ts : List Tok}
/-- The rules go forward, and stay within the tokens. -/
theorem forward : ∀ f : Nat,
    (∀ k n e k1, sumP nm ts f k n = .ok e k1 → k < k1 ∧ k1 ≤ ts.length) ∧ (∀ e0 k n e k1, k ≤ ts.length → chS nm ts f e0 k n = .ok e k1 → k ≤ k1 ∧ k1 ≤ ts.length) ∧
    (∀ k n e k1, termP nm ts f k n = .ok e k1 → k < k1 ∧ k1 ≤ ts.length) ∧ (∀ e0 k n e k1, k ≤ ts.length → chT nm ts f e0 k n = .ok e k1 → k ≤ k1 ∧ k1 ≤ ts.length) ∧
    (∀ k n e k1, firstP nm ts f k n = .ok e k1 → k < k1 ∧ k1 ≤ ts.length) ∧ (∀ k n e k1, factorP nm ts f k n = .ok e k1 → k < k1 ∧ k1 ≤ ts.length) ∧
    (∀ k n e k1, atomP nm ts f k n = .ok e k1 → k < k1 ∧ k1 ≤ ts.length) ∧ (∀ k n e k1, encP nm ts f k n = .ok e k1 → k < k1 ∧ k1 ≤ ts.length) := by
  intro f
  induction f with
  | zero =>
    refine ⟨?_, ?_, ?_, ?_, ?_, ?_, ?_, ?_⟩ <;> intros <;> rename_i h <;> first | (unfold sumP at h; cases h) | (unfold chS at h; cases h) | (unfold termP at h; cases h) | (unfold chT at h; cases h) | (unfold firstP at h; cases h) | (unfold factorP at h; cases h) | (unfold atomP at h; cases h) | (unfold encP at h; cases h)
  | succ f ih =>
    obtain ⟨iS, iCS, iT, iCT, iF, iFa, iA, iE⟩ := ih
    refine ⟨?_, ?_, ?_, ?_, ?_, ?_, ?_, ?_⟩
    · intro k n e k1 h
      unfold sumP at h
      split at h
      · rename_i e1 k2 h2
        have h3 := iT _ _ _ _ h2
        have h4 := iCS _ _ _ _ _ h3.2 h
        omega
      · rename_i h2
        exact (h2 _ _ h).elim
    · intro e0 k n e k1 hk h
      unfold chS at h
      split at h
      · split at h
        · rename_i e1 k2 h2
          have h3 := iT _ _ _ _ h2
          have h4 := iCS _ _ _ _ _ h3.2 h
          omega
        · rename_i h2
          exact (h2 _ _ h).elim
      · injection h with h1 h2
        omega
    · intro k n e k1 h
      unfold termP at h
      split at h
      · rename_i e1 k2 h2
        have h3 := iF _ _ _ _ h2
        have h4 := iCT _ _ _ _ _ h3.2 h
        omega
      · rename_i h2
        exact (h2 _ _ h).elim
    · intro e0 k n e k1 hk h
      unfold chT at h
      split at h
      · split at h
        · rename_i e1 k2 h2
          have h3 := iFa _ _ _ _ h2
          have h4 := iCT _ _ _ _ _ h3.2 h
          omega
        · rename_i h2
          exact (h2 _ _ h).elim
      · injection h with h1 h2
        omega
    · intro k n e k1 h
      unfold firstP at h
      split at h
      · obtain ⟨a, ha⟩ := map_ok h
        exact quotP_ok ha
      · exact iFa _ _ _ _ h
    · intro k n e k1 h
      unfold factorP at h
      split at h
      · obtain ⟨a, ha⟩ := map_ok h
        exact numP_ok ha
      · split at h
        · split at h
          · exact (fail_ok h).elim
          · split at h
            · rename_i e1 k2 h2
              have h3 := iFa _ _ _ _ h2
              injection h with h4 h5
              omega
            · rename_i h2
              exact (h2 _ _ h).elim
        · split at h
          · rename_i e1 k2 h2
            have h3 := iA _ _ _ _ h2
            split at h
            · rename_i h6
              have h7 := isS_lt h6
              split at h
              · exact (unex_ok h).elim
              · rename_i h8
                split at h
                · exact (fail_ok h).elim
                · injection h with h4 h5
                  have : k2 + 1 < ts.length := by
                    apply tk_lt
                    intro h9
                    apply h8
                    unfold integerP
                    rw [h9]
                    rfl
                  omega
            · injection h with h4 h5
              omega
          · rename_i h2
            exact (h2 _ _ h).elim
    · intro k n e k1 h
      unfold atomP at h
      split at h
      · obtain ⟨a, ha⟩ := map_ok h
        exact numP_ok ha
      · split at h
        · rename_i h2
          injection h with h4 h5
          have := tk_lt (ts := ts) (k := k) (by omega)
          omega
        · split at h
          · split at h
            · rename_i e1 k2 h2
              have h3 := iE _ _ _ _ h2
              injection h with h4 h5
              omega
            · rename_i h2
              exact (h2 _ _ h).elim
          · exact iE _ _ _ _ h
    · intro k n e k1 h
      unfold encP at h
      split at h
      · split at h
        · exact (fail_ok h).elim
        · split at h
          · rename_i e1 k2 h2
            have h3 := iS _ _ _ _ h2
            split at h
            · rename_i h6
              have h7 := isS_lt h6
              injection h with h4 h5
              omega
            · exact (unex_ok h).elim
          · rename_i h2
            exact (h2 _ _ h).elim
      · exact (unex_ok h).elim
/-- Enough fuel is enough. -/
theorem enough : ∀ f : Nat,
    (∀ k n, 8 * (ts.length - k) + 8 ≤ f → sumP nm ts f k n ≠ .out) ∧ (∀ e0 k n, k ≤ ts.length → 8 * (ts.length - k) + 2 ≤ f → chS nm ts f e0 k n ≠ .out) ∧
    (∀ k n, 8 * (ts.length - k) + 7 ≤ f → termP nm ts f k n ≠ .out) ∧ (∀ e0 k n, k ≤ ts.length → 8 * (ts.length - k) + 2 ≤ f → chT nm ts f e0 k n ≠ .out) ∧
    (∀ k n, 8 * (ts.length - k) + 6 ≤ f → firstP nm ts f k n ≠ .out) ∧ (∀ k n, 8 * (ts.length - k) + 5 ≤ f → factorP nm ts f k n ≠ .out) ∧
    (∀ k n, 8 * (ts.length - k) + 4 ≤ f → atomP nm ts f k n ≠ .out) ∧ (∀ k n, 8 * (ts.length - k) + 3 ≤ f → encP nm ts f k n ≠ .out) := by
  intro f
  induction f with
  | zero => refine ⟨?_, ?_, ?_, ?_, ?_, ?_, ?_, ?_⟩ <;> intros <;> omega
  | succ f ih =>
    obtain ⟨iS, iCS, iT, iCT, iF, iFa, iA, iE⟩ := ih
    obtain ⟨gS, gCS, gT, gCT, gF, gFa, gA, gE⟩ := forward (nm := nm) (ts := ts) f
    refine ⟨?_, ?_, ?_, ?_, ?_, ?_, ?_, ?_⟩
    · intro k n hf h
      unfold sumP at h
      split at h
      · rename_i e1 k2 h2
        have h3 := gT _ _ _ _ h2
        exact iCS _ _ _ h3.2 (by omega) h
      · exact iT _ _ (by omega) h
    · intro e0 k n hk hf h
      unfold chS at h
      split at h
      · rename_i hc
        have hl := tk_lt (ts := ts) (k := k) (by omega)
        split at h
        · rename_i e1 k2 h2
          have h3 := gT _ _ _ _ h2
          exact iCS _ _ _ h3.2 (by omega) h
        · exact iT _ _ (by omega) h
      · cases h
    · intro k n hf h
      unfold termP at h
      split at h
      · rename_i e1 k2 h2
        have h3 := gF _ _ _ _ h2
        exact iCT _ _ _ h3.2 (by omega) h
      · exact iF _ _ (by omega) h
    · intro e0 k n hk hf h
      unfold chT at h
      split at h
      · rename_i hc
        have hl := tk_lt (ts := ts) (k := k) (by omega)
        split at h
        · rename_i e1 k2 h2
          have h3 := gFa _ _ _ _ h2
          exact iCT _ _ _ h3.2 (by omega) h
        · exact iFa _ _ (by omega) h
      · cases h
    · intro k n hf h
      unfold firstP at h
      split at h
      · exact quotP_out (map_out h)
      · exact iFa _ _ (by omega) h
    · intro k n hf h
      unfold factorP at h
      split at h
      · exact numP_out (map_out h)
      · split at h
        · rename_i hs
          have hl : k < ts.length := by
            unfold signP at hs
            split at hs
            · rename_i h6
              exact isS_lt h6
            · cases hs
          split at h
          · exact fail_out h
          · split at h
            · cases h
            · exact iFa _ _ (by omega) h
        · split at h
          · split at h
            · split at h
              · exact unex_out h
              · split at h
                · exact fail_out h
                · cases h
            · cases h
          · exact iA _ _ (by omega) h
    · intro k n hf h
      unfold atomP at h
      split at h
      · exact numP_out (map_out h)
      · split at h
        · cases h
        · split at h
          · rename_i h2
            have hl := tk_lt (ts := ts) (k := k) (by omega)
            split at h
            · cases h
            · exact iE _ _ (by omega) h
          · exact iE _ _ (by omega) h
    · intro k n hf h
      unfold encP at h
      split at h
      · rename_i h6
        have hl := isS_lt h6
        split at h
        · exact fail_out h
        · split at h
          · split at h
            · cases h
            · exact unex_out h
          · exact iS _ _ (by omega) h
      · exact unex_out h
end
end Go.Fl.Pa
namespace Go.Proofs.YtkjoohnndobjeaaGreatDoor
open Go.RowKit Go.Fl Go.Fl.Nm Go.Fl.Dy Go.Fl.Rt
theorem iter_below (w : World) (s : ByteArray) (p : Nat) : Below w.heap.size w (w.iter s p) := below_a1 _ _
theorem takeWhile_append_dropWhile_tail (b : List UInt8) (c : UInt8) (h : c ∈ b) : b = b.takeWhile (· != c) ++ c :: (b.dropWhile (· != c)).tail := by
  induction b with
  | nil => cases h
  | cons x b ih =>
    by_cases hx : x = c
    · subst hx; simp
    · have hx2 : (x != c) = true := by simpa using hx
      rcases List.mem_cons.1 h with h | h
      · exact absurd h.symm hx
      · rw [List.takeWhile_cons_of_pos (by simpa using hx2), List.dropWhile_cons_of_pos (by simpa using hx2), List.cons_append, ← ih h]
theorem tw_not_mem (b : List UInt8) (c : UInt8) : c ∉ b.takeWhile (· != c) := by
  induction b with
  | nil => simp
  | cons x b ih =>
    by_cases hx : x = c
    · subst hx; simp
    · rw [List.takeWhile_cons_of_pos (by simpa using hx)]
      intro h
      rcases List.mem_cons.1 h with h | h
      · exact hx h.symm
      · exact ih h
theorem data_append (a b : ByteArray) : (a ++ b).data.toList = a.data.toList ++ b.data.toList := by simp
theorem pow10_le {k : Nat} (h : k ≤ 18) : 10 ^ k ≤ 1000000000000000000 := by
  have e : (10 : Nat) ^ 18 = 1000000000000000000 := by decide
  rw [← e]; exact Nat.pow_le_pow_right (by omega) h

set_option maxHeartbeats 4000000 in
set_option maxRecDepth 100000 in
theorem parse_point (s : ByteArray) (w : World) (hT : RX w) (hs : s.size ≤ 1000) (ng : Bool) (rest : List UInt8) (hn : (s.data.toList.head? == some 45) = ng) (hr : (if ng then s.data.toList.tail else s.data.toList) = rest) (a b : List UInt8) (hab : rest = a ++ 46 :: b) (h46 : (46 : UInt8) ∉ a) :
    Calls Tryz.prog 166 #[.string s] w (RtE (read1 s.data.toList) w) := by
  have HT := Lib.hid hT
  have KP := Lib.hid (Tryz.strings_CutPrefix s ⟨#[45]⟩ w)
  have hpre := prefix_head s.data.toList
  have KP2 := Lib.hid hpre
  have hrl : rest.length ≤ 1000 := by
    have : s.data.toList.length ≤ 1000 := by rw [length_data]; exact hs
    rw [← hr]; split
    · simp at this ⊢; omega
    · exact this
  have HRD := Lib.hid (read1_point hn hr hab h46)
  have HN := Lib.hid hn
  have HR := Lib.hid hr
  have HAB := Lib.hid hab
  have H46 := Lib.hid h46
  clear hT hn hr hab h46 hpre KP
  go_enter Tryz.func166, Tryz.ntmps166
  go_wp2_with fail
  obtain ⟨w1, hw⟩ : ∃ z9 : World, z9 = (w.alloc (.cells #[.int .i64 0, .int .i64 0] 26)) := ⟨_, rfl⟩
  have HB1 := Lib.hid (show Below w.heap.size w w1 by rw [hw]; exact below_a1 _ _)
  have F1t := Lib.hid (HT.out.belowW HB1.out)
  have F1r := Lib.hid (show Blk w1 (w.heap.size) 26 #[.int .i64 0, .int .i64 0] by rw [hw]; exact Blk.new _ _ _)
  rw [← hw]
  clear hw
  refine (Tryz.strings_CutPrefix s ⟨#[45]⟩ w1).mono ?_
  rintro e w' ⟨rfl, hw⟩
  obtain rfl := hw.symm
  clear hw
  obtain ⟨R, hR⟩ : ∃ R : ByteArray, R = ⟨(Lib.trimPrefix s.data.toList (⟨#[45]⟩ : ByteArray).data.toList).toArray⟩ := ⟨_, rfl⟩
  have HRL := Lib.hid (show R.data.toList = rest by rw [hR]; show Lib.trimPrefix s.data.toList [45] = rest; rw [KP2.out.2, HN.out, HR.out])
  have HNG := Lib.hid (show Lib.hasPrefix s.data.toList (⟨#[45]⟩ : ByteArray).data.toList = ng by show Lib.hasPrefix s.data.toList [45] = ng; rw [KP2.out.1, HN.out])
  rw [← hR, HNG.out]
  clear hR
  have hRs : R.size ≤ 1000 := by rw [← length_data, HRL.out]; exact hrl
  go_wp2_with fail
  refine (cut_yes R 46 a b w1 (by omega) (by rw [HRL.out, HAB.out]) H46.out).mono ?_
  rintro e w2 ⟨A, B, rfl, HA, HYb, HB2⟩
  have F2t := Lib.hid (F1t.out.belowW HB2.out)
  have F2r := Lib.hid (F1r.out.belowW HB2.out)
  have HL2 := Lib.hid (HB1.out.trans (HB2.out.mono HB1.out.size))
  have hA : A.size ≤ 1000 := by rw [← length_data, HA.out]; have := hrl; rw [HAB.out] at this; simp at this; omega
  have hB : B.size ≤ 1000 := by rw [← length_data, HYb.out]; have := hrl; rw [HAB.out] at this; simp at this; omega
  have HAl := Lib.hid (show A.size = a.length by rw [← length_data, HA.out])
  have HBl := Lib.hid (show B.size = b.length by rw [← length_data, HYb.out])
  go_wp2_with fail
  cases da : digs a with
  | false =>
    have DA := Lib.hid da
    clear da
    refine (rdigits_any A w2 (by omega)).mono ?_
    rw [HA.out, DA.out]
    rintro e w3 ⟨rfl, HB3⟩
    have F3t := Lib.hid (F2t.out.belowW HB3.out)
    have F3r := Lib.hid (F2r.out.belowW HB3.out)
    have HL3 := Lib.hid (HL2.out.trans (HB3.out.mono HL2.out.size))
    have pr0 : (w3).cell? ⟨w.heap.size, 0, none⟩ = some (.int .i64 0) := F3r.out.cell 0
    have fr0 : (w3).frozen? ⟨w.heap.size, 0, none⟩ = false := F3r.out.frozen 0
    have pr1 : (w3).cell? ⟨w.heap.size, 1, none⟩ = some (.int .i64 0) := F3r.out.cell 1
    have fr1 : (w3).frozen? ⟨w.heap.size, 1, none⟩ = false := F3r.out.frozen 1
    go_wp2_with fail
    refine bodyPost_ret (v := .tuple #[.agg #[.int .i64 0, .int .i64 0], .int .i64 3]) (by simp [results, Tryz.results166, go_sem, pr0, pr1]) rfl ?_
    rw [show read1 s.data.toList = (0, 0, 3) from HRD.out.trans (by rw [DA.out]; rfl)]
    exact ⟨rfl, Lib.hid (store2_below HL3.out F3r.out _ _ (Nat.le_refl _))⟩
  | true =>
    have DA := Lib.hid da
    clear da
    refine (rdigits_any A w2 (by omega)).mono ?_
    rw [HA.out, DA.out]
    rintro e w3 ⟨rfl, HB3⟩
    have F3t := Lib.hid (F2t.out.belowW HB3.out)
    have F3r := Lib.hid (F2r.out.belowW HB3.out)
    have HL3 := Lib.hid (HL2.out.trans (HB3.out.mono HL2.out.size))
    go_wp2_with fail
    cases db : digs b with
    | false =>
      have DB := Lib.hid db
      clear db
      refine (rdigits_any B w3 (by omega)).mono ?_
      rw [HYb.out, DB.out]
      rintro e w4 ⟨rfl, HB4⟩
      have F4t := Lib.hid (F3t.out.belowW HB4.out)
      have F4r := Lib.hid (F3r.out.belowW HB4.out)
      have HL4 := Lib.hid (HL3.out.trans (HB4.out.mono HL3.out.size))
      have pr0 : (w4).cell? ⟨w.heap.size, 0, none⟩ = some (.int .i64 0) := F4r.out.cell 0
      have fr0 : (w4).frozen? ⟨w.heap.size, 0, none⟩ = false := F4r.out.frozen 0
      have pr1 : (w4).cell? ⟨w.heap.size, 1, none⟩ = some (.int .i64 0) := F4r.out.cell 1
      have fr1 : (w4).frozen? ⟨w.heap.size, 1, none⟩ = false := F4r.out.frozen 1
      go_wp2_with fail
      refine bodyPost_ret (v := .tuple #[.agg #[.int .i64 0, .int .i64 0], .int .i64 3]) (by simp [results, Tryz.results166, go_sem, pr0, pr1]) rfl ?_
      rw [show read1 s.data.toList = (0, 0, 3) from HRD.out.trans (by rw [DA.out, DB.out]; rfl)]
      exact ⟨rfl, Lib.hid (store2_below HL4.out F4r.out _ _ (Nat.le_refl _))⟩
    | true =>
      have DB := Lib.hid db
      clear db
      refine (rdigits_any B w3 (by omega)).mono ?_
      rw [HYb.out, DB.out]
      rintro e w4 ⟨rfl, HB4⟩
      have F4t := Lib.hid (F3t.out.belowW HB4.out)
      have F4r := Lib.hid (F3r.out.belowW HB4.out)
      have HL4 := Lib.hid (HL3.out.trans (HB4.out.mono HL3.out.size))
      by_cases hbig : 18 < A.size + B.size
      · have db : decide ((18 : Int) < (A.size : Int) + B.size) = true := decide_eq_true (by omega)
        have HB9 := Lib.hid (show 18 < a.length + b.length by rw [← HAl.out, ← HBl.out]; exact hbig)
        clear hbig
        have pr0 : (w4).cell? ⟨w.heap.size, 0, none⟩ = some (.int .i64 0) := F4r.out.cell 0
        have fr0 : (w4).frozen? ⟨w.heap.size, 0, none⟩ = false := F4r.out.frozen 0
        have pr1 : (w4).cell? ⟨w.heap.size, 1, none⟩ = some (.int .i64 0) := F4r.out.cell 1
        have fr1 : (w4).frozen? ⟨w.heap.size, 1, none⟩ = false := F4r.out.frozen 1
        go_wp2_with fail
        refine bodyPost_ret (v := .tuple #[.agg #[.int .i64 0, .int .i64 0], .int .i64 5]) (by simp [results, Tryz.results166, go_sem, pr0, pr1]) rfl ?_
        rw [show read1 s.data.toList = (0, 0, 5) from HRD.out.trans (by rw [DA.out, DB.out, if_pos HB9.out]; rfl)]
        exact ⟨rfl, Lib.hid (store2_below HL4.out F4r.out _ _ (Nat.le_refl _))⟩
      · have db : decide ((18 : Int) < (A.size : Int) + B.size) = false := decide_eq_false (by omega)
        have HB9 := Lib.hid (show ¬ 18 < a.length + b.length by rw [← HAl.out, ← HBl.out]; exact hbig)
        have HAB2 := Lib.hid (show (A ++ B).data.toList = a ++ b by rw [data_append, HA.out, HYb.out])
        have HDG := Lib.hid (show digs (A ++ B).data.toList = true by rw [HAB2.out]; exact digs_append DA.out (digs_all DB.out))
        have HLN := Lib.hid (show (A ++ B).data.toList.length ≤ 18 by rw [HAB2.out, List.length_append]; have := HB9.out; omega)
        have HAS := Lib.hid (show ∀ p (h : p < B.size), (B[p]'h).toNat < 128 from fun p h => by
          have hall := digs_all DB.out
          rw [List.all_eq_true] at hall
          have := hall B[p] (by rw [← HYb.out]; exact List.getElem_mem (by simpa using h))
          unfold isDig at this; simp at this; omega)
        obtain ⟨V, hV⟩ : ∃ V : Nat, V = dval (a ++ b) := ⟨_, rfl⟩
        have hVb : V < 1000000000000000000 := by
          have h1 := dval_lt (a ++ b) (by rw [List.all_append, digs_all DA.out, digs_all DB.out]; rfl)
          have h2 := pow10_le (show (a ++ b).length ≤ 18 by rw [List.length_append]; have := HB9.out; omega)
          omega
        have HVV := Lib.hid hV.symm
        clear hV
        go_wp2_with fail
        refine (number_ok (A ++ B) w4 HDG.out HLN.out).mono ?_
        rw [HAB2.out, HVV.out]
        rintro e w5 ⟨rfl, HB5⟩
        have F5t := Lib.hid (F4t.out.belowW HB5.out)
        have F5r := Lib.hid (F4r.out.belowW HB5.out)
        have HL5 := Lib.hid (HL4.out.trans (HB5.out.mono HL4.out.size))
        go_wp2_with fail
        go_loopw [12] (fun dv wr => ∃ pos : Nat, pos ≤ B.size ∧ wr = w5.iter B pos ∧ dv = .int .i64 (10 ^ pos : Nat)) (fun _ wr => B.size - wr.iterPos w5.heap.size)
        case atStart => exact ⟨0, Nat.zero_le _, rfl, rfl⟩
        case round =>
          obtain ⟨pos, hpos, rfl, rfl⟩ := hrel
          by_cases hlt : pos < B.size
          · have hnx : ∀ ty, (Instr.next (.pointer (some ⟨w5.heap.size, 0, none⟩)) true ty).run Tryz.prog (w5.iter B pos) = _ := fun ty => run_next_ascii w5 B pos ty hlt (HAS.out pos hlt)
            have hpw := pow10_le (show pos + 1 ≤ 18 by omega)
            have HPW := Lib.hid (show (10 ^ (pos + 1) : Nat) = 10 ^ pos * 10 from Nat.pow_succ 10 pos)
            obtain ⟨z, hz⟩ : ∃ z : Nat, z = 10 ^ pos := ⟨_, rfl⟩
            rw [Nat.pow_succ, ← hz] at hpw
            rw [← hz]
            have HZ := Lib.hid hz
            clear hz
            go_wp2
            go_roundw
            case rel => exact ⟨pos + 1, by omega, rfl, by rw [HPW.out, ← HZ.out]; go_num⟩
            case measure => simp; omega
          · obtain rfl : pos = B.size := by omega
            have hnx : ∀ ty, (Instr.next (.pointer (some ⟨w5.heap.size, 0, none⟩)) true ty).run Tryz.prog (w5.iter B B.size) = _ := fun ty => run_next_end w5 B B.size ty hlt
            have hpw := pow10_le (show B.size ≤ 18 by omega)
            obtain ⟨D9, hD9⟩ : ∃ z : Nat, z = 10 ^ B.size := ⟨_, rfl⟩
            rw [← hD9] at hpw ⊢
            have HD9 := Lib.hid hD9
            clear hD9
            go_upto_region 19 with (fail)
            obtain ⟨w6, hw⟩ : ∃ z9 : World, z9 = w5.iter B B.size := ⟨_, rfl⟩
            have HB6 := Lib.hid (show Below w5.heap.size w5 w6 by rw [hw]; exact iter_below _ _ _)
            rw [← hw]
            clear hw hnx
            have F6t := Lib.hid (F5t.out.belowW HB6.out)
            have F6r := Lib.hid (F5r.out.belowW HB6.out)
            have HL6 := Lib.hid (HL5.out.trans (HB6.out.mono HL5.out.size))
            cases ng with
            | true =>
              go_wp2_with fail
              refine (make_q (-(V : Int)) (D9 : Int) w6 (by omega) (by omega) (by omega) (by omega)).mono ?_
              rintro e w7 ⟨rfl, HB7⟩
              have F7t := Lib.hid (F6t.out.belowW HB7.out)
              have F7r := Lib.hid (F6r.out.belowW HB7.out)
              have HL7 := Lib.hid (HL6.out.trans (HB7.out.mono HL6.out.size))
              have pr0 : (w7).cell? ⟨w.heap.size, 0, none⟩ = some (.int .i64 0) := F7r.out.cell 0
              have fr0 : (w7).frozen? ⟨w.heap.size, 0, none⟩ = false := F7r.out.frozen 0
              have pr1 : (w7).cell? ⟨w.heap.size, 1, none⟩ = some (.int .i64 0) := F7r.out.cell 1
              have fr1 : (w7).frozen? ⟨w.heap.size, 1, none⟩ = false := F7r.out.frozen 1
              go_wp2_with fail
              refine bodyPost_ret (v := .tuple #[.agg #[.int .i64 (make (-(V : Int)) (D9 : Int)).1, .int .i64 (make (-(V : Int)) (D9 : Int)).2.1], .int .i64 (make (-(V : Int)) (D9 : Int)).2.2]) (by simp [results, Tryz.results166, go_sem, pr0, pr1]) rfl ?_
              rw [show read1 s.data.toList = make (-(V : Int)) (D9 : Int) from HRD.out.trans (by rw [DA.out, DB.out, if_neg HB9.out, HVV.out, ← HBl.out, HD9.out]; rfl)]
              exact ⟨rfl, Lib.hid (store2_below HL7.out F7r.out _ _ (Nat.le_refl _))⟩
            | false =>
              go_wp2_with fail
              refine (make_q (V : Int) (D9 : Int) w6 (by omega) (by omega) (by omega) (by omega)).mono ?_
              rintro e w7 ⟨rfl, HB7⟩
              have F7t := Lib.hid (F6t.out.belowW HB7.out)
              have F7r := Lib.hid (F6r.out.belowW HB7.out)
              have HL7 := Lib.hid (HL6.out.trans (HB7.out.mono HL6.out.size))
              have pr0 : (w7).cell? ⟨w.heap.size, 0, none⟩ = some (.int .i64 0) := F7r.out.cell 0
              have fr0 : (w7).frozen? ⟨w.heap.size, 0, none⟩ = false := F7r.out.frozen 0
              have pr1 : (w7).cell? ⟨w.heap.size, 1, none⟩ = some (.int .i64 0) := F7r.out.cell 1
              have fr1 : (w7).frozen? ⟨w.heap.size, 1, none⟩ = false := F7r.out.frozen 1
              go_wp2_with fail
              refine bodyPost_ret (v := .tuple #[.agg #[.int .i64 (make (V : Int) (D9 : Int)).1, .int .i64 (make (V : Int) (D9 : Int)).2.1], .int .i64 (make (V : Int) (D9 : Int)).2.2]) (by simp [results, Tryz.results166, go_sem, pr0, pr1]) rfl ?_
              rw [show read1 s.data.toList = make (V : Int) (D9 : Int) from HRD.out.trans (by rw [DA.out, DB.out, if_neg HB9.out, HVV.out, ← HBl.out, HD9.out]; rfl)]
              exact ⟨rfl, Lib.hid (store2_below HL7.out F7r.out _ _ (Nat.le_refl _))⟩

set_option maxHeartbeats 4000000 in
set_option maxRecDepth 100000 in
theorem parse_slash (s : ByteArray) (w : World) (hT : RX w) (hs : s.size ≤ 1000) (ng : Bool) (rest : List UInt8) (hn : (s.data.toList.head? == some 45) = ng) (hr : (if ng then s.data.toList.tail else s.data.toList) = rest) (a b : List UInt8) (h46 : (46 : UInt8) ∉ rest) (hab : rest = a ++ 47 :: b) (h47 : (47 : UInt8) ∉ a) :
    Calls Tryz.prog 166 #[.string s] w (RtE (read1 s.data.toList) w) := by
  have HT := Lib.hid hT
  have KP := Lib.hid (Tryz.strings_CutPrefix s ⟨#[45]⟩ w)
  have hpre := prefix_head s.data.toList
  have KP2 := Lib.hid hpre
  have hrl : rest.length ≤ 1000 := by
    have : s.data.toList.length ≤ 1000 := by rw [length_data]; exact hs
    rw [← hr]; split
    · simp at this ⊢; omega
    · exact this
  have HRD := Lib.hid (read1_slash hn hr h46 hab h47)
  have HN := Lib.hid hn
  have HR := Lib.hid hr
  have HAB := Lib.hid hab
  have H46 := Lib.hid h46
  have H47 := Lib.hid h47
  clear hT hn hr hab h46 h47 hpre KP
  go_enter Tryz.func166, Tryz.ntmps166
  go_wp2_with fail
  obtain ⟨w1, hw⟩ : ∃ z9 : World, z9 = (w.alloc (.cells #[.int .i64 0, .int .i64 0] 26)) := ⟨_, rfl⟩
  have HB1 := Lib.hid (show Below w.heap.size w w1 by rw [hw]; exact below_a1 _ _)
  have F1t := Lib.hid (HT.out.belowW HB1.out)
  have F1r := Lib.hid (show Blk w1 (w.heap.size) 26 #[.int .i64 0, .int .i64 0] by rw [hw]; exact Blk.new _ _ _)
  rw [← hw]
  clear hw
  refine (Tryz.strings_CutPrefix s ⟨#[45]⟩ w1).mono ?_
  rintro e w' ⟨rfl, hw⟩
  obtain rfl := hw.symm
  clear hw
  obtain ⟨R, hR⟩ : ∃ R : ByteArray, R = ⟨(Lib.trimPrefix s.data.toList (⟨#[45]⟩ : ByteArray).data.toList).toArray⟩ := ⟨_, rfl⟩
  have HRL := Lib.hid (show R.data.toList = rest by rw [hR]; show Lib.trimPrefix s.data.toList [45] = rest; rw [KP2.out.2, HN.out, HR.out])
  have HNG := Lib.hid (show Lib.hasPrefix s.data.toList (⟨#[45]⟩ : ByteArray).data.toList = ng by show Lib.hasPrefix s.data.toList [45] = ng; rw [KP2.out.1, HN.out])
  rw [← hR, HNG.out]
  clear hR
  have hRs : R.size ≤ 1000 := by rw [← length_data, HRL.out]; exact hrl
  go_wp2_with fail
  refine (cut_no R 46 w1 (by omega) (by rw [HRL.out]; exact H46.out)).mono ?_
  rintro e w' ⟨rfl, rfl⟩
  go_wp2_with fail
  refine (cut_yes R 47 a b w1 (by omega) (by rw [HRL.out, HAB.out]) H47.out).mono ?_
  rintro e w2 ⟨A, B, rfl, HA, HYb, HB2⟩
  have F2t := Lib.hid (F1t.out.belowW HB2.out)
  have F2r := Lib.hid (F1r.out.belowW HB2.out)
  have HL2 := Lib.hid (HB1.out.trans (HB2.out.mono HB1.out.size))
  have hA : A.size ≤ 1000 := by rw [← length_data, HA.out]; have := hrl; rw [HAB.out] at this; simp at this; omega
  have hB : B.size ≤ 1000 := by rw [← length_data, HYb.out]; have := hrl; rw [HAB.out] at this; simp at this; omega
  have HAl := Lib.hid (show A.size = a.length by rw [← length_data, HA.out])
  have HBl := Lib.hid (show B.size = b.length by rw [← length_data, HYb.out])
  go_wp2_with fail
  cases da : digs a with
  | false =>
    have DA := Lib.hid da
    clear da
    refine (rdigits_any A w2 (by omega)).mono ?_
    rw [HA.out, DA.out]
    rintro e w3 ⟨rfl, HB3⟩
    have F3t := Lib.hid (F2t.out.belowW HB3.out)
    have F3r := Lib.hid (F2r.out.belowW HB3.out)
    have HL3 := Lib.hid (HL2.out.trans (HB3.out.mono HL2.out.size))
    have pr0 : (w3).cell? ⟨w.heap.size, 0, none⟩ = some (.int .i64 0) := F3r.out.cell 0
    have fr0 : (w3).frozen? ⟨w.heap.size, 0, none⟩ = false := F3r.out.frozen 0
    have pr1 : (w3).cell? ⟨w.heap.size, 1, none⟩ = some (.int .i64 0) := F3r.out.cell 1
    have fr1 : (w3).frozen? ⟨w.heap.size, 1, none⟩ = false := F3r.out.frozen 1
    go_wp2_with fail
    refine bodyPost_ret (v := .tuple #[.agg #[.int .i64 0, .int .i64 0], .int .i64 3]) (by simp [results, Tryz.results166, go_sem, pr0, pr1]) rfl ?_
    rw [show read1 s.data.toList = (0, 0, 3) from HRD.out.trans (by rw [DA.out]; rfl)]
    exact ⟨rfl, Lib.hid (store2_below HL3.out F3r.out _ _ (Nat.le_refl _))⟩
  | true =>
    have DA := Lib.hid da
    clear da
    refine (rdigits_any A w2 (by omega)).mono ?_
    rw [HA.out, DA.out]
    rintro e w3 ⟨rfl, HB3⟩
    have F3t := Lib.hid (F2t.out.belowW HB3.out)
    have F3r := Lib.hid (F2r.out.belowW HB3.out)
    have HL3 := Lib.hid (HL2.out.trans (HB3.out.mono HL2.out.size))
    go_wp2_with fail
    cases db : digs b with
    | false =>
      have DB := Lib.hid db
      clear db
      refine (rdigits_any B w3 (by omega)).mono ?_
      rw [HYb.out, DB.out]
      rintro e w4 ⟨rfl, HB4⟩
      have F4t := Lib.hid (F3t.out.belowW HB4.out)
      have F4r := Lib.hid (F3r.out.belowW HB4.out)
      have HL4 := Lib.hid (HL3.out.trans (HB4.out.mono HL3.out.size))
      have pr0 : (w4).cell? ⟨w.heap.size, 0, none⟩ = some (.int .i64 0) := F4r.out.cell 0
      have fr0 : (w4).frozen? ⟨w.heap.size, 0, none⟩ = false := F4r.out.frozen 0
      have pr1 : (w4).cell? ⟨w.heap.size, 1, none⟩ = some (.int .i64 0) := F4r.out.cell 1
      have fr1 : (w4).frozen? ⟨w.heap.size, 1, none⟩ = false := F4r.out.frozen 1
      go_wp2_with fail
      refine bodyPost_ret (v := .tuple #[.agg #[.int .i64 0, .int .i64 0], .int .i64 3]) (by simp [results, Tryz.results166, go_sem, pr0, pr1]) rfl ?_
      rw [show read1 s.data.toList = (0, 0, 3) from HRD.out.trans (by rw [DA.out, DB.out]; rfl)]
      exact ⟨rfl, Lib.hid (store2_below HL4.out F4r.out _ _ (Nat.le_refl _))⟩
    | true =>
      have DB := Lib.hid db
      clear db
      refine (rdigits_any B w3 (by omega)).mono ?_
      rw [HYb.out, DB.out]
      rintro e w4 ⟨rfl, HB4⟩
      have F4t := Lib.hid (F3t.out.belowW HB4.out)
      have F4r := Lib.hid (F3r.out.belowW HB4.out)
      have HL4 := Lib.hid (HL3.out.trans (HB4.out.mono HL3.out.size))
      obtain ⟨M9, hM9⟩ : ∃ z : Nat, z = max A.size B.size := ⟨_, rfl⟩
      have hmx : max (A.size : Int) (B.size : Int) = (M9 : Int) := by omega
      by_cases hbig : 18 < M9
      · have db : decide ((18 : Int) < (M9 : Int)) = true := decide_eq_true (by omega)
        have HB9 := Lib.hid (show 18 < max a.length b.length by rw [← HAl.out, ← HBl.out]; omega)
        clear hbig hM9
        have pr0 : (w4).cell? ⟨w.heap.size, 0, none⟩ = some (.int .i64 0) := F4r.out.cell 0
        have fr0 : (w4).frozen? ⟨w.heap.size, 0, none⟩ = false := F4r.out.frozen 0
        have pr1 : (w4).cell? ⟨w.heap.size, 1, none⟩ = some (.int .i64 0) := F4r.out.cell 1
        have fr1 : (w4).frozen? ⟨w.heap.size, 1, none⟩ = false := F4r.out.frozen 1
        go_wp2_with fail
        refine bodyPost_ret (v := .tuple #[.agg #[.int .i64 0, .int .i64 0], .int .i64 5]) (by simp [results, Tryz.results166, go_sem, pr0, pr1]) rfl ?_
        rw [show read1 s.data.toList = (0, 0, 5) from HRD.out.trans (by rw [DA.out, DB.out, if_pos HB9.out]; rfl)]
        exact ⟨rfl, Lib.hid (store2_below HL4.out F4r.out _ _ (Nat.le_refl _))⟩
      · have db : decide ((18 : Int) < (M9 : Int)) = false := decide_eq_false (by omega)
        have HB9 := Lib.hid (show ¬ 18 < max a.length b.length by rw [← HAl.out, ← HBl.out]; omega)
        have hlA : A.data.toList.length ≤ 18 := by rw [length_data]; omega
        have hlB : B.data.toList.length ≤ 18 := by rw [length_data]; omega
        have HlA := Lib.hid hlA
        have HlB := Lib.hid hlB
        clear hbig hM9 hlA hlB
        have HAB2 := Lib.hid (show (A ++ B).data.toList = a ++ b by rw [data_append, HA.out, HYb.out])
        have HDG := Lib.hid (show digs (A ++ B).data.toList = true by rw [HAB2.out]; exact digs_append DA.out (digs_all DB.out))
        have hsAB : (A ++ B).size ≤ 100000 := by rw [ByteArray.size_append]; omega
        obtain ⟨V, hV⟩ : ∃ V : Nat, V = dval a := ⟨_, rfl⟩
        obtain ⟨D9, hD⟩ : ∃ V : Nat, V = dval b := ⟨_, rfl⟩
        have hVb : V < 1000000000000000000 := by
          have h1 := dval_lt a (digs_all DA.out)
          have h2 := pow10_le (show a.length ≤ 18 by have := HB9.out; omega)
          omega
        have hDb : D9 < 1000000000000000000 := by
          have h1 := dval_lt b (digs_all DB.out)
          have h2 := pow10_le (show b.length ≤ 18 by have := HB9.out; omega)
          omega
        have HVV := Lib.hid hV.symm
        have HDD := Lib.hid hD.symm
        clear hV hD
        go_wp2_with fail
        refine (rnumber_any (A ++ B) w4 HDG.out hsAB F4t.out).mono ?_
        rintro e w5 ⟨v0, rfl, HB5⟩
        have F5t := Lib.hid (F4t.out.belowW HB5.out)
        have F5r := Lib.hid (F4r.out.belowW HB5.out)
        have HL5 := Lib.hid (HL4.out.trans (HB5.out.mono HL4.out.size))
        go_wp2_with fail
        refine (number_ok A w5 (by rw [HA.out]; exact DA.out) HlA.out).mono ?_
        rw [HA.out, HVV.out]
        rintro e w6 ⟨rfl, HB6⟩
        have F6t := Lib.hid (F5t.out.belowW HB6.out)
        have F6r := Lib.hid (F5r.out.belowW HB6.out)
        have HL6 := Lib.hid (HL5.out.trans (HB6.out.mono HL5.out.size))
        go_wp2_with fail
        refine (number_ok B w6 (by rw [HYb.out]; exact DB.out) HlB.out).mono ?_
        rw [HYb.out, HDD.out]
        rintro e w7 ⟨rfl, HB7⟩
        have F7t := Lib.hid (F6t.out.belowW HB7.out)
        have F7r := Lib.hid (F6r.out.belowW HB7.out)
        have HL7 := Lib.hid (HL6.out.trans (HB7.out.mono HL6.out.size))
        cases ng with
        | true =>
          go_wp2_with fail
          refine (make_q (-(V : Int)) (D9 : Int) w7 (by omega) (by omega) (by omega) (by omega)).mono ?_
          rintro e w8 ⟨rfl, HB8⟩
          have F8t := Lib.hid (F7t.out.belowW HB8.out)
          have F8r := Lib.hid (F7r.out.belowW HB8.out)
          have HL8 := Lib.hid (HL7.out.trans (HB8.out.mono HL7.out.size))
          have pr0 : (w8).cell? ⟨w.heap.size, 0, none⟩ = some (.int .i64 0) := F8r.out.cell 0
          have fr0 : (w8).frozen? ⟨w.heap.size, 0, none⟩ = false := F8r.out.frozen 0
          have pr1 : (w8).cell? ⟨w.heap.size, 1, none⟩ = some (.int .i64 0) := F8r.out.cell 1
          have fr1 : (w8).frozen? ⟨w.heap.size, 1, none⟩ = false := F8r.out.frozen 1
          go_wp2_with fail
          refine bodyPost_ret (v := .tuple #[.agg #[.int .i64 (make (-(V : Int)) (D9 : Int)).1, .int .i64 (make (-(V : Int)) (D9 : Int)).2.1], .int .i64 (make (-(V : Int)) (D9 : Int)).2.2]) (by simp [results, Tryz.results166, go_sem, pr0, pr1]) rfl ?_
          rw [show read1 s.data.toList = make (-(V : Int)) (D9 : Int) from HRD.out.trans (by rw [DA.out, DB.out, if_neg HB9.out, HVV.out, HDD.out]; rfl)]
          exact ⟨rfl, Lib.hid (store2_below HL8.out F8r.out _ _ (Nat.le_refl _))⟩
        | false =>
          go_wp2_with fail
          refine (make_q (V : Int) (D9 : Int) w7 (by omega) (by omega) (by omega) (by omega)).mono ?_
          rintro e w8 ⟨rfl, HB8⟩
          have F8t := Lib.hid (F7t.out.belowW HB8.out)
          have F8r := Lib.hid (F7r.out.belowW HB8.out)
          have HL8 := Lib.hid (HL7.out.trans (HB8.out.mono HL7.out.size))
          have pr0 : (w8).cell? ⟨w.heap.size, 0, none⟩ = some (.int .i64 0) := F8r.out.cell 0
          have fr0 : (w8).frozen? ⟨w.heap.size, 0, none⟩ = false := F8r.out.frozen 0
          have pr1 : (w8).cell? ⟨w.heap.size, 1, none⟩ = some (.int .i64 0) := F8r.out.cell 1
          have fr1 : (w8).frozen? ⟨w.heap.size, 1, none⟩ = false := F8r.out.frozen 1
          go_wp2_with fail
          refine bodyPost_ret (v := .tuple #[.agg #[.int .i64 (make (V : Int) (D9 : Int)).1, .int .i64 (make (V : Int) (D9 : Int)).2.1], .int .i64 (make (V : Int) (D9 : Int)).2.2]) (by simp [results, Tryz.results166, go_sem, pr0, pr1]) rfl ?_
          rw [show read1 s.data.toList = make (V : Int) (D9 : Int) from HRD.out.trans (by rw [DA.out, DB.out, if_neg HB9.out, HVV.out, HDD.out]; rfl)]
          exact ⟨rfl, Lib.hid (store2_below HL8.out F8r.out _ _ (Nat.le_refl _))⟩

set_option maxHeartbeats 4000000 in
set_option maxRecDepth 100000 in
theorem parse_none (s : ByteArray) (w : World) (hT : RX w) (hs : s.size ≤ 1000) (ng : Bool) (rest : List UInt8) (hn : (s.data.toList.head? == some 45) = ng) (hr : (if ng then s.data.toList.tail else s.data.toList) = rest) (h46 : (46 : UInt8) ∉ rest) (h47 : (47 : UInt8) ∉ rest) :
    Calls Tryz.prog 166 #[.string s] w (RtE (read1 s.data.toList) w) := by
  have HT := Lib.hid hT
  have KP := Lib.hid (Tryz.strings_CutPrefix s ⟨#[45]⟩ w)
  have hpre := prefix_head s.data.toList
  have KP2 := Lib.hid hpre
  have hrl : rest.length ≤ 1000 := by
    have : s.data.toList.length ≤ 1000 := by rw [length_data]; exact hs
    rw [← hr]; split
    · simp at this ⊢; omega
    · exact this
  have HRD := Lib.hid (read1_none hn hr h46 h47)
  have HN := Lib.hid hn
  have HR := Lib.hid hr
  have H46 := Lib.hid h46
  have H47 := Lib.hid h47
  clear hT hn hr h46 h47 hpre KP
  go_enter Tryz.func166, Tryz.ntmps166
  go_wp2_with fail
  obtain ⟨w1, hw⟩ : ∃ z9 : World, z9 = (w.alloc (.cells #[.int .i64 0, .int .i64 0] 26)) := ⟨_, rfl⟩
  have HB1 := Lib.hid (show Below w.heap.size w w1 by rw [hw]; exact below_a1 _ _)
  have F1t := Lib.hid (HT.out.belowW HB1.out)
  have F1r := Lib.hid (show Blk w1 (w.heap.size) 26 #[.int .i64 0, .int .i64 0] by rw [hw]; exact Blk.new _ _ _)
  rw [← hw]
  clear hw
  refine (Tryz.strings_CutPrefix s ⟨#[45]⟩ w1).mono ?_
  rintro e w' ⟨rfl, hw⟩
  obtain rfl := hw.symm
  clear hw
  obtain ⟨R, hR⟩ : ∃ R : ByteArray, R = ⟨(Lib.trimPrefix s.data.toList (⟨#[45]⟩ : ByteArray).data.toList).toArray⟩ := ⟨_, rfl⟩
  have HRL := Lib.hid (show R.data.toList = rest by rw [hR]; show Lib.trimPrefix s.data.toList [45] = rest; rw [KP2.out.2, HN.out, HR.out])
  have HNG := Lib.hid (show Lib.hasPrefix s.data.toList (⟨#[45]⟩ : ByteArray).data.toList = ng by show Lib.hasPrefix s.data.toList [45] = ng; rw [KP2.out.1, HN.out])
  rw [← hR, HNG.out]
  clear hR
  have hRs : R.size ≤ 1000 := by rw [← length_data, HRL.out]; exact hrl
  go_wp2_with fail
  refine (cut_no R 46 w1 (by omega) (by rw [HRL.out]; exact H46.out)).mono ?_
  rintro e w' ⟨rfl, rfl⟩
  go_wp2_with fail
  refine (cut_no R 47 w1 (by omega) (by rw [HRL.out]; exact H47.out)).mono ?_
  rintro e w' ⟨rfl, rfl⟩
  go_wp2_with fail
  have HAl := Lib.hid (show R.size = rest.length by rw [← length_data, HRL.out])
  cases da : digs rest with
  | false =>
    have DA := Lib.hid da
    clear da
    refine (rdigits_any R w1 (by omega)).mono ?_
    rw [HRL.out, DA.out]
    rintro e w2 ⟨rfl, HB2⟩
    have F2t := Lib.hid (F1t.out.belowW HB2.out)
    have F2r := Lib.hid (F1r.out.belowW HB2.out)
    have HL2 := Lib.hid (HB1.out.trans (HB2.out.mono HB1.out.size))
    have pr0 : (w2).cell? ⟨w.heap.size, 0, none⟩ = some (.int .i64 0) := F2r.out.cell 0
    have fr0 : (w2).frozen? ⟨w.heap.size, 0, none⟩ = false := F2r.out.frozen 0
    have pr1 : (w2).cell? ⟨w.heap.size, 1, none⟩ = some (.int .i64 0) := F2r.out.cell 1
    have fr1 : (w2).frozen? ⟨w.heap.size, 1, none⟩ = false := F2r.out.frozen 1
    go_wp2_with fail
    refine bodyPost_ret (v := .tuple #[.agg #[.int .i64 0, .int .i64 0], .int .i64 3]) (by simp [results, Tryz.results166, go_sem, pr0, pr1]) rfl ?_
    rw [show read1 s.data.toList = (0, 0, 3) from HRD.out.trans (by rw [DA.out]; rfl)]
    exact ⟨rfl, Lib.hid (store2_below HL2.out F2r.out _ _ (Nat.le_refl _))⟩
  | true =>
    have DA := Lib.hid da
    clear da
    refine (rdigits_any R w1 (by omega)).mono ?_
    rw [HRL.out, DA.out]
    rintro e w2 ⟨rfl, HB2⟩
    have F2t := Lib.hid (F1t.out.belowW HB2.out)
    have F2r := Lib.hid (F1r.out.belowW HB2.out)
    have HL2 := Lib.hid (HB1.out.trans (HB2.out.mono HB1.out.size))
    by_cases hbig : 18 < R.size
    · have db : decide ((18 : Int) < (R.size : Int)) = true := decide_eq_true (by omega)
      have HB9 := Lib.hid (show 18 < rest.length by rw [← HAl.out]; exact hbig)
      clear hbig
      have pr0 : (w2).cell? ⟨w.heap.size, 0, none⟩ = some (.int .i64 0) := F2r.out.cell 0
      have fr0 : (w2).frozen? ⟨w.heap.size, 0, none⟩ = false := F2r.out.frozen 0
      have pr1 : (w2).cell? ⟨w.heap.size, 1, none⟩ = some (.int .i64 0) := F2r.out.cell 1
      have fr1 : (w2).frozen? ⟨w.heap.size, 1, none⟩ = false := F2r.out.frozen 1
      go_wp2_with fail
      refine bodyPost_ret (v := .tuple #[.agg #[.int .i64 0, .int .i64 0], .int .i64 5]) (by simp [results, Tryz.results166, go_sem, pr0, pr1]) rfl ?_
      rw [show read1 s.data.toList = (0, 0, 5) from HRD.out.trans (by rw [DA.out, if_pos HB9.out]; rfl)]
      exact ⟨rfl, Lib.hid (store2_below HL2.out F2r.out _ _ (Nat.le_refl _))⟩
    · have db : decide ((18 : Int) < (R.size : Int)) = false := decide_eq_false (by omega)
      have HB9 := Lib.hid (show ¬ 18 < rest.length by rw [← HAl.out]; exact hbig)
      obtain ⟨E, hE⟩ : ∃ E : ByteArray, E = ⟨#[]⟩ := ⟨_, rfl⟩
      have hEs : E.size = 0 := by rw [hE]; rfl
      have HAB2 := Lib.hid (show (R ++ E).data.toList = rest by rw [data_append, HRL.out, hE]; simp)
      have HDG := Lib.hid (show digs (R ++ E).data.toList = true by rw [HAB2.out]; exact DA.out)
      have HLN := Lib.hid (show (R ++ E).data.toList.length ≤ 18 by rw [HAB2.out]; have := HB9.out; omega)
      obtain ⟨V, hV⟩ : ∃ V : Nat, V = dval rest := ⟨_, rfl⟩
      have hVb : V < 1000000000000000000 := by
        have h1 := dval_lt rest (digs_all DA.out)
        have h2 := pow10_le (show rest.length ≤ 18 by have := HB9.out; omega)
        omega
      have HVV := Lib.hid hV.symm
      clear hV hbig
      rw [← hE]
      have HEE := Lib.hid hE
      have HES := Lib.hid hEs
      have hE0 : E.size ≤ 0 := by omega
      have db2 : decide ((18 : Int) < (R.size : Int) + E.size) = false := decide_eq_false (by have := HB9.out; have := HAl.out; omega)
      have HAS := Lib.hid (show ∀ p (h : p < E.size), (E[p]'h).toNat < 128 from fun p h => absurd h (by omega))
      clear hE hEs
      go_wp2_with fail
      refine (number_ok (R ++ E) w2 HDG.out HLN.out).mono ?_
      rw [HAB2.out, HVV.out]
      rintro e w3 ⟨rfl, HB3⟩
      have F3t := Lib.hid (F2t.out.belowW HB3.out)
      have F3r := Lib.hid (F2r.out.belowW HB3.out)
      have HL3 := Lib.hid (HL2.out.trans (HB3.out.mono HL2.out.size))
      go_wp2_with fail
      go_loopw [12] (fun dv wr => ∃ pos : Nat, pos ≤ E.size ∧ wr = w3.iter E pos ∧ dv = .int .i64 (10 ^ pos : Nat)) (fun _ wr => E.size - wr.iterPos w3.heap.size)
      case atStart => exact ⟨0, Nat.zero_le _, rfl, rfl⟩
      case round =>
        obtain ⟨pos, hpos, rfl, rfl⟩ := hrel
        by_cases hlt : pos < E.size
        · have hnx : ∀ ty, (Instr.next (.pointer (some ⟨w3.heap.size, 0, none⟩)) true ty).run Tryz.prog (w3.iter E pos) = _ := fun ty => run_next_ascii w3 E pos ty hlt (HAS.out pos hlt)
          have hpw := pow10_le (show pos + 1 ≤ 18 by omega)
          have HPW := Lib.hid (show (10 ^ (pos + 1) : Nat) = 10 ^ pos * 10 from Nat.pow_succ 10 pos)
          obtain ⟨z, hz⟩ : ∃ z : Nat, z = 10 ^ pos := ⟨_, rfl⟩
          rw [Nat.pow_succ, ← hz] at hpw
          rw [← hz]
          have HZ := Lib.hid hz
          clear hz
          go_wp2
          go_roundw
          case rel => exact ⟨pos + 1, by omega, rfl, by rw [HPW.out, ← HZ.out]; go_num⟩
          case measure => simp; omega
        · obtain rfl : pos = E.size := by omega
          have hnx : ∀ ty, (Instr.next (.pointer (some ⟨w3.heap.size, 0, none⟩)) true ty).run Tryz.prog (w3.iter E E.size) = _ := fun ty => run_next_end w3 E E.size ty hlt
          have hpw := pow10_le (show E.size ≤ 18 by omega)
          obtain ⟨D9, hD9⟩ : ∃ z : Nat, z = 10 ^ E.size := ⟨_, rfl⟩
          rw [← hD9] at hpw ⊢
          have HD9 := Lib.hid hD9
          clear hD9
          go_upto_region 19 with (fail)
          obtain ⟨w4, hw⟩ : ∃ z9 : World, z9 = w3.iter E E.size := ⟨_, rfl⟩
          have HB4 := Lib.hid (show Below w3.heap.size w3 w4 by rw [hw]; exact iter_below _ _ _)
          rw [← hw]
          clear hw hnx
          have F4t := Lib.hid (F3t.out.belowW HB4.out)
          have F4r := Lib.hid (F3r.out.belowW HB4.out)
          have HL4 := Lib.hid (HL3.out.trans (HB4.out.mono HL3.out.size))
          cases ng with
          | true =>
            go_wp2_with fail
            refine (make_q (-(V : Int)) (D9 : Int) w4 (by omega) (by omega) (by omega) (by omega)).mono ?_
            rintro e w5 ⟨rfl, HB5⟩
            have F5t := Lib.hid (F4t.out.belowW HB5.out)
            have F5r := Lib.hid (F4r.out.belowW HB5.out)
            have HL5 := Lib.hid (HL4.out.trans (HB5.out.mono HL4.out.size))
            have pr0 : (w5).cell? ⟨w.heap.size, 0, none⟩ = some (.int .i64 0) := F5r.out.cell 0
            have fr0 : (w5).frozen? ⟨w.heap.size, 0, none⟩ = false := F5r.out.frozen 0
            have pr1 : (w5).cell? ⟨w.heap.size, 1, none⟩ = some (.int .i64 0) := F5r.out.cell 1
            have fr1 : (w5).frozen? ⟨w.heap.size, 1, none⟩ = false := F5r.out.frozen 1
            go_wp2_with fail
            refine bodyPost_ret (v := .tuple #[.agg #[.int .i64 (make (-(V : Int)) (D9 : Int)).1, .int .i64 (make (-(V : Int)) (D9 : Int)).2.1], .int .i64 (make (-(V : Int)) (D9 : Int)).2.2]) (by simp [results, Tryz.results166, go_sem, pr0, pr1]) rfl ?_
            rw [show read1 s.data.toList = make (-(V : Int)) (D9 : Int) from HRD.out.trans (by rw [DA.out, if_neg HB9.out, HVV.out, HD9.out, HES.out]; rfl)]
            exact ⟨rfl, Lib.hid (store2_below HL5.out F5r.out _ _ (Nat.le_refl _))⟩
          | false =>
            go_wp2_with fail
            refine (make_q (V : Int) (D9 : Int) w4 (by omega) (by omega) (by omega) (by omega)).mono ?_
            rintro e w5 ⟨rfl, HB5⟩
            have F5t := Lib.hid (F4t.out.belowW HB5.out)
            have F5r := Lib.hid (F4r.out.belowW HB5.out)
            have HL5 := Lib.hid (HL4.out.trans (HB5.out.mono HL4.out.size))
            have pr0 : (w5).cell? ⟨w.heap.size, 0, none⟩ = some (.int .i64 0) := F5r.out.cell 0
            have fr0 : (w5).frozen? ⟨w.heap.size, 0, none⟩ = false := F5r.out.frozen 0
            have pr1 : (w5).cell? ⟨w.heap.size, 1, none⟩ = some (.int .i64 0) := F5r.out.cell 1
            have fr1 : (w5).frozen? ⟨w.heap.size, 1, none⟩ = false := F5r.out.frozen 1
            go_wp2_with fail
            refine bodyPost_ret (v := .tuple #[.agg #[.int .i64 (make (V : Int) (D9 : Int)).1, .int .i64 (make (V : Int) (D9 : Int)).2.1], .int .i64 (make (V : Int) (D9 : Int)).2.2]) (by simp [results, Tryz.results166, go_sem, pr0, pr1]) rfl ?_
            rw [show read1 s.data.toList = make (V : Int) (D9 : Int) from HRD.out.trans (by rw [DA.out, if_neg HB9.out, HVV.out, HD9.out, HES.out]; rfl)]
            exact ⟨rfl, Lib.hid (store2_below HL5.out F5r.out _ _ (Nat.le_refl _))⟩

theorem parse_any' (s : ByteArray) (w : World) (hT : RX w) (hs : s.size ≤ 1000) :
    Calls Tryz.prog 166 #[.string s] w (RtE (read1 s.data.toList) w) := by
  rcases split_plain (if (s.data.toList.head? == some 45) then s.data.toList.tail else s.data.toList) with ⟨h1, h2⟩ | ⟨a, c, b, hab, hc, h1, h2⟩
  · exact parse_none s w hT hs _ _ rfl rfl h1 h2
  · rcases hc with rfl | rfl
    · exact parse_point s w hT hs _ _ rfl rfl a b hab h1
    · by_cases h46 : (46 : UInt8) ∈ b
      · obtain ⟨x, y, hxy, hx⟩ : ∃ x y, b = x ++ 46 :: y ∧ (46 : UInt8) ∉ x := ⟨b.takeWhile (· != 46), (b.dropWhile (· != 46)).tail, by
          have h := takeWhile_append_dropWhile_tail b 46 h46
          exact h, tw_not_mem b 46⟩
        exact parse_point s w hT hs _ _ rfl rfl (a ++ 47 :: x) y (by rw [hab, hxy]; simp) (by
          intro h
          rcases List.mem_append.1 h with h | h
          · exact h1 h
          · rcases List.mem_cons.1 h with h | h
            · exact absurd h (by decide)
            · exact hx h)
      · exact parse_slash s w hT hs _ _ rfl rfl a b (by
          rw [hab]
          intro h
          rcases List.mem_append.1 h with h | h
          · exact h1 h
          · rcases List.mem_cons.1 h with h | h
            · exact absurd h (by decide)
            · exact h46 h) hab h2
end Go.Proofs.YtkjoohnndobjeaaGreatDoor
namespace Go.Proofs.YtkjoohnndobjeaaGreatDoor
open Go.RowKit Go.Fl Go.Fl.Lx Go.Fl.Nm Go.Fl.Fm Go.Fl.Rt Go.Fl.Pa
/-- What a rule for numbers answers. -/
def RtP (w0 : World) (g : Nat) (A : Option Addr) (len cap : Nat) (ts : List Tok) (m : Nat) (r : PR (Int × Int)) (w : World) (e : Ending) (w' : World) : Prop :=
  match r with
  | .ok a k1 => e = .returned (.agg #[.int .i64 a.1, .int .i64 a.2]) ∧ Hid (w.grownBy w' (some g)) ∧ Hid (Env w0 g A len cap ts k1 m w')
  | .bad ln co er => e = pan ln co er ∧ Hid (w.grownBy w' (some g))
  | .out => False
theorem rtp_unex {w0 : World} {g : Nat} {A : Option Addr} {len cap : Nat} {ts : List Tok} {m k : Nat} {w w' : World} {e : Ending} (he : e = panU ts k) (hg : Hid (w.grownBy w' (some g))) : RtP w0 g A len cap ts m (unex ts k) w e w' := by
  unfold unex failP
  unfold panU at he
  split
  · rename_i h
    rw [if_pos h] at he
    exact ⟨he, hg⟩
  · rename_i h
    rw [if_neg h] at he
    exact ⟨he, hg⟩
theorem panU_pan (ts : List Tok) (k : Nat) : ∃ c, panU ts k = .panicked c := by unfold panU; split <;> exact ⟨_, rfl⟩
theorem grown_new {w w' : World} {g r : Nat} (h : w.grownBy w' (some g)) (hr : w.heap.size ≤ r) (t : TypeId) (V : Array Value) : w.grownBy (putB w' r t V) (some g) :=
  ⟨h.os, h.tape, h.output, by rw [putB_size]; exact h.size, fun k hk hne => by
    unfold putB
    rw [Array.getElem?_setIfInBounds, if_neg (by omega)]
    exact h.block k hk hne⟩
theorem Env.far {w0 w : World} {g : Nat} {A : Option Addr} {len cap : Nat} {ts : List Tok} {k m : Nat} (h : Env w0 g A len cap ts k m w) {r : Nat} (hr : r ≠ g) (hl : w0.heap.size ≤ r) (t : TypeId) (V : Array Value) : Env w0 g A len cap ts k m (putB w r t V) :=
  ⟨h.t, h.b.trans (putB_below w r t V hl), h.lo, Blk.far h.p (Ne.symm hr) V, h.kk⟩
/-- What a make finds is small. -/
theorem make_small (x y : Int) : -4611686018427387904 ≤ (make x y).1 ∧ (make x y).1 ≤ 4611686018427387904 ∧ -4611686018427387904 ≤ (make x y).2.1 ∧ (make x y).2.1 ≤ 4611686018427387904 ∧ 0 ≤ (make x y).2.2 ∧ (make x y).2.2 ≤ 20 := by
  have e : MX = 1073741824 := rfl
  unfold make
  split
  · exact ⟨by decide, by decide, by decide, by decide, by decide, by decide⟩
  · split
    · exact ⟨by decide, by decide, by decide, by decide, by decide, by decide⟩
    · rename_i h1 h2
      obtain ⟨a, ha⟩ : ∃ a, a = x.natAbs / Nat.gcd x.natAbs y.natAbs := ⟨_, rfl⟩
      obtain ⟨b, hb⟩ : ∃ b, b = y.natAbs / Nat.gcd x.natAbs y.natAbs := ⟨_, rfl⟩
      rw [← ha, ← hb] at h2 ⊢
      simp only
      refine ⟨?_, ?_, by omega, by omega, by decide, by decide⟩
      · split <;> omega
      · split <;> omega
def SmR (r : Int × Int × Int) : Prop := -4611686018427387904 ≤ r.1 ∧ r.1 ≤ 4611686018427387904 ∧ -4611686018427387904 ≤ r.2.1 ∧ r.2.1 ≤ 4611686018427387904 ∧ 0 ≤ r.2.2 ∧ r.2.2 ≤ 20
theorem read1_small (l : List UInt8) : -4611686018427387904 ≤ (read1 l).1 ∧ (read1 l).1 ≤ 4611686018427387904 ∧ -4611686018427387904 ≤ (read1 l).2.1 ∧ (read1 l).2.1 ≤ 4611686018427387904 ∧ 0 ≤ (read1 l).2.2 ∧ (read1 l).2.2 ≤ 20 := by
  have ite_P : ∀ (c : Prop) [Decidable c] (a b : Int × Int × Int), SmR a → SmR b → SmR (if c then a else b) := fun c _ a b ha hb => by split <;> assumption
  have z3 : SmR (0, 0, 3) := ⟨by decide, by decide, by decide, by decide, by decide, by decide⟩
  have z5 : SmR (0, 0, 5) := ⟨by decide, by decide, by decide, by decide, by decide, by decide⟩
  have key : SmR (read1 l) := by
    unfold read1
    exact ite_P _ _ _ z3 (ite_P _ _ _ z5 (make_small _ _))
  exact key

/-- A number as a node. -/
def ndR (a : Int × Int) : Nd := ⟨⟨1, a.1, a.2, ⟨#[]⟩, 0⟩, none, 0, 0⟩
set_option maxHeartbeats 4000000 in
set_option maxRecDepth 100000 in
theorem pNum (a : Int × Int) (w : World) : Calls Tryz.prog 156 #[.agg #[.int .i64 a.1, .int .i64 a.2]] w (RetB (ndR a).val w) := by
  obtain ⟨n, d⟩ := a
  simp only [ndR, Nd.val]
  go_enter Tryz.func156, Tryz.ntmps156
  go_upto_region 1 with (fail)
  obtain ⟨w1, hw1⟩ : ∃ z9 : World, z9 = (w.alloc (Obj.cells #[.int .i64 n, .int .i64 d] 26)).alloc (Obj.cells #[.int .i64 0, .int .i64 0, .int .i64 0, .string ⟨#[]⟩, .int .i64 0, .slice none 0 0] 29) := ⟨_, rfl⟩
  have s1 := World.size_alloc w (Obj.cells #[.int .i64 n, .int .i64 d] 26)
  have HW := Lib.hid (show Lo w w1 by rw [hw1]; exact ((Below.refl _ _).alloc (Nat.le_refl _) _).alloc (by rw [s1]; omega) _)
  have FA := Lib.hid (show Blk w1 w.heap.size 26 #[.int .i64 n, .int .i64 d] by rw [hw1]; exact (Blk.new _ _ _).alloc _)
  have FE := Lib.hid (show Blk w1 (w.heap.size + 1) 29 #[.int .i64 0, .int .i64 0, .int .i64 0, .string ⟨#[]⟩, .int .i64 0, .slice none 0 0] by
    rw [hw1]
    have h := Blk.new (w.alloc (Obj.cells #[.int .i64 n, .int .i64 d] 26)) 29 #[.int .i64 0, .int .i64 0, .int .i64 0, .string ⟨#[]⟩, .int .i64 0, .slice none 0 0]
    rwa [s1] at h)
  rw [← hw1]
  clear hw1 s1
  obtain ⟨a0, f0, a1, f1⟩ := FA.out.all2
  obtain ⟨e0, h0, e1, h1, e2, h2, e3, h3, e4, h4, e5, h5⟩ := FE.out.all6
  go_wp2_with fail
  rw [pst6 FE.out]
  have FZ := Lib.hid (FE.out.put #[.int .i64 1, .int .i64 n, .int .i64 d, .string ⟨#[]⟩, .int .i64 0, .slice none 0 0])
  obtain ⟨e0', _, e1', _, e2', _, e3', _, e4', _, e5', _⟩ := FZ.out.all6
  refine bodyPost_ret (v := .agg #[.int .i64 1, .int .i64 n, .int .i64 d, .string ⟨#[]⟩, .int .i64 0, .slice none 0 0]) (by simp [results, Tryz.results156, go_sem, e0', e1', e2', e3', e4', e5']) rfl ?_
  exact ⟨rfl, Lib.hid (HW.out.put (by omega) _ _)⟩

set_option maxHeartbeats 4000000 in
set_option maxRecDepth 100000 in
theorem pFraction {w0 w : World} {g : Nat} {A : Option Addr} {len cap : Nat} {ts : List Tok} {k m : Nat} (h : Env w0 g A len cap ts k m w) (hk : k ≤ 140000) : Calls Tryz.prog 139 #[.pointer (some ⟨g, 0, none⟩)] w (RetB (.bool (fracP ts k)) w) := by
  have KS := Lib.hid (pSign h)
  have HV := Lib.hid h
  have hs := signP_le ts k
  obtain ⟨s, hss⟩ : ∃ s, s = signP ts k := ⟨_, rfl⟩
  obtain ⟨a, ha⟩ : ∃ a, integerP ts (k + s) = a := ⟨_, rfl⟩
  obtain ⟨b, hb⟩ : ∃ a, isS false ts (k + (s + 1)) [47] = a := ⟨_, rfl⟩
  obtain ⟨c, hc⟩ : ∃ a, integerP ts (k + (s + 2)) = a := ⟨_, rfl⟩
  have HE := Lib.hid (show fracP ts k = (a && (b && c)) by unfold fracP; rw [← hss, ha, Nat.add_assoc k s 1, hb, Nat.add_assoc k s 2, hc])
  rw [← hss] at KS hs
  rw [HE.out]
  have KA := Lib.hid (fun (w1 : World) (hb : Below w.heap.size w w1) => pInteger (HV.out.belowW hb) s (by omega))
  have KB := Lib.hid (fun (w1 : World) (hb : Below w.heap.size w w1) => pIs (HV.out.belowW hb) (s + 1) (by omega) ⟨#[47]⟩)
  have KC := Lib.hid (fun (w1 : World) (hb : Below w.heap.size w w1) => pInteger (HV.out.belowW hb) (s + 2) (by omega))
  rw [show kwP (⟨#[47]⟩ : ByteArray).data.toList = false by decide, show (⟨#[47]⟩ : ByteArray).data.toList = [47] from rfl, hb] at KB
  rw [ha] at KA
  rw [hc] at KC
  have e1 : IntKind.i64.wrap ((s : Int) + 1) = (s : Int) + 1 := by rw [IntKind.wrap_i64]; omega
  have e2 : IntKind.i64.wrap ((s : Int) + 2) = (s : Int) + 2 := by rw [IntKind.wrap_i64]; omega
  clear h hss ha hb hc HE
  go_enter Tryz.func139, Tryz.ntmps139
  go_wp2_with fail
  refine KS.out.mono ?_
  rintro e w2 ⟨rfl, HB2⟩
  go_wp2_with fail
  refine (KA.out w2 HB2.out).mono ?_
  rintro e w3 ⟨rfl, HB3⟩
  have HW3 := Lib.hid (HB2.out.trans (HB3.out.mono HB2.out.size))
  cases a with
  | false =>
    go_wp2_with fail
    go_ret
    exact ⟨rfl, HW3⟩
  | true =>
    go_wp2_with fail
    refine (KB.out w3 HW3.out).mono ?_
    rintro e w4 ⟨rfl, HB4⟩
    have HW4 := Lib.hid (HW3.out.trans (HB4.out.mono HW3.out.size))
    cases b with
    | false =>
      go_wp2_with fail
      go_ret
      exact ⟨rfl, HW4⟩
    | true =>
      go_wp2_with fail
      refine (KC.out w4 HW4.out).mono ?_
      rintro e w5 ⟨rfl, HB5⟩
      go_wp2_with fail
      go_ret
      exact ⟨rfl, Lib.hid (HW4.out.trans (HB5.out.mono HW4.out.size))⟩

set_option maxHeartbeats 4000000 in
set_option maxRecDepth 100000 in
theorem pNumber {w0 w : World} {g : Nat} {A : Option Addr} {len cap : Nat} {ts : List Tok} {k m : Nat} (h : Env w0 g A len cap ts k m w) (hk : k ≤ 130000) (hR : RX w0) : Calls Tryz.prog 141 #[.pointer (some ⟨g, 0, none⟩)] w (RtP w0 g A len cap ts m (numP ts k) w) := by
  obtain ⟨b, hb⟩ : ∃ b, isS false ts k [45] = b := ⟨_, rfl⟩
  have hsg : signP ts k = if b = true then 1 else 0 := by unfold signP; rw [hb]
  go_enter Tryz.func141, Tryz.ntmps141
  go_upto_region 1 with (fail)
  obtain ⟨w1, hw1⟩ : ∃ z9 : World, z9 = w.alloc (Obj.cells #[.int .i64 0, .int .i64 0] 26) := ⟨_, rfl⟩
  have O1 := Lib.hid (show Below w.heap.size w w1 by rw [hw1]; exact below_box _ _)
  have F1 := Lib.hid (show Blk w1 w.heap.size 26 #[.int .i64 0, .int .i64 0] by rw [hw1]; exact Blk.new _ _ _)
  rw [← hw1]
  clear hw1
  have KA := Lib.hid (pAccept (h.belowW O1.out) (by omega) ⟨#[45]⟩)
  have HNE := Lib.hid (show some w.heap.size ≠ some g from fun e => by have := h.gl; injection e with e; omega)
  rw [show kwP (⟨#[45]⟩ : ByteArray).data.toList = false by decide, show (⟨#[45]⟩ : ByteArray).data.toList = [45] from rfl, hb] at KA
  go_wp2_with fail
  refine KA.out.mono ?_
  rintro e w2 ⟨rfl, HG2, HV⟩
  have HG := Lib.hid (grown_tr (grown_of (some g) O1.out) HG2.out)
  have F2 := Lib.hid (F1.out.grown HG2.out HNE.out)
  obtain ⟨k1, hk1⟩ : ∃ k1, k1 = k + signP ts k := ⟨_, rfl⟩
  have hkk : (if b = true then k + 1 else k) = k1 := by rw [hk1, hsg]; split <;> rfl
  rw [hkk] at HV
  obtain ⟨T, hTT⟩ : ∃ t, t = tk ts k1 := ⟨_, rfl⟩
  have HT := Lib.hid hTT
  have HK1 := Lib.hid hk1
  have HSG := Lib.hid hsg
  have HBB := Lib.hid hb
  have HHH := Lib.hid h
  have hk1b : k1 ≤ 130001 := by rw [hk1, hsg]; split <;> omega
  clear hTT hk1 hkk hsg hb h
  have HV2 := HV
  by_cases hk2 : T.kind = 2
  case neg =>
    have HNP := Lib.hid (show numP ts k = unex ts k1 by unfold numP; rw [← HK1.out, ← HT.out, if_pos hk2])
    have d1 : ((T.kind : Int) != 2) = true := by rw [bne_iff_ne]; omega
    go_wp2_with fail
    refine (HV.out.tok 0 (by omega)).mono ?_
    rw [Nat.add_zero, ← HT.out]
    rintro e w3 ⟨rfl, HB3⟩
    have hF := tokF0 T
    go_wp2_with fail
    refine ((HV.out.belowW HB3.out).unx).mono ?_
    rintro e w4 ⟨he, HB4⟩
    obtain ⟨c, hc⟩ := panU_pan ts k1
    have HC := Lib.hid hc
    rw [hc] at he
    subst he
    clear hc
    go_wp2_with fail
    rw [HNP.out]
    exact ⟨rfl, rtp_unex HC.out.symm (Lib.hid (grown_tr HG.out (grown_tr (grown_of _ HB3.out) (grown_of _ HB4.out))))⟩
  have d1 : ((T.kind : Int) != 2) = false := by rw [hk2]; rfl
  obtain ⟨n, d, er, hr⟩ : ∃ n d er, read1 T.text = (n, d, er) := ⟨_, _, _, rfl⟩
  have hsm := read1_small T.text
  rw [hr] at hsm
  simp only at hsm
  obtain ⟨hn1, hn2, hd1, hd2, he1, he2⟩ := hsm
  go_wp2_with fail
  refine (HV.out.tok 0 (by omega)).mono ?_
  rw [Nat.add_zero, ← HT.out]
  rintro e w3 ⟨rfl, HB3⟩
  have hF := tokF0 T
  have hF1 := tokF1 T
  go_wp2_with fail
  refine ((HV.out.belowW HB3.out).tok 0 (by omega)).mono ?_
  rw [Nat.add_zero, ← HT.out]
  rintro e w4 ⟨rfl, HB4⟩
  have HV4 := Lib.hid ((HV.out.belowW HB3.out).belowW HB4.out)
  go_wp2_with fail
  refine (parse_any' ⟨T.text.toArray⟩ w4 (hR.belowW HV4.out.b) (by have := (HV4.out.t.tk k1).1; rw [← HT.out] at this; show T.text.length ≤ 1000; omega)).mono ?_
  rw [show (⟨T.text.toArray⟩ : ByteArray).data.toList = T.text from rfl, hr]
  rintro e w5 ⟨rfl, HB5⟩
  have HB345 := Lib.hid (HB3.out.trans ((HB4.out.trans (HB5.out.mono HB4.out.size)).mono HB3.out.size))
  have HV5 := Lib.hid (HV4.out.belowW HB5.out)
  have HG5 := Lib.hid (grown_tr HG.out (grown_of (some g) HB345.out))
  have F5 := Lib.hid (F2.out.belowW HB345.out)
  go_upto_region 5 with (fail)
  obtain ⟨w6, hw6⟩ : ∃ z9 : World, z9 = w5.alloc (Obj.cells #[.int .i64 n, .int .i64 d] 26) := ⟨_, rfl⟩
  have HB6 := Lib.hid (show Below w5.heap.size w5 w6 by rw [hw6]; exact below_box _ _)
  have Q6 := Lib.hid (show Blk w6 w5.heap.size 26 #[.int .i64 n, .int .i64 d] by rw [hw6]; exact Blk.new _ _ _)
  rw [← hw6]
  clear hw6
  have HV6 := Lib.hid (HV5.out.belowW HB6.out)
  have HG6 := Lib.hid (grown_tr HG5.out (grown_of (some g) HB6.out))
  have F6 := Lib.hid (F5.out.belowW HB6.out)
  by_cases her : er = 0
  case neg =>
    have HNP := Lib.hid (show numP ts k = failP ts k1 er.toNat by unfold numP; rw [← HK1.out, ← HT.out, if_neg (by rw [hk2]; simp), hr, if_pos her])
    have d2 : (er != 0) = true := by rw [bne_iff_ne]; exact her
    go_wp2_with fail
    refine (HV6.out.fail er).mono ?_
    rw [← HT.out]
    rintro e w7 ⟨rfl, HB7⟩
    go_wp2_with fail
    rw [HNP.out]
    unfold failP RtP
    rw [← HT.out]
    exact ⟨rfl, by rw [Int.toNat_of_nonneg he1], Lib.hid (grown_tr HG6.out (grown_of _ HB7.out))⟩
  subst her
  have HNP := Lib.hid (show numP ts k = .ok ((if b = true then -n else n), d) (k1 + 1) by
    unfold numP
    rw [← HK1.out, ← HT.out, if_neg (by rw [hk2]; simp), hr, if_neg (by simp), HBB.out])
  have hqg : w5.heap.size ≠ g := Nat.ne_of_gt HV5.out.gl
  have hwr : w.heap.size ≠ g := fun e => HNE.out (by rw [e])
  have hqr : w.heap.size ≠ w5.heap.size := Nat.ne_of_lt F5.out.lt
  have hws : w.heap.size ≤ w5.heap.size := Nat.le_of_lt F5.out.lt
  have hlo : w0.heap.size ≤ w5.heap.size := HV5.out.b.size
  have hlr : w0.heap.size ≤ w.heap.size := HHH.out.b.size
  have e1 : IntKind.i64.wrap ((k1 : Int) + 1) = (k1 : Int) + 1 := by rw [IntKind.wrap_i64]; omega
  have HP6 := Lib.hid (show Blk w6 g 140 #[.slice A len cap, .int .i64 (k1 : Nat), .int .i64 (m : Nat)] from HV6.out.p)
  have p1 : w6.cell? ⟨g, 1, none⟩ = some (.int .i64 (k1 : Nat)) := HP6.out.cell 1
  have f1 : w6.frozen? ⟨g, 1, none⟩ = false := HP6.out.frozen 1
  go_upto_region 8 with (fail)
  rw [HP6.out.setCell_eq]
  have HV7 := Lib.hid (HV6.out.put (k1 + 1) m (by omega))
  have Q7 := Lib.hid (Q6.out.far (t' := 140) hqg #[.slice A len cap, .int .i64 ((k1 + 1 : Nat) : Int), .int .i64 (m : Nat)])
  have F7 := Lib.hid (F6.out.far (t' := 140) hwr #[.slice A len cap, .int .i64 ((k1 + 1 : Nat) : Int), .int .i64 (m : Nat)])
  have HG7 := Lib.hid (grown_tr HG6.out (putB_grown w6 g 140 #[.slice A len cap, .int .i64 ((k1 + 1 : Nat) : Int), .int .i64 (m : Nat)]))
  clear p1 f1 HP6
  obtain ⟨w7, hw7⟩ : ∃ z9 : World, z9 = putB w6 g 140 #[.slice A len cap, .int .i64 ((k1 + 1 : Nat) : Int), .int .i64 (m : Nat)] := ⟨_, rfl⟩
  have hw7' : putB w6 g 140 ((#[.slice A len cap, .int .i64 (k1 : Nat), .int .i64 (m : Nat)] : Array Value).setIfInBounds 1 (.int .i64 ((k1 : Int) + 1))) = w7 := by rw [hw7]; rfl
  rw [← hw7] at HV7 Q7 F7 HG7
  rw [hw7']
  clear hw7 hw7'
  cases b with
  | false =>
    obtain ⟨q0, g0, q1, g1⟩ := Q7.out.all2
    obtain ⟨r0, h0, r1, h1⟩ := F7.out.all2
    go_wp2_with fail
    rw [pst2 F7.out]
    have FZ := Lib.hid (F7.out.put #[.int .i64 n, .int .i64 d])
    obtain ⟨z0, _, z1, _⟩ := FZ.out.all2
    refine bodyPost_ret (v := .agg #[.int .i64 n, .int .i64 d]) (by simp [results, Tryz.results141, go_sem, z0, z1]) rfl ?_
    rw [HNP.out]
    exact ⟨rfl, Lib.hid (grown_new HG7.out (Nat.le_refl _) _ _), Lib.hid (HV7.out.far hwr hlr _ _)⟩
  | true =>
    have e3 : IntKind.i64.wrap (-n) = -n := by rw [IntKind.wrap_i64]; omega
    obtain ⟨q0, g0, q1, g1⟩ := Q7.out.all2
    go_upto_region 10 with (fail)
    rw [Q7.out.setCell_eq]
    have HV8 := Lib.hid (HV7.out.far hqg hlo 26 #[.int .i64 (-n), .int .i64 d])
    have Q8 := Lib.hid (Q7.out.put #[.int .i64 (-n), .int .i64 d])
    have F8 := Lib.hid (F7.out.far (t' := 26) hqr #[.int .i64 (-n), .int .i64 d])
    have HG8 := Lib.hid (grown_new HG7.out hws 26 #[.int .i64 (-n), .int .i64 d])
    clear q0 g0 q1 g1
    obtain ⟨w8, hw8⟩ : ∃ z9 : World, z9 = putB w7 w5.heap.size 26 #[.int .i64 (-n), .int .i64 d] := ⟨_, rfl⟩
    have hw8' : putB w7 w5.heap.size 26 ((#[.int .i64 n, .int .i64 d] : Array Value).setIfInBounds 0 (.int .i64 (-n))) = w8 := by rw [hw8]; rfl
    rw [← hw8] at HV8 Q8 F8 HG8
    rw [hw8']
    clear hw8 hw8'
    obtain ⟨q0, g0, q1, g1⟩ := Q8.out.all2
    obtain ⟨r0, h0, r1, h1⟩ := F8.out.all2
    go_wp2_with fail
    rw [pst2 F8.out]
    have FZ := Lib.hid (F8.out.put #[.int .i64 (-n), .int .i64 d])
    obtain ⟨z0, _, z1, _⟩ := FZ.out.all2
    refine bodyPost_ret (v := .agg #[.int .i64 (-n), .int .i64 d]) (by simp [results, Tryz.results141, go_sem, z0, z1]) rfl ?_
    rw [HNP.out]
    exact ⟨rfl, Lib.hid (grown_new HG8.out (Nat.le_refl _) _ _), Lib.hid (HV8.out.far hwr hlr _ _)⟩
end Go.Proofs.YtkjoohnndobjeaaGreatDoor
namespace Go.Proofs.YtkjoohnndobjeaaGreatDoor
open Go.RowKit Go.Fl Go.Fl.Lx Go.Fl.Nm Go.Fl.Fm Go.Fl.Rt Go.Fl.Pa
theorem numP_small {ts : List Tok} {k k1 : Nat} {a : Int × Int} (h : numP ts k = .ok a k1) : -4611686018427387904 ≤ a.1 ∧ a.1 ≤ 4611686018427387904 := by
  unfold numP at h
  split at h
  · exact (unex_ok h).elim
  · split at h
    · exact (fail_ok h).elim
    · have hs := read1_small (tk ts (k + signP ts k)).text
      injection h with h1 h2
      rw [← h1]
      simp only
      split <;> omega
theorem rtp_bad {w0 : World} {g : Nat} {A : Option Addr} {len cap : Nat} {ts : List Tok} {m ln co er : Nat} {w w' : World} (hg : Hid (w.grownBy w' (some g))) : RtP w0 g A len cap ts m (.bad ln co er) w (pan ln co er) w' := ⟨rfl, hg⟩
theorem rtp_fail {w0 : World} {g : Nat} {A : Option Addr} {len cap : Nat} {ts : List Tok} {m k : Nat} {er : Int} (he : 0 ≤ er) {w w' : World} (hg : Hid (w.grownBy w' (some g))) : RtP w0 g A len cap ts m (failP ts k er.toNat) w (pan (tk ts k).line (tk ts k).col er) w' := by
  unfold failP
  have h := rtp_bad (w0 := w0) (A := A) (len := len) (cap := cap) (ts := ts) (m := m) (ln := (tk ts k).line) (co := (tk ts k).col) (er := er.toNat) hg
  rwa [Int.toNat_of_nonneg he] at h

set_option maxHeartbeats 4000000 in
set_option maxRecDepth 100000 in
theorem pQuotient {w0 w : World} {g : Nat} {A : Option Addr} {len cap : Nat} {ts : List Tok} {k m : Nat} (h : Env w0 g A len cap ts k m w) (hk : k ≤ 120000) (hR : RX w0) : Calls Tryz.prog 140 #[.pointer (some ⟨g, 0, none⟩)] w (RtP w0 g A len cap ts m (quotP ts k) w) := by
  have HHH := Lib.hid h
  have hlen : ts.length ≤ 100000 := by have := h.t.hl; have := h.t.hs; omega
  go_enter Tryz.func140, Tryz.ntmps140
  go_upto_region 1 with (fail)
  obtain ⟨w1, hw1⟩ : ∃ z9 : World, z9 = w.alloc (Obj.cells #[.int .i64 0, .int .i64 0] 26) := ⟨_, rfl⟩
  have O1 := Lib.hid (show Below w.heap.size w w1 by rw [hw1]; exact below_box _ _)
  have F1 := Lib.hid (show Blk w1 w.heap.size 26 #[.int .i64 0, .int .i64 0] by rw [hw1]; exact Blk.new _ _ _)
  rw [← hw1]
  clear hw1
  have HNE := Lib.hid (show some w.heap.size ≠ some g from fun e => by have := h.gl; injection e with e; omega)
  have KN := Lib.hid (pNumber (h.belowW O1.out) (by omega) hR)
  have hwr : w.heap.size ≠ g := fun e => HNE.out (by rw [e])
  have hlr : w0.heap.size ≤ w.heap.size := h.b.size
  have hws : w.heap.size < w1.heap.size := F1.out.lt
  clear h
  cases hn : numP ts k with
  | out => exact (numP_out hn).elim
  | bad ln co er =>
    rw [hn] at KN
    have HQ := Lib.hid (show quotP ts k = .bad ln co er by unfold quotP; rw [hn]; rfl)
    clear hn
    go_wp2_with fail
    refine KN.out.mono ?_
    rintro e w2 ⟨rfl, HG⟩
    go_wp2_with fail
    rw [HQ.out]
    exact ⟨rfl, rtp_bad (Lib.hid (grown_tr (grown_of _ O1.out) HG.out))⟩
  | ok a k1 =>
    rw [hn] at KN
    have hsm := numP_small hn
    have hfw := numP_ok hn
    have HQ := Lib.hid (show quotP ts k = (if !isS false ts k1 [47] then unex ts k1
      else if (read1 (tk ts (k1 + 1)).text).2.2 ≠ 0 then failP ts (k1 + 1) (read1 (tk ts (k1 + 1)).text).2.2.toNat
      else if (make a.1 (read1 (tk ts (k1 + 1)).text).1).2.2 ≠ 0 then failP ts (k1 + 1) (make a.1 (read1 (tk ts (k1 + 1)).text).1).2.2.toNat
      else .ok ((make a.1 (read1 (tk ts (k1 + 1)).text).1).1, (make a.1 (read1 (tk ts (k1 + 1)).text).1).2.1) (k1 + 2)) by unfold quotP; rw [hn]; rfl)
    obtain ⟨an, ad⟩ := a
    clear hn
    go_wp2_with fail
    refine KN.out.mono ?_
    rintro e w2 ⟨rfl, HG2, HV2⟩
    have HG := Lib.hid (grown_tr (grown_of (some g) O1.out) HG2.out)
    have F2 := Lib.hid (F1.out.grown HG2.out HNE.out)
    have hws2 := HG2.out.size
    go_upto_region 2 with (fail)
    obtain ⟨w3, hw3⟩ : ∃ z9 : World, z9 = w2.alloc (Obj.cells #[.int .i64 an, .int .i64 ad] 26) := ⟨_, rfl⟩
    have HB3 := Lib.hid (show Below w2.heap.size w2 w3 by rw [hw3]; exact below_box _ _)
    have Q3 := Lib.hid (show Blk w3 w2.heap.size 26 #[.int .i64 an, .int .i64 ad] by rw [hw3]; exact Blk.new _ _ _)
    rw [← hw3]
    clear hw3
    have HV3 := Lib.hid (HV2.out.belowW HB3.out)
    have HG3 := Lib.hid (grown_tr HG.out (grown_of (some g) HB3.out))
    have F3 := Lib.hid (F2.out.belowW HB3.out)
    have hqg : w2.heap.size ≠ g := Nat.ne_of_gt HV2.out.gl
    have HNQ := Lib.hid (show some w2.heap.size ≠ some g from fun e => hqg (Option.some.inj e))
    have hqr : w.heap.size ≠ w2.heap.size := by omega
    have hwq : w.heap.size ≤ w2.heap.size := by omega
    have hlo : w0.heap.size ≤ w2.heap.size := HV2.out.b.size
    cases hc : isS false ts k1 [47] with
    | false =>
      have HQ2 := Lib.hid (show quotP ts k = unex ts k1 by rw [HQ.out, hc]; rfl)
      have KW := Lib.hid (pWantN HV3.out (by omega) ⟨#[47]⟩ (by rw [show kwP (⟨#[47]⟩ : ByteArray).data.toList = false by decide]; exact hc))
      clear hc HQ
      go_wp2_with fail
      refine KW.out.mono ?_
      rintro e w4 ⟨he, HG4⟩
      obtain ⟨c, hc⟩ := panU_pan ts k1
      have HC := Lib.hid hc
      rw [hc] at he
      subst he
      clear hc
      go_wp2_with fail
      rw [HQ2.out]
      exact ⟨rfl, rtp_unex HC.out.symm (Lib.hid (grown_tr HG3.out HG4.out))⟩
    | true =>
      have KW := Lib.hid (pWantY HV3.out (by omega) ⟨#[47]⟩ (by rw [show kwP (⟨#[47]⟩ : ByteArray).data.toList = false by decide]; exact hc))
      obtain ⟨T, hTT⟩ : ∃ t, t = tk ts (k1 + 1) := ⟨_, rfl⟩
      have HT := Lib.hid hTT
      obtain ⟨n, d, er, hr⟩ : ∃ n d er, read1 T.text = (n, d, er) := ⟨_, _, _, rfl⟩
      have hss := read1_small T.text
      rw [hr] at hss
      simp only at hss
      obtain ⟨hn1, hn2, hd1, hd2, he1, he2⟩ := hss
      obtain ⟨x, y, e9, hm9⟩ : ∃ x y e9, make an n = (x, y, e9) := ⟨_, _, _, rfl⟩
      have hsm9 := make_small an n
      rw [hm9] at hsm9
      simp only at hsm9 hsm
      have HQ2 := Lib.hid (show quotP ts k = (if er ≠ 0 then failP ts (k1 + 1) er.toNat else if e9 ≠ 0 then failP ts (k1 + 1) e9.toNat else .ok (x, y) (k1 + 2)) by
        rw [HQ.out, hc, ← hTT, hr]
        simp only [hm9]
        rfl)
      have HR9 := Lib.hid hr
      have HM9 := Lib.hid hm9
      clear hc HQ hTT hr hm9
      go_wp2_with fail
      refine KW.out.mono ?_
      rintro e w4 ⟨rfl, HG4, HV4⟩
      have F4 := Lib.hid (F3.out.grown HG4.out HNE.out)
      have Q4 := Lib.hid (Q3.out.grown HG4.out HNQ.out)
      go_wp2_with fail
      refine (HV4.out.tok 0 (by omega)).mono ?_
      rw [Nat.add_zero, ← HT.out]
      rintro e w5 ⟨rfl, HB5⟩
      have HV5 := Lib.hid (HV4.out.belowW HB5.out)
      have hF1 := tokF1 T
      go_wp2_with fail
      refine (parse_any' ⟨T.text.toArray⟩ w5 (hR.belowW HV5.out.b) (by have := (HV5.out.t.tk (k1 + 1)).1; rw [← HT.out] at this; show T.text.length ≤ 1000; omega)).mono ?_
      rw [show (⟨T.text.toArray⟩ : ByteArray).data.toList = T.text from rfl, HR9.out]
      rintro e w6 ⟨rfl, HB6⟩
      have HB56 := Lib.hid (HB5.out.trans (HB6.out.mono HB5.out.size))
      go_upto_region 4 with (fail)
      obtain ⟨w7, hw7⟩ : ∃ z9 : World, z9 = w6.alloc (Obj.cells #[.int .i64 n, .int .i64 d] 26) := ⟨_, rfl⟩
      have HB7 := Lib.hid (show Below w6.heap.size w6 w7 by rw [hw7]; exact below_box _ _)
      have P7 := Lib.hid (show Blk w7 w6.heap.size 26 #[.int .i64 n, .int .i64 d] by rw [hw7]; exact Blk.new _ _ _)
      rw [← hw7]
      clear hw7
      have HB47 := Lib.hid (HB56.out.trans (HB7.out.mono HB56.out.size))
      have HV7 := Lib.hid (HV4.out.belowW HB47.out)
      have F7 := Lib.hid (F4.out.belowW HB47.out)
      have Q7 := Lib.hid (Q4.out.belowW HB47.out)
      have HG7 := Lib.hid (grown_tr HG3.out (grown_tr HG4.out (grown_of (some g) HB47.out)))
      by_cases her : er = 0
      case neg =>
        have HQ3 := Lib.hid (show quotP ts k = failP ts (k1 + 1) er.toNat by rw [HQ2.out, if_pos her])
        have d1 : (er == 0) = false := by rw [beq_eq_false_iff_ne]; exact her
        have d2 : (er != 0) = true := by rw [bne_iff_ne]; exact her
        go_wp2_with fail
        refine (HV7.out.fail er).mono ?_
        rintro e w8 ⟨rfl, HB8⟩
        go_wp2_with fail
        rw [HQ3.out]
        exact ⟨rfl, rtp_fail he1 (Lib.hid (grown_tr HG7.out (grown_of _ HB8.out)))⟩
      subst her
      obtain ⟨q0, g0, q1, g1⟩ := Q7.out.all2
      obtain ⟨p0, _, p1, _⟩ := P7.out.all2
      go_wp2_with fail
      refine (make_q an n w7 (by omega) (by omega) (by omega) (by omega)).mono ?_
      rw [HM9.out]
      rintro e w8 ⟨rfl, HB8⟩
      have Q8 := Lib.hid (Q7.out.belowW HB8.out)
      have F8 := Lib.hid (F7.out.belowW HB8.out)
      have HV8 := Lib.hid (HV7.out.belowW HB8.out)
      have HG8 := Lib.hid (grown_tr HG7.out (grown_of (some g) HB8.out))
      clear q0 g0 q1 g1 p0 p1
      obtain ⟨q0, g0, q1, g1⟩ := Q8.out.all2
      go_upto_region 6 with (fail)
      rw [pst2 Q8.out]
      have HV9 := Lib.hid (HV8.out.far hqg hlo 26 #[.int .i64 x, .int .i64 y])
      have Q9 := Lib.hid (Q8.out.put #[.int .i64 x, .int .i64 y])
      have F9 := Lib.hid (F8.out.far (t' := 26) hqr #[.int .i64 x, .int .i64 y])
      have HG9 := Lib.hid (grown_new HG8.out hwq 26 #[.int .i64 x, .int .i64 y])
      clear q0 g0 q1 g1
      obtain ⟨w9, hw9⟩ : ∃ z9 : World, z9 = putB w8 w2.heap.size 26 #[.int .i64 x, .int .i64 y] := ⟨_, rfl⟩
      rw [← hw9] at HV9 Q9 F9 HG9 ⊢
      clear hw9
      by_cases he9 : e9 = 0
      case neg =>
        have HQ3 := Lib.hid (show quotP ts k = failP ts (k1 + 1) e9.toNat by rw [HQ2.out, if_neg (by simp), if_pos he9])
        have d2 : (e9 != 0) = true := by rw [bne_iff_ne]; exact he9
        go_wp2_with fail
        refine (HV9.out.fail e9).mono ?_
        rintro e wa ⟨rfl, HBa⟩
        go_wp2_with fail
        rw [HQ3.out]
        exact ⟨rfl, rtp_fail hsm9.2.2.2.2.1 (Lib.hid (grown_tr HG9.out (grown_of _ HBa.out)))⟩
      subst he9
      have HQ3 := Lib.hid (show quotP ts k = .ok (x, y) (k1 + 2) by rw [HQ2.out, if_neg (by simp), if_neg (by simp)])
      have e1 : IntKind.i64.wrap ((k1 : Int) + 1 + 1) = (k1 : Int) + 1 + 1 := by rw [IntKind.wrap_i64]; omega
      have HP := Lib.hid (show Blk w9 g 140 #[.slice A len cap, .int .i64 ((k1 : Int) + 1), .int .i64 (m : Nat)] from HV9.out.p)
      have p1 : w9.cell? ⟨g, 1, none⟩ = some (.int .i64 ((k1 : Int) + 1)) := HP.out.cell 1
      have f1 : w9.frozen? ⟨g, 1, none⟩ = false := HP.out.frozen 1
      go_upto_region 9 with (fail)
      rw [HP.out.setCell_eq]
      have HVa := Lib.hid (HV9.out.put (k1 + 2) m (by omega))
      have Qa := Lib.hid (Q9.out.far (t' := 140) hqg #[.slice A len cap, .int .i64 ((k1 + 2 : Nat) : Int), .int .i64 (m : Nat)])
      have Fa := Lib.hid (F9.out.far (t' := 140) hwr #[.slice A len cap, .int .i64 ((k1 + 2 : Nat) : Int), .int .i64 (m : Nat)])
      have HGa := Lib.hid (grown_tr HG9.out (putB_grown w9 g 140 #[.slice A len cap, .int .i64 ((k1 + 2 : Nat) : Int), .int .i64 (m : Nat)]))
      clear p1 f1
      obtain ⟨wa, hwa⟩ : ∃ z9 : World, z9 = putB w9 g 140 #[.slice A len cap, .int .i64 ((k1 + 2 : Nat) : Int), .int .i64 (m : Nat)] := ⟨_, rfl⟩
      have hwa' : putB w9 g 140 ((#[.slice A len cap, .int .i64 ((k1 : Int) + 1), .int .i64 (m : Nat)] : Array Value).setIfInBounds 1 (.int .i64 ((k1 : Int) + 1 + 1))) = wa := by rw [hwa]; rfl
      rw [← hwa] at HVa Qa Fa HGa
      rw [hwa']
      clear hwa hwa' HP
      obtain ⟨q0, g0, q1, g1⟩ := Qa.out.all2
      obtain ⟨r0, h0, r1, h1⟩ := Fa.out.all2
      go_wp2_with fail
      rw [pst2 Fa.out]
      have FZ := Lib.hid (Fa.out.put #[.int .i64 x, .int .i64 y])
      obtain ⟨z0, _, z1, _⟩ := FZ.out.all2
      refine bodyPost_ret (v := .agg #[.int .i64 x, .int .i64 y]) (by simp [results, Tryz.results140, go_sem, z0, z1]) rfl ?_
      rw [HQ3.out]
      exact ⟨rfl, Lib.hid (grown_new HGa.out (Nat.le_refl _) _ _), Lib.hid (HVa.out.far hwr hlr _ _)⟩
end Go.Proofs.YtkjoohnndobjeaaGreatDoor
